/- Wide numbers, and the document's numbers, by contracts over whole numbers. -/
import Derived.Test.YtcifcohkjifadaaRb
import Derived.Test.YtcifcohkjifadaaNWq
import Derived.Test.YtcifcohkjifadaaNPn
set_option linter.unusedVariables false
set_option linter.unusedSimpArgs false
namespace Go.Proofs.Ytcifcohkjifadaa
open Go Go.RowKit Go.Proofs.Ytcifcohkjifadaa.MT Go.Proofs.Ytcifcohkjifadaa.Fx Go.Proofs.YtcifcohkjifadaaW.PrintWords Go.Proofs.YtcifcohkjifadaaW.PrintLast
/-- The program's number. -/
def wv (z : Int) : Value := .agg #[.bool (decide (z < 0)), .int .u64 (spl0 z.natAbs), .int .u64 (spl1 z.natAbs), .int .u64 (spl2 z.natAbs), .int .u64 (spl3 z.natAbs)]
abbrev wc (z : Int) : List Value := (wv z).cells.toList
def ptv (x y : Int) : Value := .agg #[.int .i64 x, .int .i64 y]
abbrev ptc (x y : Int) : List Value := (ptv x y).cells.toList
theorem tyW : AggTy Try.prog 44 5 := ⟨⟨_, Try.underlying44, rfl⟩, by kernel_rfl⟩
theorem tyP : AggTy Try.prog 66 2 := ⟨⟨_, Try.underlying66, rfl⟩, by kernel_rfl⟩
theorem tyN : AggTy Try.prog 48 2 := ⟨⟨_, Try.underlying48, rfl⟩, by kernel_rfl⟩
instance (z : Int) : AggSP (.is (wv z)) 5 := ⟨fun h => ⟨_, h, rfl, by simp [Value.oneCell']⟩⟩
instance (x y : Int) : AggSP (.is (ptv x y)) 2 := ⟨fun h => ⟨_, h, rfl, by simp [Value.oneCell']⟩⟩
instance (x y : Int) : CellOf (.is (ptv x y)) 0 (iv x) := ⟨fun h => ⟨_, by have h : Value.agg _ = ptv x y := h; simp only [ptv, Value.agg.injEq] at h; subst h; rfl, rfl⟩⟩
instance (x y : Int) : CellOf (.is (ptv x y)) 1 (iv y) := ⟨fun h => ⟨_, by have h : Value.agg _ = ptv x y := h; simp only [ptv, Value.agg.injEq] at h; subst h; rfl, rfl⟩⟩
/-- The document's number. -/
def Fx.SP.num (L : Nat) (z : Int) : SP :=
  ⟨fun ok v W => ∃ (b : Bool) (A : Option Addr) (n c : Nat) (l : List Int), v = .agg #[.bool b, .slice A n c] ∧ n = l.length ∧ n ≤ c ∧ Kd.F (Kd.int .i64) W ok A l.length l ∧ NumP L b l z,
   fun hk ⟨b, A, n, c, l, e, h1, h2, h3, h4⟩ => ⟨b, A, n, c, l, e, h1, h2, Kd.F_mono h3 hk, h4⟩,
   fun ⟨b, A, n, c, l, e, h1, h2, h3, h4⟩ => ⟨b, A, n, c, l, e, h1, h2, Kd.F_bound h3, h4⟩,
   fun ⟨b, A, n, c, l, e, h1, h2, h3, h4⟩ hm => ⟨b, A, n, c, l, e, h1, h2, Kd.F_step h3 hm, h4⟩⟩
instance (L : Nat) (z : Int) : AggSP (SP.num L z) 2 := ⟨fun ⟨b, A, n, c, l, e, _⟩ => ⟨_, e, rfl, by simp [Value.oneCell']⟩⟩
/-- A contract out of one on values alone. -/
theorem FnC.val {f : FuncId} {vs : List Value} {r : Value} (h : ∀ W, Calls Try.prog f vs.toArray W fun e W' => e = .returned r ∧ Below W.heap.size W W') : FnC Try.prog f (vs.map SP.is) (.is r) := by
  intro ok ws W hA hk
  rw [args_is hA]
  exact (h W).mono fun e W' ⟨e1, e2⟩ => ⟨r, e1, rfl, e2⟩
theorem FnC.valT {f : FuncId} {vs rs : List Value} (h : ∀ W, Calls Try.prog f vs.toArray W fun e W' => e = .returned (.tuple rs.toArray) ∧ Below W.heap.size W W') : FnC Try.prog f (vs.map SP.is) (.tup (rs.map SP.is)) := by
  intro ok ws W hA hk
  rw [args_is hA]
  refine (h W).mono fun e W' ⟨e1, e2⟩ => ⟨_, e1, ⟨rs, rfl, ?_⟩, e2⟩
  have : ∀ rs : List Value, Args ok W' (rs.map SP.is) rs := fun rs => by
    induction rs with
    | nil => trivial
    | cons r rs ih => exact ⟨rfl, ih⟩
  exact this rs
theorem i64_lt {n : Int} (h0 : -9223372036854775808 ≤ n) (h1 : n ≤ 9223372036854775807) : (n.natAbs : Int) < top4 := by unfold top4; omega
theorem fn_Of {n : Int} (h0 : -9223372036854775808 ≤ n) (h1 : n ≤ 9223372036854775807) : FnC Try.prog 33 [iv n] (.is (wv n)) :=
  FnC.val (vs := [.int .i64 n]) fun W => wide_Of.calls n _ _ _ _ _ W (Of_int h0 h1)
theorem fn_Neg {z : Int} (h : (z.natAbs : Int) < top4) : FnC Try.prog 35 [.is (wv z)] (.is (wv (-z))) :=
  FnC.val (vs := [wv z]) fun W => by
    have e := neg_spl (decide (z < 0)) (v := z.natAbs) (by omega) h
    have e1 : (!decide (z < 0) && !decide ((z.natAbs : Int) = 0)) = decide (-z < 0) := by by_cases h0 : z < 0 <;> by_cases h1 : z = 0 <;> simp [h0, h1] <;> omega
    rw [e1] at e
    have := wide_Neg.calls _ _ _ _ _ _ _ _ _ _ W e
    unfold wv
    rw [Int.natAbs_neg]
    exact this
def s27 (z : Int) : S27 := mk27 (decide (z < 0)) z.natAbs
theorem vec_wide {zs : List Int} {ok : Nat → Prop} {v : Value} {W : World} (h : (SP.vec 5 (zs.map wc)).H ok v W) (hb : zs.length ≤ 1000) : ∃ A c, v = .slice A (zs.map s27).length c ∧ (zs.map s27).length ≤ c ∧ Kd.C k27 W A (zs.map s27).length (zs.map s27) := by
  obtain ⟨A, c, e, h1, h2⟩ := vec_C (d := k27) (l := zs.map s27) h rfl (by simp) (by simp; omega) (fun W' j x c hx hc => by
    rw [List.getElem?_map] at hx hc
    cases hz : zs[j]? with
    | none => rw [hz] at hx; cases hx
    | some z =>
      rw [hz] at hx hc
      simp only [Option.map_some, Option.some.injEq] at hx hc
      subst hx; subst hc
      exact k27_mk W' (s27 z))
  exact ⟨A, c, e, h1, Kd.F_now h2⟩
theorem map_s27 (zs : List Int) (h : ∀ z ∈ zs, (z.natAbs : Int) < top4) : (zs.map s27).map val27 = zs := by
  induction zs with
  | nil => rfl
  | cons z zs ih =>
    simp only [List.map_cons]
    rw [ih (fun x hx => h x (List.mem_cons_of_mem _ hx))]
    congr 1
    unfold s27
    rw [val_mk27 _ (by omega) (h z List.mem_cons_self), sv_self]
theorem ok_s27 (zs : List Int) : ∀ x ∈ zs.map s27, OkS x := by
  intro x hx
  obtain ⟨z, _, rfl⟩ := List.mem_map.1 hx
  exact ok27 _ _
theorem fn_wide {f : FuncId} {op : Int → Int → Int} {z0 r : Int} {zs : List Int} {g : Nat → List S27 → Option (Bool × Int × Int × Int × Int × Int)}
    (hc : ∀ (k : Nat) (A0 : Option Addr) (c0 : Nat) (l0 : List S27) (r1 : Bool) (r2 r3 r4 r5 r6 : Int) (w : World), Kd.C k27 w A0 l0.length l0 → l0.length ≤ c0 → g k l0 = some (r1, r2, r3, r4, r5, r6) →
      Calls Try.prog f #[.slice A0 l0.length c0] w fun e w' => e = .returned (.tuple #[.agg #[.bool r1, .int .u64 r2, .int .u64 r3, .int .u64 r4, .int .u64 r5], .int .i64 r6]) ∧ Below w.heap.size w w')
    (he : Ev (fun k => g k (zs.map s27)) (resW (goOn op ((zs.map s27).map val27) z0))) (hz : ∀ z ∈ zs, (z.natAbs : Int) < top4) (hl : zs.length ≤ 1000) (hr : goOn op zs z0 = some r) :
    FnC Try.prog f [.vec 5 (zs.map wc)] (.tup [.is (wv r), iv 0]) := by
  intro ok vs W hA hk
  match vs, hA with
  | [v], hA =>
    obtain ⟨A, c, rfl, h1, h2⟩ := vec_wide hA.1 hl
    rw [map_s27 zs hz, hr] at he
    obtain ⟨k, e⟩ := he.rounds
    exact (hc k A c _ _ _ _ _ _ _ W h2 h1 e).mono fun e W' ⟨e1, e2⟩ => ⟨_, e1, ⟨[wv r, .int .i64 0], rfl, rfl, rfl, trivial⟩, e2⟩
theorem fn_Add {r : Int} {zs : List Int} (hz : ∀ z ∈ zs, (z.natAbs : Int) < top4) (hl : zs.length ≤ 1000) (hr : goOn (· + ·) zs 0 = some r) : FnC Try.prog 34 [.vec 5 (zs.map wc)] (.tup [.is (wv r), iv 0]) :=
  fn_wide (fun k A0 c0 l0 r1 r2 r3 r4 r5 r6 w hr hc h => wide_Add.calls k A0 c0 l0 r1 r2 r3 r4 r5 r6 w hr hc h) (add_ev (zs.map s27) (by simpa using hl) (ok_s27 zs)) hz hl hr
theorem fn_Mul {r : Int} {zs : List Int} (hz : ∀ z ∈ zs, (z.natAbs : Int) < top4) (hl : zs.length ≤ 1000) (hr : goOn (· * ·) zs 1 = some r) : FnC Try.prog 32 [.vec 5 (zs.map wc)] (.tup [.is (wv r), iv 0]) :=
  fn_wide (fun k A0 c0 l0 r1 r2 r3 r4 r5 r6 w hr hc h => wide_Mul.calls k A0 c0 l0 r1 r2 r3 r4 r5 r6 w hr hc h) (mul_ev (zs.map s27) (by simpa using hl) (ok_s27 zs)) hz hl hr
theorem rwW : RowTy Try.prog 88 44 5 := ⟨Try.underlying88, by kernel_rfl⟩
theorem fPX : FieldTy Try.prog 66 0 0 := ⟨⟨_, _, Try.underlying66, rfl, fun _ _ => by kernel_rfl⟩⟩
theorem fPY : FieldTy Try.prog 66 1 1 := ⟨⟨_, _, Try.underlying66, rfl, fun _ _ => by kernel_rfl⟩⟩
theorem zW (W : World) : (zeroValue 44).run Try.prog W = .ok (wv 0) W := by kernel_rfl
theorem zP (W : World) : (zeroValue 66).run Try.prog W = .ok (ptv 0 0) W := by kernel_rfl
def nv0 : Value := .agg #[.bool false, .slice none 0 0]
theorem zN (W : World) : (zeroValue 48).run Try.prog W = .ok nv0 W := by kernel_rfl
instance : AggSP (.is nv0) 2 := ⟨fun h => ⟨_, h, rfl, by simp [Value.oneCell']⟩⟩
theorem bP (x y : Int) : Try.prog.built 66 [(0, .int .i64 x), (1, .int .i64 y)] = some (ptv x y).cells := by kernel_rfl
theorem aP (x y : Int) : Value.agg (ptv x y).cells = ptv x y := rfl
theorem bPx (x : Int) : Try.prog.built 66 [(0, .int .i64 x)] = some (ptv x 0).cells := by kernel_rfl
theorem bPy (y : Int) : Try.prog.built 66 [(1, .int .i64 y)] = some (ptv 0 y).cells := by kernel_rfl
theorem bP0 : Try.prog.built 66 [] = some (ptv 0 0).cells := by kernel_rfl
theorem num_out {L : Nat} {z : Int} {ok : Nat → Prop} {v : Value} {W : World} (h : (SP.num L z).H ok v W) : ∃ (b : Bool) (A : Option Addr) (c : Nat) (l : List Int), v = .agg #[.bool b, .slice A l.length c] ∧ l.length ≤ c ∧ Kd.F (Kd.int .i64) W ok A l.length l ∧ NumP L b l z := by
  obtain ⟨b, A, n, c, l, e, rfl, h2, h3, h4⟩ := h
  exact ⟨b, A, c, l, e, h2, h3, h4⟩
theorem num_in {L : Nat} {z : Int} {ok ok' : Nat → Prop} {W : World} {b : Bool} {v : Value} {l : List Int} {B : Nat} (h : Kd.V (Kd.int .i64) 3 W B ok' v l) (hk : ∀ k, ok' k → ok k) (hN : NumP L b l z) : (SP.num L z).H ok (.agg #[.bool b, v]) W := by
  obtain ⟨A, c, rfl, hc, hf⟩ := h
  exact ⟨b, A, _, c, l, rfl, rfl, hc, Kd.F_mono hf hk, hN⟩
theorem fn_small {n : Int} (h0 : -9223372036854775808 ≤ n) (h1 : n ≤ 9223372036854775807) : FnC Try.prog 56 [iv n] (.num 4 n) := by
  intro ok vs W hA hk
  rw [args_is (vs := [.int .i64 n]) hA]
  obtain ⟨r, he, hN⟩ := small_ev n h0 h1
  obtain ⟨k, e⟩ := he.rounds
  refine (parquetref01_Small.calls k n r.1 r.2 W e).mono ?_
  rintro e W' ⟨v1, rfl, hV, hB⟩
  exact ⟨_, rfl, num_in hV hk hN, hB⟩
theorem fn_plus {L1 L2 : Nat} {z1 z2 : Int} (h1 : L1 ≤ 1000000) (h2 : L2 ≤ 1000000) : FnC Try.prog 37 [.num L1 z1, .num L2 z2] (.num (max L1 L2 + 1) (z1 + z2)) := by
  intro ok vs W hA hk
  match vs, hA with
  | [v1, v2], ⟨a1, a2, _⟩ =>
    obtain ⟨b1, A1, c1, l1, rfl, hc1, hf1, hN1⟩ := num_out a1
    obtain ⟨b2, A2, c2, l2, rfl, hc2, hf2, hN2⟩ := num_out a2
    obtain ⟨r, he, hN⟩ := plus_ev hN1 hN2 h1 h2
    obtain ⟨k, e⟩ := he.rounds
    refine (parquetref01_Num_Plus.calls k b1 ok A1 c1 l1 b2 ok A2 c2 l2 r.1 r.2 W (Kd.V_mk hc1 hf1) (Kd.V_mk hc2 hf2) e).mono ?_
    rintro e W' ⟨v1, rfl, hV, hB⟩
    exact ⟨_, rfl, num_in hV (fun k hk' => by rcases hk' with (h | h) | h; · exact h
                                              · exact h
                                              · exact hk k h) hN, hB⟩
theorem fn_times {L1 L2 : Nat} {z1 z2 : Int} (h1 : L1 ≤ 1000000) (h2 : L2 ≤ 1000000) : FnC Try.prog 55 [.num L1 z1, .num L2 z2] (.num (L1 + L2) (z1 * z2)) := by
  intro ok vs W hA hk
  match vs, hA with
  | [v1, v2], ⟨a1, a2, _⟩ =>
    obtain ⟨b1, A1, c1, l1, rfl, hc1, hf1, hN1⟩ := num_out a1
    obtain ⟨b2, A2, c2, l2, rfl, hc2, hf2, hN2⟩ := num_out a2
    obtain ⟨r, he, hN⟩ := times_ev hN1 hN2 h1 h2
    obtain ⟨k, e⟩ := he.rounds
    refine (parquetref01_Num_Times.calls k b1 A1 c1 l1 b2 A2 c2 l2 r.1 r.2 W (Kd.F_now hf1) hc1 (Kd.F_now hf2) hc2 e).mono ?_
    rintro e W' ⟨v1, rfl, hV, hB⟩
    exact ⟨_, rfl, num_in hV hk hN, hB⟩
theorem fn_nneg {L : Nat} {z : Int} : FnC Try.prog 22 [.num L z] (.num L (-z)) := by
  intro ok vs W hA hk
  match vs, hA with
  | [v1], ⟨a1, _⟩ =>
    obtain ⟨b1, A1, c1, l1, rfl, hc1, hf1, hN1⟩ := num_out a1
    obtain ⟨r, e, hN⟩ := neg_eq hN1
    refine (parquetref01_Num_Neg.calls b1 ok A1 c1 l1 r.1 r.2 W (Kd.V_mk hc1 hf1) e).mono ?_
    rintro e W' ⟨v1, rfl, hV, hB⟩
    exact ⟨_, rfl, num_in hV (fun k hk' => hk'.elim id (hk k)) hN, hB⟩
theorem fn_ncmp {L1 L2 : Nat} {z1 z2 : Int} (h1 : L1 ≤ 1000000) (h2 : L2 ≤ 1000000) : FnC Try.prog 21 [.num L1 z1, .num L2 z2] (iv (sgn (z1 - z2))) := by
  intro ok vs W hA hk
  match vs, hA with
  | [v1, v2], ⟨a1, a2, _⟩ =>
    obtain ⟨b1, A1, c1, l1, rfl, hc1, hf1, hN1⟩ := num_out a1
    obtain ⟨b2, A2, c2, l2, rfl, hc2, hf2, hN2⟩ := num_out a2
    obtain ⟨k, e⟩ := (cmp_ev hN1 hN2 h1 h2).rounds
    exact (parquetref01_Num_Cmp.calls k b1 A1 c1 l1 b2 A2 c2 l2 _ W (Kd.F_now hf1) hc1 (Kd.F_now hf2) hc2 e).mono fun e W' ⟨e1, e2⟩ => ⟨_, e1, rfl, e2⟩
theorem tN {k : Nat} {z : Int} (h : Bd k z) (hk : k ≤ 256) : (z.natAbs : Int) < top4 := h.lt hk
theorem lN {k : Nat} {z : Int} (h : Bd k z) (hk : k ≤ 63) : -9223372036854775808 ≤ z ∧ z ≤ 9223372036854775807 := h.i64 hk
theorem goOn2 {a b : Int} (h1 : Bd 250 a) (h2 : Bd 250 b) : goOn (· + ·) [a, b] 0 = some (a + b) := by
  unfold goOn goOn goOn
  unfold Bd at h1 h2
  rw [if_pos (by unfold top4; omega), if_pos (by unfold top4; omega), Int.zero_add]
theorem goOn3 {a b c : Int} (h1 : Bd 250 a) (h2 : Bd 250 b) (h3 : Bd 250 c) : goOn (· + ·) [a, b, c] 0 = some (a + b + c) := by
  unfold goOn goOn goOn goOn
  unfold Bd at h1 h2 h3
  rw [if_pos (by unfold top4; omega), if_pos (by unfold top4; omega), if_pos (by unfold top4; omega), Int.zero_add]
theorem goM2 {a b : Int} (h1 : Bd 120 a) (h2 : Bd 120 b) : goOn (· * ·) [a, b] 1 = some (a * b) := by
  unfold goOn goOn goOn
  rw [if_pos (by rw [Int.one_mul]; exact tN h1 (by decide)), Int.one_mul, if_pos (tN (Bd.mul h1 h2) (by decide))]
theorem goM3 {a b c : Int} (h1 : Bd 80 a) (h2 : Bd 80 b) (h3 : Bd 80 c) : goOn (· * ·) [a, b, c] 1 = some (a * b * c) := by
  unfold goOn goOn goOn goOn
  rw [if_pos (by rw [Int.one_mul]; exact tN h1 (by decide)), Int.one_mul, if_pos (tN (Bd.mul h1 h2) (by decide)), if_pos (tN (Bd.mul (Bd.mul h1 h2) h3) (by decide))]
theorem all2 {p : Int → Prop} {a b : Int} (h1 : p a) (h2 : p b) : ∀ z ∈ [a, b], p z := by
  intro z hz
  simp at hz
  rcases hz with rfl | rfl
  · exact h1
  · exact h2
theorem all3 {p : Int → Prop} {a b c : Int} (h1 : p a) (h2 : p b) (h3 : p c) : ∀ z ∈ [a, b, c], p z := by
  intro z hz
  simp at hz
  rcases hz with rfl | rfl | rfl
  · exact h1
  · exact h2
  · exact h3
theorem fn_Add2 {a b : Int} (h1 : Bd 250 a) (h2 : Bd 250 b) : FnC Try.prog 34 [.vec 5 [wc a, wc b]] (.tup [.is (wv (a + b)), iv 0]) := fn_Add (zs := [a, b]) (all2 (tN h1 (by decide)) (tN h2 (by decide))) (by simp) (goOn2 h1 h2)
theorem fn_Add3 {a b c : Int} (h1 : Bd 250 a) (h2 : Bd 250 b) (h3 : Bd 250 c) : FnC Try.prog 34 [.vec 5 [wc a, wc b, wc c]] (.tup [.is (wv (a + b + c)), iv 0]) := fn_Add (zs := [a, b, c]) (all3 (tN h1 (by decide)) (tN h2 (by decide)) (tN h3 (by decide))) (by simp) (goOn3 h1 h2 h3)
theorem fn_Mul2 {a b : Int} (h1 : Bd 120 a) (h2 : Bd 120 b) : FnC Try.prog 32 [.vec 5 [wc a, wc b]] (.tup [.is (wv (a * b)), iv 0]) := fn_Mul (zs := [a, b]) (all2 (tN h1 (by decide)) (tN h2 (by decide))) (by simp) (goM2 h1 h2)
theorem fn_Mul3 {a b c : Int} (h1 : Bd 80 a) (h2 : Bd 80 b) (h3 : Bd 80 c) : FnC Try.prog 32 [.vec 5 [wc a, wc b, wc c]] (.tup [.is (wv (a * b * c)), iv 0]) := fn_Mul (zs := [a, b, c]) (all3 (tN h1 (by decide)) (tN h2 (by decide)) (tN h3 (by decide))) (by simp) (goM3 h1 h2 h3)
end Go.Proofs.Ytcifcohkjifadaa

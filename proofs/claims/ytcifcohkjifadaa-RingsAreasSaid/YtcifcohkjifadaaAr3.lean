/- The document's numbers of wide ones, and back. -/
import Derived.Test.YtcifcohkjifadaaAr2
set_option linter.unusedVariables false
set_option linter.unusedSimpArgs false
namespace Go.Proofs.Ytcifcohkjifadaa
open Go Go.RowKit Go.Proofs.Ytcifcohkjifadaa.MT Go.Proofs.Ytcifcohkjifadaa.Fx Go.Proofs.YtcifcohkjifadaaW.PrintWords
theorem val_sixteen {l : List Int} (h : l.length ≤ 16) : val l = 1 * l.getD 0 0 + 65536 * l.getD 1 0 + 4294967296 * l.getD 2 0 + 281474976710656 * l.getD 3 0 + 18446744073709551616 * l.getD 4 0 + 1208925819614629174706176 * l.getD 5 0 + 79228162514264337593543950336 * l.getD 6 0 + 5192296858534827628530496329220096 * l.getD 7 0 + 340282366920938463463374607431768211456 * l.getD 8 0 + 22300745198530623141535718272648361505980416 * l.getD 9 0 + 1461501637330902918203684832716283019655932542976 * l.getD 10 0 + 95780971304118053647396689196894323976171195136475136 * l.getD 11 0 + 6277101735386680763835789423207666416102355444464034512896 * l.getD 12 0 + 411376139330301510538742295639337626245683966408394965837152256 * l.getD 13 0 + 26959946667150639794667015087019630673637144422540572481103610249216 * l.getD 14 0 + 1766847064778384329583297500742918515827483896875618958121606201292619776 * l.getD 15 0 := by
  have e := take_all (l := l) (i := 16) h
  have s : ∀ i, val (l.take (i + 1)) = val (l.take i) + 65536 ^ i * l.getD i 0 := val_take_succ l
  have s0 := s 0
  rw [show (65536 : Int) ^ 0 = 1 by decide] at s0
  have s1 := s 1
  rw [show (65536 : Int) ^ 1 = 65536 by decide] at s1
  have s2 := s 2
  rw [show (65536 : Int) ^ 2 = 4294967296 by decide] at s2
  have s3 := s 3
  rw [show (65536 : Int) ^ 3 = 281474976710656 by decide] at s3
  have s4 := s 4
  rw [show (65536 : Int) ^ 4 = 18446744073709551616 by decide] at s4
  have s5 := s 5
  rw [show (65536 : Int) ^ 5 = 1208925819614629174706176 by decide] at s5
  have s6 := s 6
  rw [show (65536 : Int) ^ 6 = 79228162514264337593543950336 by decide] at s6
  have s7 := s 7
  rw [show (65536 : Int) ^ 7 = 5192296858534827628530496329220096 by decide] at s7
  have s8 := s 8
  rw [show (65536 : Int) ^ 8 = 340282366920938463463374607431768211456 by decide] at s8
  have s9 := s 9
  rw [show (65536 : Int) ^ 9 = 22300745198530623141535718272648361505980416 by decide] at s9
  have s10 := s 10
  rw [show (65536 : Int) ^ 10 = 1461501637330902918203684832716283019655932542976 by decide] at s10
  have s11 := s 11
  rw [show (65536 : Int) ^ 11 = 95780971304118053647396689196894323976171195136475136 by decide] at s11
  have s12 := s 12
  rw [show (65536 : Int) ^ 12 = 6277101735386680763835789423207666416102355444464034512896 by decide] at s12
  have s13 := s 13
  rw [show (65536 : Int) ^ 13 = 411376139330301510538742295639337626245683966408394965837152256 by decide] at s13
  have s14 := s 14
  rw [show (65536 : Int) ^ 14 = 26959946667150639794667015087019630673637144422540572481103610249216 by decide] at s14
  have s15 := s 15
  rw [show (65536 : Int) ^ 15 = 1766847064778384329583297500742918515827483896875618958121606201292619776 by decide] at s15
  have s00 : val (l.take 0) = 0 := rfl
  rw [e] at s15
  simp only [Nat.zero_add, Nat.reduceAdd] at s0 s1 s2 s3 s4 s5 s6 s7 s8 s9 s10 s11 s12 s13 s14 s15
  clear s
  omega
theorem lm_val {l : List Int} (hD : Dig l) (k : Nat) : ((lmN l 0 k : Nat) : Int) = l.getD (4 * k) 0 + 65536 * (l.getD (4 * k + 1) 0 + 65536 * (l.getD (4 * k + 2) 0 + 65536 * l.getD (4 * k + 3) 0)) := by
  unfold lmN dgt
  rw [if_pos (by omega)]
  have a := hD.at_ (4 * k)
  have b := hD.at_ (4 * k + 1)
  have c := hD.at_ (4 * k + 2)
  have d := hD.at_ (4 * k + 3)
  omega
theorem lm_U {l : List Int} (hD : Dig l) (k : Nat) : U (lmN l 0 k : Nat) := by
  rw [lm_val hD]
  have a := hD.at_ (4 * k)
  have b := hD.at_ (4 * k + 1)
  have c := hD.at_ (4 * k + 2)
  have d := hD.at_ (4 * k + 3)
  unfold U
  omega
theorem lm_spl {l : List Int} (hD : Dig l) (h : l.length ≤ 16) : ((lmN l 0 0 : Nat) : Int) = spl0 (val l) ∧ ((lmN l 0 1 : Nat) : Int) = spl1 (val l) ∧ ((lmN l 0 2 : Nat) : Int) = spl2 (val l) ∧ ((lmN l 0 3 : Nat) : Int) = spl3 (val l) := by
  refine spl_eq (lm_U hD 0) (lm_U hD 1) (lm_U hD 2) (lm_U hD 3) ?_
  rw [lm_val hD, lm_val hD, lm_val hD, lm_val hD, val_sixteen h]
  unfold val4
  simp only [Nat.mul_zero, Nat.mul_one, Nat.zero_add, Nat.reduceMul, Nat.reduceAdd]
  omega
theorem dgOk_dig {l : List Int} (hD : Dig l) : dgOk l = true := dgOk_iff.2 fun d h => by have := hD d h; omega
theorem top4_pow : top4 = (65536 : Int) ^ 16 := by decide
/-- A number as the program's: its sign, its four limbs; or none, if it lies beyond. -/
theorem wide_num {L : Nat} {b : Bool} {l : List Int} {z : Int} (h : NumP L b l z) (hL : L ≤ 1000000) (hz : (z.natAbs : Int) < top4) :
    parquetref01_Num_Wide.f b l = some (decide (z < 0), spl0 z.natAbs, spl1 z.natAbs, spl2 z.natAbs, spl3 z.natAbs, true) := by
  obtain ⟨hD, hN, hb, e, hl⟩ := h
  have hv := val_nonneg hD
  have hlen : l.length ≤ 16 := by
    rcases Nat.lt_or_ge 16 l.length with h | h
    · have h1 := val_ge hD hN (by intro h0; rw [h0] at h; simp at h)
      have h2 := pow_le (a := 16) (b := l.length - 1) (by omega)
      rw [← top4_pow] at h2
      have : val l = z.natAbs := by cases b <;> simp at e <;> omega
      omega
    · exact h
  have hn : val l = z.natAbs := by cases b <;> simp at e <;> omega
  have hs : b = decide (z < 0) := by
    cases b
    · simp at e; exact (decide_eq_false (by omega)).symm
    · have hne := hb rfl
      have h1 := val_ge hD hN hne
      have h2 : (0 : Int) < 65536 ^ (l.length - 1) := Int.pow_pos (by decide)
      simp at e
      exact (decide_eq_true (by omega)).symm
  obtain ⟨e0, e1, e2, e3⟩ := lm_spl hD hlen
  show parquetref01_Num_Wide_f b l = _
  unfold parquetref01_Num_Wide_f
  rw [if_pos (dgOk_dig hD), if_pos hlen, e0, e1, e2, e3, hn, hs]
section
variable {P : Program} {w0 : World} {ok0 : Nat → Prop} {N : Nat} {R : Rg} {ops : Array Oper} {Q : Exit → Act → World → Prop} {i : Nat} {o : Oper}
/-- The address of an element of an array in a box. -/
theorem fiaddr {d u x : Tmp} {y : Operand} {T E : TypeId} {n off : Nat} {c : Int} (k : Nat) (hh : Pl R ops i o (some d) (.indexAddr T (.tmp x) y) true) (hb : R.Nd i (.f x u off)) (hy : Vl R i y (.is (.int .i64 c))) (hne : (u == d) = false)
    (hT : ArrTy P T E n) (hc : c = k) (hk : k < n) : Does P w0 ok0 N R ops Q i o (some (.f d u (off + k))) := by
  intro l Φ a W hdN hnd hS hΦ
  obtain ⟨ok, h1, h2, h3⟩ := hS.ex
  have hf : ∀ f, R.Nd i f → f.holds w0.heap.size ok a W := fun f hf => h3 f (hnd f hf)
  rw [if_pos (hh.wanted hf)]
  obtain ⟨g, e0, e1⟩ := hf _ hb
  have e : (execOp a.eval o).run P W = .ok (.value (ptr g (off + k))) W := by
    have hev : a.eval (.tmp x) = ptr g off := e1
    have e2 : a.eval y = .int .i64 k := by rw [← hc]; exact hy.H hf
    unfold execOp
    simp only [hh.op, hev, e2, Sem.run_bind, run_indexAt_arr hT hk W, Result.andThen_ok]
    rfl
  unfold Oper.wp
  rw [e]
  show St w0 ok0 N Φ (a.put o.dst (ptr g (off + k))) W
  rw [hh.dst]
  have hne' : u ≠ d := by simpa using hne
  have keep : ∀ f : Fact, f.on d = false → ∀ t, f.on t = true → (a.put (some d) (ptr g (off + k))).tmps.getD t undef = a.tmps.getD t undef := fun f hd' t ht => getD_put (fun e => by subst e; rw [ht] at hd'; cases hd')
  have old : ∀ f, Φ f → f = .f d u (off + k) ∨ (R.Av l f ∧ f.on d = false) := fun f hf => by
    rcases hΦ f hf with h | ⟨h, hu⟩
    · cases h; exact .inl rfl
    · exact .inr ⟨h, undoes_on hh.dst hu⟩
  refine ⟨hS.hb, hS.h0, by rw [defers_put]; exact hS.hd, by rw [size_put]; exact hS.hn, ⟨ok, h1, h2, fun f hΦf => ?_⟩, fun f f' t t' hΦf hΦf' ee ee' ne => ?_, fun f f' l g t hΦf hΦf' ee ee' => ?_, fun f f' l g l' g' hΦf hΦf' ee ee' ne => ?_⟩
  · rcases old f hΦf with rfl | ⟨hA, hd'⟩
    · exact ⟨g, by rw [getD_put hne', e0], getD_put_self (by rw [hS.hn]; exact hdN d hh.dst)⟩
    · exact (h3 f hA).later (Below.refl _ _) (fun k hk _ => hk) (fun k hk _ => hk) (keep f hd')
  · rcases old f hΦf with rfl | ⟨hA, hd1⟩
    · cases ee
    rcases old f' hΦf' with rfl | ⟨hA', hd2⟩
    · cases ee'
    rw [keep f hd1 t (box_on ee), keep f' hd2 t' (box_on ee')]
    exact hS.far f f' t t' hA hA' ee ee' ne
  · rcases old f hΦf with rfl | ⟨hA, hd1⟩
    · cases ee
    rcases old f' hΦf' with rfl | ⟨hA', hd2⟩
    · cases ee'
    rw [keep f' hd2 t (box_on ee')]
    exact hS.farh f f' l g t hA hA' ee ee'
  · rcases old f hΦf with rfl | ⟨hA, hd1⟩
    · cases ee
    rcases old f' hΦf' with rfl | ⟨hA', hd2⟩
    · cases ee'
    exact hS.farl f f' l g l' g' hA hA' ee ee' ne
theorem ldcx {d t u : Tmp} {off : Nat} {q p : SP} {T T' : TypeId} {n : Nat} (hh : Pl R ops i o (some d) (.load T (.tmp t)) true) (hfa : R.Nd i (.f t u off)) (hb : R.Nd i (.b u q T' n))
    (hT : ScalTy P T) (hc : ∀ (ok : Nat → Prop) (cs : Array Value) (W : World), q.H ok (.agg cs) W → ∃ v, cs[off]? = some v ∧ p.H ok v W) : Does P w0 ok0 N R ops Q i o (some (.s d p)) :=
  does_s hh fun ok a W hf hk K hK => by
    obtain ⟨g, cs, h1, _, _, h4, h5, h6⟩ := hf _ hb
    obtain ⟨g', h1', h2'⟩ := hf _ hfa
    obtain ⟨dd, hu, hdd⟩ := hT.u
    rw [h1] at h1'
    simp only [blk, ptr, Option.some.injEq] at h1'
    subst h1'
    obtain ⟨v, hv, hp⟩ := hc _ _ _ h6
    have hagg : (isAgg T).run P W = .ok false W := by
      unfold isAgg
      rw [Sem.run_bind, run_underlying hu W]
      cases dd <;> simp_all
    have hcell : W.cell? ⟨g, off, none⟩ = some v := by rw [cell_of_row W g off cs T' (0, 0) h4]; exact hv
    have e : (execOp a.eval o).run P W = .ok (.value v) W := by
      unfold execOp
      have hev : a.eval (.tmp t) = ptr g off := h2'
      simp only [hh.op, hev, Instr.loadAt, Instr.sureAddr, Sem.run_bind, Sem.run_pure, Result.andThen_ok, loadVar, hagg, Bool.false_eq_true, if_false, run_load, hcell]
    unfold Oper.wp
    rw [e]
    exact hK v W (Below.refl _ _) hp
end
theorem tyQ : ScalTy Try.prog 41 := ⟨⟨_, Try.underlying41, rfl⟩⟩
theorem szQ : (Try.prog.info? 41).map (·.size) = some 1 := by kernel_rfl
theorem arQ : ArrTy Try.prog 42 41 4 := ⟨Try.underlying42, szQ⟩
theorem fWN : FieldTy Try.prog 44 0 0 := ⟨⟨_, _, Try.underlying44, rfl, fun _ _ => by kernel_rfl⟩⟩
theorem fWL : FieldTy Try.prog 44 1 1 := ⟨⟨_, _, Try.underlying44, rfl, fun _ _ => by kernel_rfl⟩⟩
/-- A number without its lowest limbs. -/
def rst (m : Int) : Nat → Int
  | 0 => m
  | k + 1 => rst m k / 18446744073709551616
theorem rst_pos {m : Int} (h : 0 ≤ m) : ∀ k, 0 ≤ rst m k
  | 0 => h
  | k + 1 => Int.ediv_nonneg (rst_pos h k) (by decide)
theorem rst_four {m : Int} (h0 : 0 ≤ m) (h : m < top4) : rst m 4 = 0 := by
  show m / 18446744073709551616 / 18446744073709551616 / 18446744073709551616 / 18446744073709551616 = 0
  unfold top4 at h
  omega
theorem limb_at {z : Int} {k : Nat} (hk : k < 4) {ok : Nat → Prop} {cs : Array Value} {W : World} (h : (SP.is (wv z)).H ok (.agg cs) W) : ∃ v, cs[1 + k]? = some v ∧ (SP.is (.int .u64 (rst z.natAbs k % 18446744073709551616))).H ok v W := by
  have e : Value.agg cs = wv z := h
  cases e
  match k, hk with
  | 0, _ => exact ⟨_, rfl, rfl⟩
  | 1, _ => exact ⟨_, rfl, rfl⟩
  | 2, _ =>
    refine ⟨_, rfl, ?_⟩
    show Value.int .u64 (spl2 z.natAbs) = .int .u64 ((z.natAbs : Int) / 18446744073709551616 / 18446744073709551616 % 18446744073709551616)
    congr 1
    unfold spl2
    omega
  | 3, _ =>
    refine ⟨_, rfl, ?_⟩
    show Value.int .u64 (spl3 z.natAbs) = .int .u64 ((z.natAbs : Int) / 18446744073709551616 / 18446744073709551616 / 18446744073709551616 % 18446744073709551616)
    congr 1
    unfold spl3
    omega
theorem sign_at {z : Int} {ok : Nat → Prop} {cs : Array Value} {W : World} (h : (SP.is (wv z)).H ok (.agg cs) W) : ∃ v, cs[0]? = some v ∧ (SP.is (.bool (decide (z < 0)))).H ok v W := by
  have e : Value.agg cs = wv z := h
  cases e
  exact ⟨_, rfl, rfl⟩
theorem dig_one {u : List Int} {x : Int} (h : Dig u) (hx : 0 ≤ x) : Dig (u ++ [x % 65536]) := fun d hd => by
  rcases List.mem_append.1 hd with h' | h'
  · exact h d h'
  · rw [List.mem_singleton.1 h']; omega
/-- The digits so far, and what is left of the limb, and of the number. -/
structure Dgs (m : Int) (i j : Nat) (u : List Int) (x : Int) : Prop where
  le : j ≤ 4
  dig : Dig u
  len : u.length = 4 * i + j
  lo : 0 ≤ x
  hi : x < 65536 ^ (4 - j)
  all : val u + 65536 ^ u.length * (x + 65536 ^ (4 - j) * rst m (i + 1)) = m
theorem Dgs.first {m : Int} {i : Nat} {u : List Int} (hm : 0 ≤ m) (hd : Dig u) (hl : u.length = 4 * i) (ha : val u + 65536 ^ u.length * rst m i = m) : Dgs m i 0 u (rst m i % 18446744073709551616) := by
  have h0 := rst_pos hm i
  refine ⟨by omega, hd, by omega, by omega, ?_, ?_⟩
  · show _ < (65536 : Int) ^ 4
    rw [show (65536 : Int) ^ 4 = 18446744073709551616 by decide]
    omega
  · rw [show (65536 : Int) ^ (4 - 0) = 18446744073709551616 by decide, show rst m i % 18446744073709551616 + 18446744073709551616 * rst m (i + 1) = rst m i from Int.emod_add_mul_ediv (rst m i) _]
    exact ha
theorem Dgs.more {m : Int} {i j : Nat} {u : List Int} {x : Int} (h : Dgs m i j u x) (hj : j < 4) : Dgs m i (j + 1) (u ++ [x % 65536]) (x / 65536) := by
  have hlo := h.lo
  have hhi := h.hi
  have hp : (65536 : Int) ^ (4 - j) = 65536 ^ (4 - (j + 1)) * 65536 := by rw [show 4 - j = 4 - (j + 1) + 1 by omega, Int.pow_succ]
  refine ⟨by omega, dig_one h.dig h.lo, by rw [List.length_append, h.len]; rfl, by omega, ?_, ?_⟩
  · rw [hp] at hhi
    exact Int.ediv_lt_of_lt_mul (by decide) hhi
  · have hs := digit_step u x
    have hl : (65536 : Int) ^ (u ++ [x % 65536]).length = 65536 ^ u.length * 65536 := by rw [List.length_append, List.length_singleton, Int.pow_succ]
    have ha := h.all
    rw [hp] at ha
    rw [hl] at hs ⊢
    generalize val (u ++ [x % 65536]) = A at *
    generalize (65536 : Int) ^ u.length = p at *
    generalize (65536 : Int) ^ (4 - (j + 1)) = q at *
    generalize x / 65536 = y at *
    rw [← ha, Int.mul_add, Int.mul_add, ← Int.add_assoc, ← Int.add_assoc, hs]
    congr 1
    grind
theorem Dgs.last {m : Int} {i : Nat} {u : List Int} {x : Int} (h : Dgs m i 4 u x) : Dig u ∧ u.length = 4 * (i + 1) ∧ val u + 65536 ^ u.length * rst m (i + 1) = m := by
  have hlo := h.lo
  have hhi := h.hi
  have ha := h.all
  rw [show (65536 : Int) ^ (4 - 4) = 1 by decide] at hhi ha
  obtain rfl : x = 0 := by omega
  refine ⟨h.dig, by rw [h.len]; rfl, ?_⟩
  rw [Int.one_mul, Int.zero_add] at ha
  exact ha
theorem Dgs.small {m : Int} {i j : Nat} {u : List Int} {x : Int} (h : Dgs m i j u x) : x < 18446744073709551616 := by
  have h1 := h.hi
  have h2 : (65536 : Int) ^ (4 - j) ≤ 65536 ^ 4 := pow_le (by omega)
  rw [show (65536 : Int) ^ 4 = 18446744073709551616 by decide] at h2
  omega
theorem fn_trim {b : Bool} {l : List Int} {L : Nat} {z : Int} (hD : Dig l) (hl : l.length = L) (hL : L ≤ 1000000) (hz : (if b then -val l else val l) = z) : FnC Try.prog 39 [bv b, ivec l] (.num L z) := by
  intro ok vs W hA hk
  match vs, hA with
  | [v1, v2], ⟨a1, a2, _⟩ =>
    obtain rfl : v1 = .bool b := a1
    obtain ⟨A, c, rfl, hc, hF⟩ := vec_C (d := Kd.int .i64) (l := l) a2 rfl (by simp) (by omega) (fun W' j x c hx hc => by
      rw [List.getElem?_map, hx] at hc
      cases hc
      rfl)
    obtain ⟨r, he, hN⟩ := trim_ev b l hD (by omega)
    obtain ⟨k, e⟩ := he.rounds
    refine (parquetref01_trim.calls k b ok A c l r.1 r.2 W (Kd.V_mk hc hF) e).mono ?_
    rintro e W' ⟨v1, rfl, hV, hB⟩
    subst hl hz
    exact ⟨_, rfl, num_in hV (fun k hk' => hk'.elim id (hk k)) hN, hB⟩
theorem fn_rWide {L : Nat} {z : Int} (hL : L ≤ 1000000) (hz : (z.natAbs : Int) < top4) : FnC Try.prog 19 [.num L z] (.tup [.is (wv z), bv true]) := by
  intro ok vs W hA hk
  match vs, hA with
  | [v1], ⟨a1, _⟩ =>
    obtain ⟨b1, A1, c1, l1, rfl, hc1, hf1, hN1⟩ := num_out a1
    exact (parquetref01_Num_Wide.calls b1 A1 c1 l1 _ _ _ _ _ _ W (Kd.F_now hf1) hc1 (wide_num hN1 hL hz)).mono fun e W' ⟨e1, e2⟩ => ⟨_, e1, ⟨[wv z, .bool true], rfl, rfl, rfl, trivial⟩, e2⟩
set_option maxRecDepth 100000 in
set_option maxHeartbeats 8000000 in
theorem fn_rOf {z : Int} (hz : (z.natAbs : Int) < top4) : FnC Try.prog 20 [.is (wv z)] (.num 16 z) := by
 refine FnC.of (N := 31) Try.func20 rfl rfl (Nat.le_of_ble_eq_true rfl) (fun w0 ok0 => ?_)
 refine Tr.rs [] (.k (bxx .k (.b 0 rfl)) (.k (alc .k zN) .n)) [] [0, 1] rfl rfl ?_
 refine Tr.rs [] (.k (oini (sz := 1) (E := 3) .k (.inl rfl)) .n) [0, 1] [0] rfl rfl ?_
 refine Tr.seq (Tr.rs [] (.k (asg .k .c) .n) [0, 1, 2] [0] rfl rfl ?_)
 refine Tr.block (?_)
 refine Tr.loop (fun n_ F_ => ∃ i : Nat, ∃ u : List Int, (i ≤ 4 ∧ Dig u ∧ u.length = 4 * i ∧ val u + 65536 ^ u.length * rst (z.natAbs : Int) i = (z.natAbs : Int)) ∧ n_ = 4 - i ∧ F_ = [.b 1 (.is (wv z)) 44 5, .b 2 (.is nv0) 48 2, .o 3 1 3 (u.map fun z => [ic z]), .s 4 (iv ((i : Nat) : Int))]) (4 - 0) (F0 := [.b 1 (.is (wv z)) 44 5, .b 2 (.is nv0) 48 2, .o 3 1 3 ([].map fun z => [ic z]), .s 4 (iv ((0 : Nat) : Int))]) ⟨0, [], ⟨Nat.zero_le _, Dig.nil, rfl, by simp [val, rst]⟩, rfl, rfl⟩ (Sub.all (.cons 0 rfl (.cons 1 rfl (.cons 2 rfl (.cons 3 rfl .nil))))) (fun n_ F_ hI => ?_)
 obtain ⟨i, u, hinv, rfl, rfl⟩ := hI
 refine Tr.seq (Tr.rs [] (.k (mv .k (.b 3 rfl)) (.k (lt_ .k (.g 0 rfl) .c rfl) .n)) [0, 1, 2, 3] [1] rfl rfl ?_)
 refine Tr.cond 4 rfl (fun e8 => ?_) (fun e8 => ?_)
 ·
  have hi2 : i < 4 := by have := of_decide_eq_true e8; omega
  refine Tr.skip (Nx.go (Tr.seq (Tr.block (Tr.rs [] (.k (mv .k (.b 3 rfl)) (.k (faddr .k (.b 0 rfl) rfl fWL) (.k (fiaddr i .k (.g 1 rfl) (.g 0 rfl) rfl arQ rfl hi2) (.k (ldcx .k (.g 2 rfl) (.b 0 rfl) tyQ (fun _ _ _ h => limb_at hi2 h)) (.k (asg .k (.g 3 rfl)) .n))))) [0, 1, 2, 3] [4] rfl rfl ?_))))
  refine Tr.rs [] (.k (asg .k .c) .n) [0, 1, 2, 3, 4] [0] rfl rfl ?_
  refine Tr.block (?_)
  refine Tr.loop (fun n_ F_ => ∃ j : Nat, ∃ u2 : List Int, ∃ x : Int, (Dgs (z.natAbs : Int) i j u2 x) ∧ n_ = 4 - j ∧ F_ = [.b 1 (.is (wv z)) 44 5, .b 2 (.is nv0) 48 2, .o 3 1 3 (u2.map fun z => [ic z]), .s 4 (iv ((i : Nat) : Int)), .s 5 (.is (.int .u64 (x))), .s 6 (iv ((j : Nat) : Int))]) (4 - 0) (F0 := [.b 1 (.is (wv z)) 44 5, .b 2 (.is nv0) 48 2, .o 3 1 3 (u.map fun z => [ic z]), .s 4 (iv ((i : Nat) : Int)), .s 5 (.is (.int .u64 ((rst (z.natAbs : Int) i % 18446744073709551616)))), .s 6 (iv ((0 : Nat) : Int))]) ⟨0, u, (rst (z.natAbs : Int) i % 18446744073709551616), (Dgs.first (by omega) hinv.2.1 hinv.2.2.1 hinv.2.2.2), rfl, rfl⟩ (Sub.all (.cons 0 rfl (.cons 1 rfl (.cons 2 rfl (.cons 3 rfl (.cons 4 rfl (.cons 5 rfl .nil))))))) (fun n_ F_ hI => ?_)
  obtain ⟨j, u2, x, hd, rfl, rfl⟩ := hI
  have hxs := hd.small
  have hxl := hd.lo
  have hul := hd.len
  have hjl := hd.le
  refine Tr.seq (Tr.rs [] (.k (mv .k (.b 5 rfl)) (.k (lt_ .k (.g 0 rfl) .c rfl) .n)) [0, 1, 2, 3, 4, 5] [1] rfl rfl ?_)
  refine Tr.cond 6 rfl (fun e16 => ?_) (fun e16 => ?_)
  ·
   have hj2 : j < 4 := by have := of_decide_eq_true e16; omega
   refine Tr.skip (Nx.go (Tr.seq (Tr.block (Tr.gos (Go.k (omv .k (.inr rfl) (.b 2 rfl)) [0, 1, 3, 4, 5] rfl rfl (Go.k (mv .k (.b 4 rfl)) [0, 1, 2, 3, 4, 5] rfl rfl (Go.k (rem_ .k (.b 0 rfl) .c (by decide) (Int.tmod_eq_emod_of_nonneg hxl)) [1, 2, 3, 4, 5, 6] rfl rfl (Go.k (cvt_ .k (by kernel_rfl) Try.underlying3 (.b 0 rfl) (IntWalk.i64_in _ (by omega))) [1, 2, 3, 4, 5, 6] rfl rfl (Go.k (mkrow .k rwI (.k (.b 0 rfl) .n) rfl rfl (by kernel_rfl)) [1, 2, 3, 4, 5, 6] rfl rfl (Go.k (oapp_ .k apI (.b 1 rfl) (.b 0 rfl) (by decide) ⟨(show _ = (u2 ++ [x % 65536]).map (fun z => [ic z]) by rw [List.map_append]; rfl), ⟨rfl, rfl⟩, by rw [List.length_map]; omega⟩) [2, 3, 4, 5, 6] rfl rfl (Go.k (omv .k (.inl rfl) (.b 0 rfl)) [1, 2, 3, 4, 5] rfl rfl (Go.end_ (Nx.go (?_))))))))))))))
   refine Tr.reg [(4, 2)] (.k (mv .k (.b 4 rfl)) (.k (quo_ .k (.g 0 rfl) .c (by decide) (show IntKind.u64.wrap (x.tdiv 65536) = x / 65536 by rw [Int.tdiv_eq_ediv_of_nonneg hxl]; exact u64_id (by omega) (by omega))) (.k (asg .k (.g 1 rfl)) .n))) [0, 1, 2, 3, 5] [2] rfl rfl (Nx.bkN (Nx.go (Tr.reg [(4, 2)] (.k (mv .k (.b 4 rfl)) (.k (add_ .k (.g 0 rfl) .c (show IntKind.i64.wrap ((j : Int) + 1) = ((j + 1 : Nat) : Int) by rw [IntWalk.i64_in _ (by omega)]; omega)) (.k (asg .k (.g 1 rfl)) .n))) [0, 1, 2, 3, 5] [2] rfl rfl (Nx.again (4 - (j + 1)) (by omega) [.b 1 (.is (wv z)) 44 5, .b 2 (.is nv0) 48 2, .o 3 1 3 ((u2 ++ [x % 65536]).map fun z => [ic z]), .s 4 (iv ((i : Nat) : Int)), .s 5 (.is (.int .u64 ((x / 65536)))), .s 6 (iv (((j + 1) : Nat) : Int))] ⟨(j + 1), (u2 ++ [x % 65536]), (x / 65536), (hd.more hj2), rfl, rfl⟩ (Sub.all (.cons 1 rfl (.cons 2 rfl (.cons 0 rfl (.cons 3 rfl (.cons 4 rfl (.cons 5 rfl .nil)))))))))))
  ·
   obtain rfl : j = 4 := by have := of_decide_eq_false e16; omega
   refine Tr.exit (Nx.thX (Nx.thX (Nx.bkX (Nx.bkN (Nx.go (Tr.reg [(3, 2)] (.k (mv .k (.b 3 rfl)) (.k (add_ .k (.g 0 rfl) .c (show IntKind.i64.wrap ((i : Int) + 1) = ((i + 1 : Nat) : Int) by rw [IntWalk.i64_in _ (by omega)]; omega)) (.k (asg .k (.g 1 rfl)) .n))) [0, 1, 2] [2] rfl rfl (Nx.again (4 - (i + 1)) (by omega) [.b 1 (.is (wv z)) 44 5, .b 2 (.is nv0) 48 2, .o 3 1 3 (u2.map fun z => [ic z]), .s 4 (iv (((i + 1) : Nat) : Int))] ⟨(i + 1), u2, ⟨by omega, hd.last⟩, rfl, rfl⟩ (Sub.all (.cons 0 rfl (.cons 1 rfl (.cons 2 rfl (.cons 3 rfl .nil))))))))))))
 ·
  obtain rfl : i = 4 := by have := of_decide_eq_false e8; omega
  refine Tr.exit (Nx.thX (Nx.thX (Nx.bkX (Nx.go (?_)))))
  have hv := hinv.2.2.2
  rw [rst_four (by omega) hz, Int.mul_zero, Int.add_zero] at hv
  refine Tr.frzo 2 [0, 1, 3, 4] rfl rfl ?_
  refine Tr.rs [(2, 4)] (.k (faddr .k (.b 1 rfl) rfl fWN) (.k (ldcx .k (.g 0 rfl) (.b 1 rfl) tyB (fun _ _ _ h => sign_at h)) (.k (mv .k (.b 0 rfl)) (.k (cal .k Try.func39 rfl (fn_trim hinv.2.1 hinv.2.2.1 (by decide) (show (if decide (z < 0) then -val u else val u) = z by rw [hv]; split <;> simp_all <;> omega)) (.k (.g 1 rfl) (.k (.g 2 rfl) .n))) (.k (sto .k (.b 2 rfl) (.g 3 rfl) tyN) .n))))) [] [4] rfl rfl ?_
  refine Tr.ret (end_cell 0 rfl rfl tyN)
end Go.Proofs.Ytcifcohkjifadaa

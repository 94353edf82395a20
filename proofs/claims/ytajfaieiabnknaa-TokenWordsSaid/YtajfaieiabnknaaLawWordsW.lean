/- The walk of the law TokenWords: it is true at every input. -/
import Derived.Test.YtajfaieiabnknaaTokKnown
import Derived.Test.YtajfaieiabnknaaTokGood
import Derived.IntWalk
import Derived.Test.YtajfaieiabnknaaFuncNil
set_option linter.unusedVariables false
set_option linter.unusedSimpArgs false
namespace Go.Proofs.Ytajfaieiabnknaa
open Go Go.Proofs Go.RowKit Go.Shelf Go.Proofs.YtajfaieiabnknaaW.PrintWords Go.Proofs.YtajfaieiabnknaaW.PrintLast Go.Proofs.YtajfaieiabnknaaW.PrintMore
attribute [local go_sem] Oper.semAt_some
attribute [local go_sem] max2_int min2_int max_two min_two max_three min_three max_four min_four

theorem gateIn {F : Fence} {n : Nat} {P : Program} {ops : Array Oper} {rest : List Oper} {o : Oper} {a : Act} {Q : Exit → Act → World → Prop} {W : World} {b : Builtin} {xs : Array Operand} {ts : Array TypeId} (_ho : o.op = .call { callee := .builtin b, args := xs, argTypes := ts }) (h : wpListIn F n P ops Q (o :: rest) a W) : wpListIn F n P ops Q (o :: rest) a W := h
theorem drawn_heap {W w : World} (h : Drawn0 W w) : w.heap = W.heap := by obtain ⟨n, rfl⟩ := h; rfl
theorem Boxed.drawn {W w : World} {B : Nat} {t : TypeId} {v : Value} (h : Boxed W B t v) (hd : Drawn0 W w) : Boxed w B t v := by
  unfold Boxed
  rw [drawn_heap hd]
  exact h
/-- What holds between two rounds of the loop over the iterator: the box of what came, the other boxes. -/
def WI (w1 : World) (A : Option Addr) (n cap : Nat) (k r : Nat) (Bk Br Bg : Nat) (pre : List (Nat × List Int)) (W : World) : Prop :=
  ((∃ v, Boxed W Bg 24 v ∧ W.ownsRow w1.heap.size 37 2 v pre.length (cellsT pre) ∧ True) ∧ Boxed W w1.heap.size 22 (.slice A n cap) ∧ Boxed W Bk 3 (.int .i64 k) ∧ Boxed W Br 3 (.int .i64 r)) ∧ Below w1.heap.size w1 W
theorem WI_own {w1 : World} {A : Option Addr} {n cap k r Bk Br Bg B : Nat} (hB : w1.heap.size ≤ B) : OwnFrom B (fun pre W => WI w1 A n cap k r Bk Br Bg pre W) := by
  refine OwnFrom.and (Own.from ?_ _) (ownFrom_below (Nat.le_refl _) hB)
  intro s X Y row h hg hr
  refine ⟨holdsRow_own w1.heap.size Bg 24 37 2 (fun pre : List (Nat × List Int) => pre.length) cellsT (fun _ _ => True) s X Y row h.1 hg hr, ?_, ?_, ?_⟩
  · refine h.2.1.kept hg (fun e' => ?_)
    obtain ⟨o, ho, hc⟩ := hr _ e'.symm
    rw [show X.heap[w1.heap.size]? = _ from h.2.1] at ho; cases ho; cases hc
  · refine h.2.2.1.kept hg (fun e' => ?_)
    obtain ⟨o, ho, hc⟩ := hr _ e'.symm
    rw [show X.heap[Bk]? = _ from h.2.2.1] at ho; cases ho; cases hc
  · refine h.2.2.2.kept hg (fun e' => ?_)
    obtain ⟨o, ho, hc⟩ := hr _ e'.symm
    rw [show X.heap[Br]? = _ from h.2.2.2] at ho; cases ho; cases hc

set_option maxHeartbeats 4000000 in
set_option maxRecDepth 100000 in
theorem words_walk (A : Option Addr) (cap : Nat) (xs : List Int) (stop : Int) (w : World) (hcap : xs.length ≤ cap) (hR : ReadsInt w .u8 A xs.length xs) (h1 : xs.length ≤ 5000) (hst : -9223372036854775808 ≤ stop ∧ stop ≤ 9223372036854775807) :
    Calls Try.prog 4 #[.slice A xs.length cap, .int .i64 stop] w fun e w' => e = .returned (.bool true) ∧ Below w.heap.size w w' := by
  refine (callsIn_wide (n := 6)).1 ?_
  have hro : Fence.wide.round = none := rfl
  refine callsIn_of_wp_marks Try.func4 rfl trivial ?_ rfl
  simp only [Try.ntmps4, List.size_toArray, List.length_cons, List.length_nil, Nat.reduceAdd, Nat.reduceSub, Array.replicate_succ, Array.replicate_zero, List.push_toArray, List.append_toArray, List.nil_append, List.cons_append]
  gi_wp2
  refine ⟨trivial, ?_⟩
  refine (callsIn_wide.2 (refAll_ok A cap xs w (by omega) hcap hR)).mono ?_
  rintro e w1 ⟨v1, rfl, hv1, hb1⟩
  obtain ⟨A1, c1, rfl, hc1, hr1⟩ := Kd.R_reads hv1
  obtain ⟨ts, hts⟩ : ∃ ts, ts = tks xs := ⟨_, rfl⟩
  rw [← hts] at hr1 hc1 ⊢
  have htl : ts.length ≤ 5000 := by rw [hts]; simp [tks]; exact Nat.le_trans (toks_length xs) h1
  have HTS := Lib.hid hts
  clear hts hv1
  have hu : 0 ≤ IntKind.u64.wrap stop ∧ IntKind.u64.wrap stop ≤ 18446744073709551615 := by simp [IntKind.wrap, IntKind.bits, IntKind.signed]; omega
  generalize hU : IntKind.u64.wrap stop = U at hu
  have hk0 : U.tmod ((ts.length : Int) + 2) = ((U.toNat % (ts.length + 2) : Nat) : Int) := by
    obtain ⟨n, rfl⟩ := Int.eq_ofNat_of_zero_le hu.1
    rw [Int.tmod_eq_emod_of_nonneg (by omega)]
    simp
  have hkl : U.toNat % (ts.length + 2) ≤ ts.length + 1 := by have := Nat.mod_lt U.toNat (show 0 < ts.length + 2 by omega); omega
  generalize U.toNat % (ts.length + 2) = k at hk0 hkl
  gi_wp2
  refine ⟨trivial, ?_⟩
  refine (words_in Fence.wide 5 trivial hro _ _ _ _).mono ?_
  rintro e w2 ⟨rfl, rfl⟩
  have hfn := fun W => run_eql_func_nil W (Fn.func 38) #[] #[.pointer (some ⟨w1.heap.size, 0, none⟩)]
  gi_wp2
  refine wpIn_loop_rounds 3 ?_
  rw [roundsIn_succ]
  gi_wp2
  obtain ⟨W0, hW0⟩ : ∃ W0, ((((w1.alloc (Obj.cells #[Value.slice A xs.length cap] 22)).alloc (Obj.cells #[Value.int IntKind.i64 (k : Int)] 3)).alloc (Obj.cells #[Value.int IntKind.i64 0] 3)).alloc (Obj.cells #[Value.slice none 0 0] 24)) = W0 := ⟨_, rfl⟩
  have hsz : W0.heap.size = w1.heap.size + 4 := by rw [← hW0]; simp
  have bS : Boxed W0 w1.heap.size 22 (.slice A xs.length cap) := by rw [← hW0]; exact (((Boxed.new w1 22 _).alloc _).alloc _).alloc _
  have bK : Boxed W0 (w1.heap.size + 1) 3 (.int .i64 (k : Int)) := by
    rw [← hW0]
    have h := Boxed.new (w1.alloc (Obj.cells #[Value.slice A xs.length cap] 22)) 3 (.int .i64 (k : Int))
    rw [World.size_alloc] at h
    exact (h.alloc _).alloc _
  have bR : Boxed W0 (w1.heap.size + 1 + 1) 3 (.int .i64 ((0 : Nat) : Int)) := by
    rw [← hW0]
    have h := Boxed.new ((w1.alloc (Obj.cells #[Value.slice A xs.length cap] 22)).alloc (Obj.cells #[Value.int IntKind.i64 (k : Int)] 3)) 3 (.int .i64 0)
    rw [World.size_alloc, World.size_alloc] at h
    exact h.alloc _
  have bG : Boxed W0 (w1.heap.size + 1 + 1 + 1) 24 (.slice none 0 0) := by
    rw [← hW0]
    have h := Boxed.new (((w1.alloc (Obj.cells #[Value.slice A xs.length cap] 22)).alloc (Obj.cells #[Value.int IntKind.i64 (k : Int)] 3)).alloc (Obj.cells #[Value.int IntKind.i64 0] 3)) 24 (.slice none 0 0)
    rw [World.size_alloc, World.size_alloc, World.size_alloc] at h
    exact h
  have hB0 : Below w1.heap.size w1 W0 := by rw [← hW0]; exact ((((Below.refl _ w1).alloc (Nat.le_refl _) _).alloc (by simp) _).alloc (by simp; omega) _).alloc (by simp; omega) _
  rw [hW0]
  clear hW0
  obtain ⟨i0, hi, hz0, hz1, hz2⟩ := info_parts info37
  have hR1 := hR.below hb1
  refine wpIn_rangeFunc_ownG hro (by omega) (gf := 38) (lb := #[.pointer (some ⟨w1.heap.size, 0, none⟩)]) rfl trivial (enters_of Try.func38 (by kernel_rfl) rfl)
    (words_stops Fence.wide 5 trivial trivial hro (by omega) w1.heap.size w1.heap.size A cap xs (by omega) hcap (reads_lt hR1) W0 (by omega) (by omega) bS.cell (hR1.below hB0)) (fun h k => h.trans k)
    (fun W l o o' hl ho hc _ k hk => World.putObj_heap_other (by rcases hk with hk | rfl <;> omega)) (Below.refl _ _) (fun _ => rfl)
    (fun pre W => WI w1 A xs.length cap k 0 (w1.heap.size + 1) (w1.heap.size + 1 + 1) (w1.heap.size + 1 + 1 + 1) pre W ∧ pre.length ≤ k)
    (fun c pre W => c = .exit 2 ∧ ∃ pre0 x, pre = pre0 ++ [x] ∧ WI w1 A xs.length cap k 0 (w1.heap.size + 1) (w1.heap.size + 1 + 1) (w1.heap.size + 1 + 1 + 1) pre0 W ∧ pre0.length = k)
    (fun s X Y row h hg hr => ⟨WI_own (by omega) s X Y row h.1 hg hr, h.2⟩)
    (fun c s X Y row h hg hr => by
      obtain ⟨e, p0, x, e2, h2, h3⟩ := h
      exact ⟨e, p0, x, e2, WI_own (B := W0.heap.size) (by omega) p0 X Y row h2 hg hr, h3⟩)
    ⟨⟨⟨⟨_, bG, World.ownsRow_nil _ _ _ _, trivial⟩, bS, bK, bR⟩, hB0⟩, Nat.zero_le _⟩
    ?a1 ?assign ?body ?done ?stop
  case assign =>
    intro l x W K hK
    gi_wp2
    exact hK
  case body =>
    rintro l pre x W ⟨⟨⟨⟨v, hv, hrow, _⟩, hbS, hbK, hbR⟩, hB⟩, hle⟩ hlt
    obtain ⟨Av, cv, rfl⟩ := own_slice hrow
    have hc := hv.cell
    have hck := hbK.cell
    have hcr := hbR.cell
    by_cases hpk : pre.length = k
    · have hb : (pre.length == k) = true := by simpa using hpk
      have hb' : ((pre.length : Int) == (k : Int)) = true := beq_iff_eq.2 (by omega)
      have HPK := Lib.hid hpk
      clear hpk
      gi_wp2
      exact ⟨KeepsFrom.refl _ _, rfl, pre, x, rfl, ⟨⟨⟨_, hv, hrow, trivial⟩, hbS, hbK, hbR⟩, hB⟩, HPK.out⟩
    · have hb : (pre.length == k) = false := by simpa using hpk
      have hb' : ((pre.length : Int) == (k : Int)) = false := beq_eq_false_iff_ne.2 (by omega)
      gi_wp2_with ((with_reducible refine gateIn (b := .append) (xs := #[.tmp 50, .tmp 54]) rfl ?_); gi_at_builtin; refine wpListIn_append_own _ rfl _ _ 24 rfl w1.heap.size 37 i0 _ 2 24 Try.underlying24 hi hz0 hz1 hz2 rfl (by decide) (.slice Av pre.length cv) pre.length (cellsT pre) rfl (hrow.alloc _) ⟨W.heap.size, 0, none⟩ 1 1 [.int .i64 (x.1 : Int), .string (strOfNums x.2)] rfl rfl (cell_two_new _ _ _ _) ?s1 ?s2 ?s3 ?s4 ?_; (case s1 => simp [Value.oneCell']); (case s2 => unfold maxLen; omega); (case s3 => omega); (case s4 => have := hB.size; simp; omega); intro v' w2 hown' hgrow _; obtain ⟨g', cap', rfl⟩ := ownsRow_succ hown'; obtain ⟨hv1, hv2, hr2, hk2, hb2⟩ := hv.appended (by decide) hrow hB.size (by omega) hown' hgrow; have hc1 := hv1.cell; have hf1 := hv1.frozen)
      have kept : ∀ {B t : Nat} {u : Value}, B ≠ w1.heap.size + 1 + 1 + 1 → t ≠ 37 → Boxed W B t u → Boxed (w2.setCell ⟨w1.heap.size + 1 + 1 + 1, 0, none⟩ (.slice (some ⟨g', 0, none⟩) (pre.length + 1) cap')) B t u := fun hBn ht h =>
        ((h.alloc (.cells #[.int .i64 (x.1 : Int), .string (strOfNums x.2)] 37)).kept hgrow (h.not_row ht hrow)).kept (grownBy_setCell' w2 _ _) (by simpa using hBn)
      have kS := kept (by omega) (by decide) hbS
      exact ⟨hk2.from _, Kp2_of (t := 22) (e := 0) (v := .nilFunc) hb2 hbS kS, ⟨⟨⟨_, hv2, by rw [cellsT_snoc]; simpa using hr2, trivial⟩, kS, kept (by omega) (by decide) hbK, kept (by omega) (by decide) hbR⟩, hB.trans hb2⟩, by simp; omega⟩
  case done =>
    rintro D ys W hD rfl ⟨⟨⟨⟨v, hv, hrow, _⟩, hbS, hbK, hbR⟩, hB⟩, hle⟩ hK
    have hRv : Kd.R k37 37 W w1.heap.size (fun _ => True) v ts := by rw [HTS.out]; exact toksR hrow
    have hlk : ts.length ≤ k := by rw [HTS.out, tks, List.length_map]; exact hle
    obtain ⟨Av, cv, rfl, hcv, hrv⟩ := Kd.R_reads hRv
    have hrw := Kd.C_below hr1 hB
    have hc := hv.cell
    have hck := hbK.cell
    have hcr := hbR.cell
    rcases Nat.lt_or_ge ts.length k with hlk2 | hlk2
    · gi_wp2
      refine ⟨trivial, ?_⟩
      refine (callsIn_wide.2 (same_any Av cv ts A1 c1 ts W hrv hrw)).mono ?_
      rintro e w5 ⟨rfl, hd5⟩
      rw [show eqT ts ts = true from by simp [eqT]]
      have bS5 := Boxed.drawn hbS hd5
      have bK5 := Boxed.drawn hbK hd5
      have bR5 := (Boxed.drawn hbR hd5).cell
      have hB5 : Below w1.heap.size w1 w5 := hB.trans (hd5.below.mono hB.size)
      have hK5 : w5.heap[D]? = some (.deferred (some [])) := by rw [drawn_heap hd5]; exact hK
      clear hcr hck hc hrw hrv hRv hd5 hbS hbK hbR hB hK hrow hv
      gi_wp2
      rw [roundsIn_succ]
      gi_wp2
      obtain ⟨V0, hV0⟩ : ∃ V0, ((w5.alloc (Obj.cells #[Value.int IntKind.i64 1] 3)).alloc (Obj.cells #[Value.slice none 0 0] 24)) = V0 := ⟨_, rfl⟩
      have hvz : V0.heap.size = w5.heap.size + 2 := by rw [← hV0]; simp
      have vS : Boxed V0 w1.heap.size 22 (.slice A xs.length cap) := by rw [← hV0]; exact (bS5.alloc _).alloc _
      have vK : Boxed V0 (w1.heap.size + 1) 3 (.int .i64 (k : Int)) := by rw [← hV0]; exact (bK5.alloc _).alloc _
      have vR : Boxed V0 w5.heap.size 3 (.int .i64 ((1 : Nat) : Int)) := by rw [← hV0]; exact (Boxed.new w5 3 (.int .i64 1)).alloc _
      have vG : Boxed V0 (w5.heap.size + 1) 24 (.slice none 0 0) := by
        rw [← hV0]
        have h := Boxed.new (w5.alloc (Obj.cells #[Value.int IntKind.i64 1] 3)) 24 (.slice none 0 0)
        rw [World.size_alloc] at h
        exact h
      have hC0 : Below w1.heap.size w1 V0 := by rw [← hV0]; exact (hB5.alloc hB5.size _).alloc (by have := hB5.size; simp; omega) _
      have hD5 : D < w5.heap.size := (Array.getElem?_eq_some_iff.1 hK5).1
      have hKV : V0.heap[D]? = some (.deferred (some [])) := by
        rw [← hV0]
        exact (Below.heap_alloc _ _ _ (by simp; omega)).trans ((Below.heap_alloc _ _ _ hD5).trans hK5)
      have hs15 := hB5.size
      rw [hV0]
      clear hV0
      refine wpIn_rangeFunc_ownG hro (by omega) (gf := 38) (lb := #[.pointer (some ⟨w1.heap.size, 0, none⟩)]) rfl trivial (enters_of Try.func38 (by kernel_rfl) rfl)
        (words_stops Fence.wide 5 trivial trivial hro (by omega) w1.heap.size w1.heap.size A cap xs (by omega) hcap (reads_lt hR1) V0 (by omega) (by omega) vS.cell (hR1.below hC0)) (fun h k => h.trans k)
        (fun W l o o' hl ho hc _ k hk => World.putObj_heap_other (by rcases hk with hk | rfl <;> omega)) (Below.refl _ _) (fun _ => rfl)
        (fun pre W => WI w1 A xs.length cap k 1 (w1.heap.size + 1) w5.heap.size (w5.heap.size + 1) pre W ∧ W.heap[D]? = some (.deferred (some [])))
        (fun _ _ _ => False)
        (fun s X Y row h hg hr => ⟨WI_own (B := V0.heap.size) (by omega) s X Y row h.1 hg hr, (hg.block D (Array.getElem?_eq_some_iff.1 h.2).1 (fun e => by have := (hr D e.symm).1; omega)).trans h.2⟩)
        (fun _ _ _ _ _ hs _ _ => hs)
        ⟨⟨⟨⟨_, vG, World.ownsRow_nil _ _ _ _, trivial⟩, vS, vK, vR⟩, hC0⟩, hKV⟩
        ?a2 ?assign2 ?body2 ?done2 ?stop2
      case assign2 =>
        intro l x W K hK
        gi_wp2
        exact hK
      case body2 =>
        rintro l pre x W ⟨⟨⟨⟨v, hv, hrow, _⟩, hbS, hbK, hbR⟩, hB⟩, hKD⟩ hlt
        obtain ⟨Av, cv, rfl⟩ := own_slice hrow
        have hc := hv.cell
        have hck := hbK.cell
        have hcr := hbR.cell
        have kept : ∀ (B t : Nat) (u v' : Value) (tmp : Obj) (w2 : World), (W.alloc tmp).grownBy w2 (Value.slice Av pre.length cv).ownBlock → B ≠ w5.heap.size + 1 → t ≠ 37 → Boxed W B t u → Boxed (w2.setCell ⟨w5.heap.size + 1, 0, none⟩ v') B t u := fun B t u v' tmp w2 hgrow hBn ht h =>
          ((h.alloc _).kept hgrow (h.not_row ht hrow)).kept (grownBy_setCell' _ _ _) (by simpa using hBn)
        have KEPT := Lib.hid kept
        clear kept
        by_cases hpk : pre.length = k
        · have hb : (pre.length == k) = true := by simpa using hpk
          have hb' : ((pre.length : Int) == (k : Int)) = true := beq_iff_eq.2 (by omega)
          clear hpk
          gi_wp2_with ((with_reducible refine gateIn (b := .append) (xs := #[.tmp 50, .tmp 54]) rfl ?_); gi_at_builtin; refine wpListIn_append_own _ rfl _ _ 24 rfl w1.heap.size 37 i0 _ 2 24 Try.underlying24 hi hz0 hz1 hz2 rfl (by decide) (.slice Av pre.length cv) pre.length (cellsT pre) rfl (hrow.alloc _) ⟨W.heap.size, 0, none⟩ 1 1 [.int .i64 (x.1 : Int), .string (strOfNums x.2)] rfl rfl (cell_two_new _ _ _ _) ?s1 ?s2 ?s3 ?s4 ?_; (case s1 => simp [Value.oneCell']); (case s2 => unfold maxLen; omega); (case s3 => omega); (case s4 => have := hB.size; simp; omega); intro v' w2 hown' hgrow _; obtain ⟨g', cap', rfl⟩ := ownsRow_succ hown'; obtain ⟨hv1, hv2, hr2, hk2, hb2⟩ := hv.appended (by decide) hrow hB.size (by omega) hown' hgrow; have hc1 := hv1.cell; have hf1 := hv1.frozen)
          have kS := KEPT.out _ _ _ (.slice (some ⟨g', 0, none⟩) (pre.length + 1) cap') _ _ hgrow (by omega) (by decide) hbS
          exact ⟨hk2.from _, Kp2_of (t := 22) (e := 0) (v := .nilFunc) hb2 hbS kS, ⟨⟨⟨_, hv2, by rw [cellsT_snoc]; simpa using hr2, trivial⟩, kS, KEPT.out _ _ _ _ _ _ hgrow (by omega) (by decide) hbK, KEPT.out _ _ _ _ _ _ hgrow (by omega) (by decide) hbR⟩, hB.trans hb2⟩, hk2.same D _ hKD rfl⟩
        · have hb : (pre.length == k) = false := by simpa using hpk
          have hb' : ((pre.length : Int) == (k : Int)) = false := beq_eq_false_iff_ne.2 (by omega)
          gi_wp2_with ((with_reducible refine gateIn (b := .append) (xs := #[.tmp 50, .tmp 54]) rfl ?_); gi_at_builtin; refine wpListIn_append_own _ rfl _ _ 24 rfl w1.heap.size 37 i0 _ 2 24 Try.underlying24 hi hz0 hz1 hz2 rfl (by decide) (.slice Av pre.length cv) pre.length (cellsT pre) rfl (hrow.alloc _) ⟨W.heap.size, 0, none⟩ 1 1 [.int .i64 (x.1 : Int), .string (strOfNums x.2)] rfl rfl (cell_two_new _ _ _ _) ?s1 ?s2 ?s3 ?s4 ?_; (case s1 => simp [Value.oneCell']); (case s2 => unfold maxLen; omega); (case s3 => omega); (case s4 => have := hB.size; simp; omega); intro v' w2 hown' hgrow _; obtain ⟨g', cap', rfl⟩ := ownsRow_succ hown'; obtain ⟨hv1, hv2, hr2, hk2, hb2⟩ := hv.appended (by decide) hrow hB.size (by omega) hown' hgrow; have hc1 := hv1.cell; have hf1 := hv1.frozen)
          have kS := KEPT.out _ _ _ (.slice (some ⟨g', 0, none⟩) (pre.length + 1) cap') _ _ hgrow (by omega) (by decide) hbS
          exact ⟨hk2.from _, Kp2_of (t := 22) (e := 0) (v := .nilFunc) hb2 hbS kS, ⟨⟨⟨_, hv2, by rw [cellsT_snoc]; simpa using hr2, trivial⟩, kS, KEPT.out _ _ _ _ _ _ hgrow (by omega) (by decide) hbK, KEPT.out _ _ _ _ _ _ hgrow (by omega) (by decide) hbR⟩, hB.trans hb2⟩, hk2.same D _ hKD rfl⟩
      case done2 =>
        rintro D2 ys W hD2 rfl ⟨⟨⟨⟨v, hv, hrow, _⟩, hbS, hbK, hbR⟩, hB⟩, hKD⟩ hK
        have hRv : Kd.R k37 37 W w1.heap.size (fun _ => True) v ts := by rw [HTS.out]; exact toksR hrow
        obtain ⟨Av, cv, rfl, hcv, hrv⟩ := Kd.R_reads hRv
        have hrw := Kd.C_below hr1 hB
        have hc := hv.cell
        have hck := hbK.cell
        have hcr := hbR.cell
        gi_wp2
        refine ⟨trivial, ?_⟩
        refine (callsIn_wide.2 (same_any Av cv ts A1 c1 ts W hrv hrw)).mono ?_
        rintro e w6 ⟨rfl, hd6⟩
        rw [show eqT ts ts = true from by simp [eqT]]
        have bS6 := Boxed.drawn hbS hd6
        have bR6 := (Boxed.drawn hbR hd6).cell
        have hB6 : Below w1.heap.size w1 w6 := hB.trans (hd6.below.mono hB.size)
        have hK6 : w6.heap[D2]? = some (.deferred (some [])) := by rw [drawn_heap hd6]; exact hK
        have hKD6 : w6.heap[D]? = some (.deferred (some [])) := by rw [drawn_heap hd6]; exact hKD
        clear hcr hck hc hrw hrv hRv hd6 hbS hbK hbR hB hK hrow hv hKD
        gi_wp2
        rw [roundsIn_succ]
        gi_wp2
        refine ⟨trivial, ?_⟩
        refine (callsIn_wide.2 (known_ok _)).mono ?_
        rintro e w7 ⟨rfl, hb7⟩
        have hD6 : D2 < w6.heap.size := (Array.getElem?_eq_some_iff.1 hK6).1
        have hDD6 : D < w6.heap.size := (Array.getElem?_eq_some_iff.1 hKD6).1
        have hK7 : w7.heap[D2]? = some (.deferred (some [])) := (hb7.block D2 (by simp; omega)).trans ((Below.heap_alloc _ _ _ hD6).trans hK6)
        have hKD7 : w7.heap[D]? = some (.deferred (some [])) := (hb7.block D (by simp; omega)).trans ((Below.heap_alloc _ _ _ hDD6).trans hKD6)
        have hB7 : Below w1.heap.size w1 w7 := (hB6.alloc hB6.size _).trans (hb7.mono (by have := hB6.size; simp; omega))
        clear hK6 hKD6 hb7 bS6 bR6
        gi_wp2
        have hne : D ≠ D2 := by omega
        have hB8 := hB7.trans (belowK_b (w := w1) (Nat.le_refl _) w7 D2 (.deferred (some [])) (.deferred none) (by omega) hK7 rfl rfl)
        have hKD8 : (w7.putObj D2 (.deferred none)).heap[D]? = some (.deferred (some [])) := (World.putObj_heap_other hne).trans hKD7
        have hB9 := hB8.trans (belowK_b (w := w1) (Nat.le_refl _) (w7.putObj D2 (.deferred none)) D (.deferred (some [])) (.deferred none) (by omega) hKD8 rfl rfl)
        refine ⟨by simp, .inl ⟨_, _, rfl, run_takeDeferred hK7, ?_⟩⟩
        refine ⟨by simp, .inl ⟨_, _, rfl, run_takeDeferred hKD8, ?_⟩⟩
        exact ⟨_, results_tmp rfl _ _ _, rfl, hb1.trans (hB9.mono hb1.size)⟩
      case stop2 =>
        rintro D2 c pre W _ _ h _
        exact h.elim
    · have hke : ts.length = k := by omega
      have hsame := same_any Av cv ts A1 c1 ts W hrv hrw
      rw [hke] at hsame hv hcv hrow hRv hc
      have HSAME := Lib.hid hsame
      clear hsame hrv hrw hke hlk
      gi_wp2
      refine ⟨trivial, ?_⟩
      refine (callsIn_wide.2 HSAME.out).mono ?_
      rintro e w5 ⟨rfl, hd5⟩
      rw [show eqT ts ts = true from by simp [eqT]]
      have bS5 := Boxed.drawn hbS hd5
      have bK5 := Boxed.drawn hbK hd5
      have bR5 := (Boxed.drawn hbR hd5).cell
      have hB5 : Below w1.heap.size w1 w5 := hB.trans (hd5.below.mono hB.size)
      have hK5 : w5.heap[D]? = some (.deferred (some [])) := by rw [drawn_heap hd5]; exact hK
      clear hcr hck hc hRv hd5 hbS hbK hbR hB hK hrow hv
      gi_wp2
      rw [roundsIn_succ]
      gi_wp2
      obtain ⟨V0, hV0⟩ : ∃ V0, ((w5.alloc (Obj.cells #[Value.int IntKind.i64 1] 3)).alloc (Obj.cells #[Value.slice none 0 0] 24)) = V0 := ⟨_, rfl⟩
      have hvz : V0.heap.size = w5.heap.size + 2 := by rw [← hV0]; simp
      have vS : Boxed V0 w1.heap.size 22 (.slice A xs.length cap) := by rw [← hV0]; exact (bS5.alloc _).alloc _
      have vK : Boxed V0 (w1.heap.size + 1) 3 (.int .i64 (k : Int)) := by rw [← hV0]; exact (bK5.alloc _).alloc _
      have vR : Boxed V0 w5.heap.size 3 (.int .i64 ((1 : Nat) : Int)) := by rw [← hV0]; exact (Boxed.new w5 3 (.int .i64 1)).alloc _
      have vG : Boxed V0 (w5.heap.size + 1) 24 (.slice none 0 0) := by
        rw [← hV0]
        have h := Boxed.new (w5.alloc (Obj.cells #[Value.int IntKind.i64 1] 3)) 24 (.slice none 0 0)
        rw [World.size_alloc] at h
        exact h
      have hC0 : Below w1.heap.size w1 V0 := by rw [← hV0]; exact (hB5.alloc hB5.size _).alloc (by have := hB5.size; simp; omega) _
      have hD5 : D < w5.heap.size := (Array.getElem?_eq_some_iff.1 hK5).1
      have hKV : V0.heap[D]? = some (.deferred (some [])) := by
        rw [← hV0]
        exact (Below.heap_alloc _ _ _ (by simp; omega)).trans ((Below.heap_alloc _ _ _ hD5).trans hK5)
      have hs15 := hB5.size
      rw [hV0]
      clear hV0
      refine wpIn_rangeFunc_ownG hro (by omega) (gf := 38) (lb := #[.pointer (some ⟨w1.heap.size, 0, none⟩)]) rfl trivial (enters_of Try.func38 (by kernel_rfl) rfl)
        (words_stops Fence.wide 5 trivial trivial hro (by omega) w1.heap.size w1.heap.size A cap xs (by omega) hcap (reads_lt hR1) V0 (by omega) (by omega) vS.cell (hR1.below hC0)) (fun h k => h.trans k)
        (fun W l o o' hl ho hc _ k hk => World.putObj_heap_other (by rcases hk with hk | rfl <;> omega)) (Below.refl _ _) (fun _ => rfl)
        (fun pre W => WI w1 A xs.length cap k 1 (w1.heap.size + 1) w5.heap.size (w5.heap.size + 1) pre W ∧ W.heap[D]? = some (.deferred (some [])))
        (fun _ _ _ => False)
        (fun s X Y row h hg hr => ⟨WI_own (B := V0.heap.size) (by omega) s X Y row h.1 hg hr, (hg.block D (Array.getElem?_eq_some_iff.1 h.2).1 (fun e => by have := (hr D e.symm).1; omega)).trans h.2⟩)
        (fun _ _ _ _ _ hs _ _ => hs)
        ⟨⟨⟨⟨_, vG, World.ownsRow_nil _ _ _ _, trivial⟩, vS, vK, vR⟩, hC0⟩, hKV⟩
        ?a3 ?assign3 ?body3 ?done3 ?stop3
      case assign3 =>
        intro l x W K hK
        gi_wp2
        exact hK
      case body3 =>
        rintro l pre x W ⟨⟨⟨⟨v, hv, hrow, _⟩, hbS, hbK, hbR⟩, hB⟩, hKD⟩ hlt
        obtain ⟨Av, cv, rfl⟩ := own_slice hrow
        have hc := hv.cell
        have hck := hbK.cell
        have hcr := hbR.cell
        have kept : ∀ (B t : Nat) (u v' : Value) (tmp : Obj) (w2 : World), (W.alloc tmp).grownBy w2 (Value.slice Av pre.length cv).ownBlock → B ≠ w5.heap.size + 1 → t ≠ 37 → Boxed W B t u → Boxed (w2.setCell ⟨w5.heap.size + 1, 0, none⟩ v') B t u := fun B t u v' tmp w2 hgrow hBn ht h =>
          ((h.alloc _).kept hgrow (h.not_row ht hrow)).kept (grownBy_setCell' _ _ _) (by simpa using hBn)
        have KEPT := Lib.hid kept
        clear kept
        by_cases hpk : pre.length = k
        · have hb : (pre.length == k) = true := by simpa using hpk
          have hb' : ((pre.length : Int) == (k : Int)) = true := beq_iff_eq.2 (by omega)
          clear hpk
          gi_wp2_with ((with_reducible refine gateIn (b := .append) (xs := #[.tmp 50, .tmp 54]) rfl ?_); gi_at_builtin; refine wpListIn_append_own _ rfl _ _ 24 rfl w1.heap.size 37 i0 _ 2 24 Try.underlying24 hi hz0 hz1 hz2 rfl (by decide) (.slice Av pre.length cv) pre.length (cellsT pre) rfl (hrow.alloc _) ⟨W.heap.size, 0, none⟩ 1 1 [.int .i64 (x.1 : Int), .string (strOfNums x.2)] rfl rfl (cell_two_new _ _ _ _) ?s1 ?s2 ?s3 ?s4 ?_; (case s1 => simp [Value.oneCell']); (case s2 => unfold maxLen; omega); (case s3 => omega); (case s4 => have := hB.size; simp; omega); intro v' w2 hown' hgrow _; obtain ⟨g', cap', rfl⟩ := ownsRow_succ hown'; obtain ⟨hv1, hv2, hr2, hk2, hb2⟩ := hv.appended (by decide) hrow hB.size (by omega) hown' hgrow; have hc1 := hv1.cell; have hf1 := hv1.frozen)
          have kS := KEPT.out _ _ _ (.slice (some ⟨g', 0, none⟩) (pre.length + 1) cap') _ _ hgrow (by omega) (by decide) hbS
          exact ⟨hk2.from _, Kp2_of (t := 22) (e := 0) (v := .nilFunc) hb2 hbS kS, ⟨⟨⟨_, hv2, by rw [cellsT_snoc]; simpa using hr2, trivial⟩, kS, KEPT.out _ _ _ _ _ _ hgrow (by omega) (by decide) hbK, KEPT.out _ _ _ _ _ _ hgrow (by omega) (by decide) hbR⟩, hB.trans hb2⟩, hk2.same D _ hKD rfl⟩
        · have hb : (pre.length == k) = false := by simpa using hpk
          have hb' : ((pre.length : Int) == (k : Int)) = false := beq_eq_false_iff_ne.2 (by omega)
          gi_wp2_with ((with_reducible refine gateIn (b := .append) (xs := #[.tmp 50, .tmp 54]) rfl ?_); gi_at_builtin; refine wpListIn_append_own _ rfl _ _ 24 rfl w1.heap.size 37 i0 _ 2 24 Try.underlying24 hi hz0 hz1 hz2 rfl (by decide) (.slice Av pre.length cv) pre.length (cellsT pre) rfl (hrow.alloc _) ⟨W.heap.size, 0, none⟩ 1 1 [.int .i64 (x.1 : Int), .string (strOfNums x.2)] rfl rfl (cell_two_new _ _ _ _) ?s1 ?s2 ?s3 ?s4 ?_; (case s1 => simp [Value.oneCell']); (case s2 => unfold maxLen; omega); (case s3 => omega); (case s4 => have := hB.size; simp; omega); intro v' w2 hown' hgrow _; obtain ⟨g', cap', rfl⟩ := ownsRow_succ hown'; obtain ⟨hv1, hv2, hr2, hk2, hb2⟩ := hv.appended (by decide) hrow hB.size (by omega) hown' hgrow; have hc1 := hv1.cell; have hf1 := hv1.frozen)
          have kS := KEPT.out _ _ _ (.slice (some ⟨g', 0, none⟩) (pre.length + 1) cap') _ _ hgrow (by omega) (by decide) hbS
          exact ⟨hk2.from _, Kp2_of (t := 22) (e := 0) (v := .nilFunc) hb2 hbS kS, ⟨⟨⟨_, hv2, by rw [cellsT_snoc]; simpa using hr2, trivial⟩, kS, KEPT.out _ _ _ _ _ _ hgrow (by omega) (by decide) hbK, KEPT.out _ _ _ _ _ _ hgrow (by omega) (by decide) hbR⟩, hB.trans hb2⟩, hk2.same D _ hKD rfl⟩
      case done3 =>
        rintro D2 ys W hD2 rfl ⟨⟨⟨⟨v, hv, hrow, _⟩, hbS, hbK, hbR⟩, hB⟩, hKD⟩ hK
        have hRv : Kd.R k37 37 W w1.heap.size (fun _ => True) v ts := by rw [HTS.out]; exact toksR hrow
        obtain ⟨Av, cv, rfl, hcv, hrv⟩ := Kd.R_reads hRv
        have hrw := Kd.C_below hr1 hB
        have hc := hv.cell
        have hck := hbK.cell
        have hcr := hbR.cell
        gi_wp2
        refine ⟨trivial, ?_⟩
        refine (callsIn_wide.2 (same_any Av cv ts A1 c1 ts W hrv hrw)).mono ?_
        rintro e w6 ⟨rfl, hd6⟩
        rw [show eqT ts ts = true from by simp [eqT]]
        have bS6 := Boxed.drawn hbS hd6
        have bR6 := (Boxed.drawn hbR hd6).cell
        have hB6 : Below w1.heap.size w1 w6 := hB.trans (hd6.below.mono hB.size)
        have hK6 : w6.heap[D2]? = some (.deferred (some [])) := by rw [drawn_heap hd6]; exact hK
        have hKD6 : w6.heap[D]? = some (.deferred (some [])) := by rw [drawn_heap hd6]; exact hKD
        clear hcr hck hc hrw hrv hRv hd6 hbS hbK hbR hB hK hrow hv hKD
        gi_wp2
        rw [roundsIn_succ]
        gi_wp2
        refine ⟨trivial, ?_⟩
        refine (callsIn_wide.2 (known_ok _)).mono ?_
        rintro e w7 ⟨rfl, hb7⟩
        have hD6 : D2 < w6.heap.size := (Array.getElem?_eq_some_iff.1 hK6).1
        have hDD6 : D < w6.heap.size := (Array.getElem?_eq_some_iff.1 hKD6).1
        have hK7 : w7.heap[D2]? = some (.deferred (some [])) := (hb7.block D2 (by simp; omega)).trans ((Below.heap_alloc _ _ _ hD6).trans hK6)
        have hKD7 : w7.heap[D]? = some (.deferred (some [])) := (hb7.block D (by simp; omega)).trans ((Below.heap_alloc _ _ _ hDD6).trans hKD6)
        have hB7 : Below w1.heap.size w1 w7 := (hB6.alloc hB6.size _).trans (hb7.mono (by have := hB6.size; simp; omega))
        clear hK6 hKD6 hb7 bS6 bR6
        gi_wp2
        have hne : D ≠ D2 := by omega
        have hB8 := hB7.trans (belowK_b (w := w1) (Nat.le_refl _) w7 D2 (.deferred (some [])) (.deferred none) (by omega) hK7 rfl rfl)
        have hKD8 : (w7.putObj D2 (.deferred none)).heap[D]? = some (.deferred (some [])) := (World.putObj_heap_other hne).trans hKD7
        have hB9 := hB8.trans (belowK_b (w := w1) (Nat.le_refl _) (w7.putObj D2 (.deferred none)) D (.deferred (some [])) (.deferred none) (by omega) hKD8 rfl rfl)
        refine ⟨by simp, .inl ⟨_, _, rfl, run_takeDeferred hK7, ?_⟩⟩
        refine ⟨by simp, .inl ⟨_, _, rfl, run_takeDeferred hKD8, ?_⟩⟩
        exact ⟨_, results_tmp rfl _ _ _, rfl, hb1.trans (hB9.mono hb1.size)⟩
      case stop3 =>
        rintro D2 c pre W _ _ h _
        exact h.elim
  case stop =>
    rintro D c pre W hD ⟨hpre, _⟩ ⟨rfl, pre0, x, rfl, ⟨⟨⟨v, hv, hrow, _⟩, hbS, hbK, hbR⟩, hB⟩, hpk⟩ hK
    have hpl : k < ts.length := by
      have := hpre.length_le
      rw [HTS.out, tks, List.length_map]
      simp at this
      omega
    have hp0 : pre0.map tk = ts.take k := by
      obtain ⟨r, hr⟩ := hpre
      rw [HTS.out, tks, ← hr, List.append_assoc, List.map_append, List.take_append_of_le_length (by rw [List.length_map]; omega), List.take_of_length_le (by rw [List.length_map]; omega)]
    have hgl : (ts.take k).length = k := by rw [List.length_take]; omega
    obtain ⟨gs, hgs⟩ : ∃ gs, gs = ts.take k := ⟨_, rfl⟩
    have hRv : Kd.R k37 37 W w1.heap.size (fun _ => True) v gs := by rw [hgs, ← hp0]; exact toksR hrow
    obtain ⟨Av, cv, rfl, hcv, hrv⟩ := Kd.R_reads hRv
    have hrw : Kd.C k37 W A1 gs.length gs := by rw [hgs]; exact Kd.C_take (Kd.C_below hr1 hB) (by omega)
    have hsame := same_any Av cv gs A1 c1 gs W hrv hrw
    rw [← hgs] at hgl
    rw [hgl] at hsame hv hcv hrow hRv
    have HSAME := Lib.hid hsame
    clear hsame hrv hrw hgs hgl hp0 hcv hpre
    have hc := hv.cell
    have hck := hbK.cell
    have hcr := hbR.cell
    gi_wp2
    refine ⟨trivial, ?_⟩
    refine (callsIn_wide.2 HSAME.out).mono ?_
    rintro e w5 ⟨rfl, hd5⟩
    rw [show eqT gs gs = true from by simp [eqT]]
    have bS5 := Boxed.drawn hbS hd5
    have bK5 := Boxed.drawn hbK hd5
    have bR5 := (Boxed.drawn hbR hd5).cell
    have hB5 : Below w1.heap.size w1 w5 := hB.trans (hd5.below.mono hB.size)
    have hK5 : w5.heap[D]? = some (.deferred (some [])) := by rw [drawn_heap hd5]; exact hK
    clear hcr hck hc hRv hd5 hbS hbK hbR hB hK hrow hv
    gi_wp2
    rw [roundsIn_succ]
    gi_wp2
    obtain ⟨V0, hV0⟩ : ∃ V0, ((w5.alloc (Obj.cells #[Value.int IntKind.i64 1] 3)).alloc (Obj.cells #[Value.slice none 0 0] 24)) = V0 := ⟨_, rfl⟩
    have hvz : V0.heap.size = w5.heap.size + 2 := by rw [← hV0]; simp
    have vS : Boxed V0 w1.heap.size 22 (.slice A xs.length cap) := by rw [← hV0]; exact (bS5.alloc _).alloc _
    have vK : Boxed V0 (w1.heap.size + 1) 3 (.int .i64 (k : Int)) := by rw [← hV0]; exact (bK5.alloc _).alloc _
    have vR : Boxed V0 w5.heap.size 3 (.int .i64 ((1 : Nat) : Int)) := by rw [← hV0]; exact (Boxed.new w5 3 (.int .i64 1)).alloc _
    have vG : Boxed V0 (w5.heap.size + 1) 24 (.slice none 0 0) := by
      rw [← hV0]
      have h := Boxed.new (w5.alloc (Obj.cells #[Value.int IntKind.i64 1] 3)) 24 (.slice none 0 0)
      rw [World.size_alloc] at h
      exact h
    have hC0 : Below w1.heap.size w1 V0 := by rw [← hV0]; exact (hB5.alloc hB5.size _).alloc (by have := hB5.size; simp; omega) _
    have hD5 : D < w5.heap.size := (Array.getElem?_eq_some_iff.1 hK5).1
    have hKV : V0.heap[D]? = some (.deferred (some [])) := by
      rw [← hV0]
      exact (Below.heap_alloc _ _ _ (by simp; omega)).trans ((Below.heap_alloc _ _ _ hD5).trans hK5)
    have hs15 := hB5.size
    rw [hV0]
    clear hV0
    refine wpIn_rangeFunc_ownG hro (by omega) (gf := 38) (lb := #[.pointer (some ⟨w1.heap.size, 0, none⟩)]) rfl trivial (enters_of Try.func38 (by kernel_rfl) rfl)
      (words_stops Fence.wide 5 trivial trivial hro (by omega) w1.heap.size w1.heap.size A cap xs (by omega) hcap (reads_lt hR1) V0 (by omega) (by omega) vS.cell (hR1.below hC0)) (fun h k => h.trans k)
      (fun W l o o' hl ho hc _ k hk => World.putObj_heap_other (by rcases hk with hk | rfl <;> omega)) (Below.refl _ _) (fun _ => rfl)
      (fun pre W => WI w1 A xs.length cap k 1 (w1.heap.size + 1) w5.heap.size (w5.heap.size + 1) pre W ∧ W.heap[D]? = some (.deferred (some [])))
      (fun _ _ _ => False)
      (fun s X Y row h hg hr => ⟨WI_own (B := V0.heap.size) (by omega) s X Y row h.1 hg hr, (hg.block D (Array.getElem?_eq_some_iff.1 h.2).1 (fun e => by have := (hr D e.symm).1; omega)).trans h.2⟩)
      (fun _ _ _ _ _ hs _ _ => hs)
      ⟨⟨⟨⟨_, vG, World.ownsRow_nil _ _ _ _, trivial⟩, vS, vK, vR⟩, hC0⟩, hKV⟩
      ?a4 ?assign4 ?body4 ?done4 ?stop4
    case assign4 =>
      intro l x W K hK
      gi_wp2
      exact hK
    case body4 =>
      rintro l pre x W ⟨⟨⟨⟨v, hv, hrow, _⟩, hbS, hbK, hbR⟩, hB⟩, hKD⟩ hlt
      obtain ⟨Av, cv, rfl⟩ := own_slice hrow
      have hc := hv.cell
      have hck := hbK.cell
      have hcr := hbR.cell
      have kept : ∀ (B t : Nat) (u v' : Value) (tmp : Obj) (w2 : World), (W.alloc tmp).grownBy w2 (Value.slice Av pre.length cv).ownBlock → B ≠ w5.heap.size + 1 → t ≠ 37 → Boxed W B t u → Boxed (w2.setCell ⟨w5.heap.size + 1, 0, none⟩ v') B t u := fun B t u v' tmp w2 hgrow hBn ht h =>
        ((h.alloc _).kept hgrow (h.not_row ht hrow)).kept (grownBy_setCell' _ _ _) (by simpa using hBn)
      have KEPT := Lib.hid kept
      clear kept
      by_cases hpk : pre.length = k
      · have hb : (pre.length == k) = true := by simpa using hpk
        have hb' : ((pre.length : Int) == (k : Int)) = true := beq_iff_eq.2 (by omega)
        clear hpk
        gi_wp2_with ((with_reducible refine gateIn (b := .append) (xs := #[.tmp 50, .tmp 54]) rfl ?_); gi_at_builtin; refine wpListIn_append_own _ rfl _ _ 24 rfl w1.heap.size 37 i0 _ 2 24 Try.underlying24 hi hz0 hz1 hz2 rfl (by decide) (.slice Av pre.length cv) pre.length (cellsT pre) rfl (hrow.alloc _) ⟨W.heap.size, 0, none⟩ 1 1 [.int .i64 (x.1 : Int), .string (strOfNums x.2)] rfl rfl (cell_two_new _ _ _ _) ?s1 ?s2 ?s3 ?s4 ?_; (case s1 => simp [Value.oneCell']); (case s2 => unfold maxLen; omega); (case s3 => omega); (case s4 => have := hB.size; simp; omega); intro v' w2 hown' hgrow _; obtain ⟨g', cap', rfl⟩ := ownsRow_succ hown'; obtain ⟨hv1, hv2, hr2, hk2, hb2⟩ := hv.appended (by decide) hrow hB.size (by omega) hown' hgrow; have hc1 := hv1.cell; have hf1 := hv1.frozen)
        have kS := KEPT.out _ _ _ (.slice (some ⟨g', 0, none⟩) (pre.length + 1) cap') _ _ hgrow (by omega) (by decide) hbS
        exact ⟨hk2.from _, Kp2_of (t := 22) (e := 0) (v := .nilFunc) hb2 hbS kS, ⟨⟨⟨_, hv2, by rw [cellsT_snoc]; simpa using hr2, trivial⟩, kS, KEPT.out _ _ _ _ _ _ hgrow (by omega) (by decide) hbK, KEPT.out _ _ _ _ _ _ hgrow (by omega) (by decide) hbR⟩, hB.trans hb2⟩, hk2.same D _ hKD rfl⟩
      · have hb : (pre.length == k) = false := by simpa using hpk
        have hb' : ((pre.length : Int) == (k : Int)) = false := beq_eq_false_iff_ne.2 (by omega)
        gi_wp2_with ((with_reducible refine gateIn (b := .append) (xs := #[.tmp 50, .tmp 54]) rfl ?_); gi_at_builtin; refine wpListIn_append_own _ rfl _ _ 24 rfl w1.heap.size 37 i0 _ 2 24 Try.underlying24 hi hz0 hz1 hz2 rfl (by decide) (.slice Av pre.length cv) pre.length (cellsT pre) rfl (hrow.alloc _) ⟨W.heap.size, 0, none⟩ 1 1 [.int .i64 (x.1 : Int), .string (strOfNums x.2)] rfl rfl (cell_two_new _ _ _ _) ?s1 ?s2 ?s3 ?s4 ?_; (case s1 => simp [Value.oneCell']); (case s2 => unfold maxLen; omega); (case s3 => omega); (case s4 => have := hB.size; simp; omega); intro v' w2 hown' hgrow _; obtain ⟨g', cap', rfl⟩ := ownsRow_succ hown'; obtain ⟨hv1, hv2, hr2, hk2, hb2⟩ := hv.appended (by decide) hrow hB.size (by omega) hown' hgrow; have hc1 := hv1.cell; have hf1 := hv1.frozen)
        have kS := KEPT.out _ _ _ (.slice (some ⟨g', 0, none⟩) (pre.length + 1) cap') _ _ hgrow (by omega) (by decide) hbS
        exact ⟨hk2.from _, Kp2_of (t := 22) (e := 0) (v := .nilFunc) hb2 hbS kS, ⟨⟨⟨_, hv2, by rw [cellsT_snoc]; simpa using hr2, trivial⟩, kS, KEPT.out _ _ _ _ _ _ hgrow (by omega) (by decide) hbK, KEPT.out _ _ _ _ _ _ hgrow (by omega) (by decide) hbR⟩, hB.trans hb2⟩, hk2.same D _ hKD rfl⟩
    case done4 =>
      rintro D2 ys W hD2 rfl ⟨⟨⟨⟨v, hv, hrow, _⟩, hbS, hbK, hbR⟩, hB⟩, hKD⟩ hK
      have hRv : Kd.R k37 37 W w1.heap.size (fun _ => True) v ts := by rw [HTS.out]; exact toksR hrow
      obtain ⟨Av, cv, rfl, hcv, hrv⟩ := Kd.R_reads hRv
      have hrw := Kd.C_below hr1 hB
      have hc := hv.cell
      have hck := hbK.cell
      have hcr := hbR.cell
      gi_wp2
      refine ⟨trivial, ?_⟩
      refine (callsIn_wide.2 (same_any Av cv ts A1 c1 ts W hrv hrw)).mono ?_
      rintro e w6 ⟨rfl, hd6⟩
      rw [show eqT ts ts = true from by simp [eqT]]
      have bS6 := Boxed.drawn hbS hd6
      have bR6 := (Boxed.drawn hbR hd6).cell
      have hB6 : Below w1.heap.size w1 w6 := hB.trans (hd6.below.mono hB.size)
      have hK6 : w6.heap[D2]? = some (.deferred (some [])) := by rw [drawn_heap hd6]; exact hK
      have hKD6 : w6.heap[D]? = some (.deferred (some [])) := by rw [drawn_heap hd6]; exact hKD
      clear hcr hck hc hrw hrv hRv hd6 hbS hbK hbR hB hK hrow hv hKD
      gi_wp2
      rw [roundsIn_succ]
      gi_wp2
      refine ⟨trivial, ?_⟩
      refine (callsIn_wide.2 (known_ok _)).mono ?_
      rintro e w7 ⟨rfl, hb7⟩
      have hD6 : D2 < w6.heap.size := (Array.getElem?_eq_some_iff.1 hK6).1
      have hDD6 : D < w6.heap.size := (Array.getElem?_eq_some_iff.1 hKD6).1
      have hK7 : w7.heap[D2]? = some (.deferred (some [])) := (hb7.block D2 (by simp; omega)).trans ((Below.heap_alloc _ _ _ hD6).trans hK6)
      have hKD7 : w7.heap[D]? = some (.deferred (some [])) := (hb7.block D (by simp; omega)).trans ((Below.heap_alloc _ _ _ hDD6).trans hKD6)
      have hB7 : Below w1.heap.size w1 w7 := (hB6.alloc hB6.size _).trans (hb7.mono (by have := hB6.size; simp; omega))
      clear hK6 hKD6 hb7 bS6 bR6
      gi_wp2
      have hne : D ≠ D2 := by omega
      have hB8 := hB7.trans (belowK_b (w := w1) (Nat.le_refl _) w7 D2 (.deferred (some [])) (.deferred none) (by omega) hK7 rfl rfl)
      have hKD8 : (w7.putObj D2 (.deferred none)).heap[D]? = some (.deferred (some [])) := (World.putObj_heap_other hne).trans hKD7
      have hB9 := hB8.trans (belowK_b (w := w1) (Nat.le_refl _) (w7.putObj D2 (.deferred none)) D (.deferred (some [])) (.deferred none) (by omega) hKD8 rfl rfl)
      refine ⟨by simp, .inl ⟨_, _, rfl, run_takeDeferred hK7, ?_⟩⟩
      refine ⟨by simp, .inl ⟨_, _, rfl, run_takeDeferred hKD8, ?_⟩⟩
      exact ⟨_, results_tmp rfl _ _ _, rfl, hb1.trans (hB9.mono hb1.size)⟩
    case stop4 =>
      rintro D2 c pre W _ _ h _
      exact h.elim

theorem words_walk2 (A : Option Addr) (cap : Nat) (xs : List Int) (stop : Int) (w : World) (hR : ReadsInt w .u8 A xs.length xs) (h1 : ¬ xs.length ≤ 5000) :
    Calls Try.prog 4 #[.slice A xs.length cap, .int .i64 stop] w fun e w' => e = .returned (.bool true) ∧ Below w.heap.size w w' := by
  have hm := hR.2.1
  go_enter Try.func4, Try.ntmps4
  go_wp2_with fail
  refine (known_ok w).mono ?_
  rintro e w4 ⟨rfl, hb4⟩
  go_wp2
  go_ret
  exact ⟨rfl, hb4⟩
end Go.Proofs.Ytajfaieiabnknaa

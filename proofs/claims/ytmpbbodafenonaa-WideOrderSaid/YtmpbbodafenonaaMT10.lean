/- A function of the given program told as a Lean function, its contract proved; no condition. -/
import Derived.Test.YtmpbbodafenonaaMT0
namespace Go.Proofs.Ytmpbbodafenonaa.MT
open Go.RowKit Go.Proofs.YtmpbbodafenonaaW.PrintWords Go.Proofs.YtmpbbodafenonaaW.PrintLast Go.Proofs.YtmpbbodafenonaaW.PrintMore
attribute [local go_sem] max2_int min2_int max_two min_two max_three min_three max_four min_four   -- for this text's walks alone
set_option linter.unusedVariables false
set_option linter.unusedSimpArgs false
/-! ### parquetref01_trim: function 73 -/
def parquetref01_trim.l0 : Nat → Bool → List Int → Int → Option (Bool × List Int)
 | 0, _, _, _ => none
 | k + 1, x0, x1, x5 => if x5 > 0 then (if 0 ≤ (wrap64 (x5 - 1)) then (if (wrap64 (x5 - 1)) < (x1.length : Int) then (if (rd x1 (wrap64 (x5 - 1))) = 0 then (parquetref01_trim.l0 k x0 x1 (wrap64 (x5 - 1))) else (if x0 = true then (if 0 ≤ x5 then (if x5 ≤ (x1.length : Int) then (some (true, (x1.take (x5 : Int).toNat))) else (none)) else (none)) else (if 0 ≤ x5 then (if x5 ≤ (x1.length : Int) then (some (false, (x1.take (x5 : Int).toNat))) else (none)) else (none)))) else (none)) else (none)) else (if x0 = true then (if 0 ≤ x5 then (if x5 ≤ (x1.length : Int) then (some (false, (x1.take (x5 : Int).toNat))) else (none)) else (none)) else (if 0 ≤ x5 then (if x5 ≤ (x1.length : Int) then (some (false, (x1.take (x5 : Int).toNat))) else (none)) else (none)))
def parquetref01_trim.f (k : Nat) (a0 : Bool) (l1 : List Int) : Option (Bool × List Int) := parquetref01_trim.l0 k a0 l1 (l1.length : Int)
theorem parquetref01_trim.mono_l : ∀ k, (∀ y0 y1 y2, LeO (parquetref01_trim.l0 k y0 y1 y2) (parquetref01_trim.l0 (k + 1) y0 y1 y2))
 | 0 => fun _ _ _ r h => by simp [parquetref01_trim.l0] at h
 | k + 1 => by
  have ih0 := parquetref01_trim.mono_l k
  ·intro y0 y1 y2
   unfold parquetref01_trim.l0
   repeat' first
   | (with_reducible exact ih0 _ _ _)
   | (with_reducible exact LeO.refl _)
   | (with_reducible exact LeO.none _)
   | (with_reducible refine LeO.ite ?_ ?_)
   | (with_reducible refine LeO.bind ?_ (fun _ => ?_))
   | exact ih0 _ _ _
   | exact LeO.none _
   | refine LeO.ite ?_ ?_
   | refine LeO.bind ?_ (fun _ => ?_)
theorem parquetref01_trim.mono : ∀ a0 a1 k, LeO (parquetref01_trim.f k a0 a1) (parquetref01_trim.f (k + 1) a0 a1) := by
 intro a0 a1 k
 have ih0 := parquetref01_trim.mono_l k
 unfold parquetref01_trim.f
 repeat' first
   | (with_reducible exact ih0 _ _ _)
   | (with_reducible exact LeO.refl _)
   | (with_reducible exact LeO.none _)
   | (with_reducible refine LeO.ite ?_ ?_)
   | (with_reducible refine LeO.bind ?_ (fun _ => ?_))
   | exact ih0 _ _ _
   | exact LeO.none _
   | refine LeO.ite ?_ ?_
   | refine LeO.bind ?_ (fun _ => ?_)
set_option maxHeartbeats 8000000 in
set_option maxRecDepth 100000 in
theorem parquetref01_trim.calls (k : Nat) (a0 : Bool) (P1_ : Nat → Prop) (A1 : Option Addr) (c1 : Nat) (l1 : List Int) (r1 : Bool) (r2 : List Int) (w : World) (hs1 : Kd.V (Kd.int .i64) 3 w w.heap.size (fun k_ => P1_ k_) (.slice A1 l1.length c1) l1) (h : parquetref01_trim.f k a0 l1 = some (r1, r2)) :
  Calls Try.prog 73 #[.bool a0, .slice A1 l1.length c1] w fun e w' => ∃ v1_ : Value, e = .returned (.agg #[.bool r1, v1_]) ∧ Kd.V (Kd.int .i64) 3 w' w.heap.size (fun k_ => (P1_ k_ ∨ w.heap.size ≤ k_)) v1_ r2 ∧ Below w.heap.size w w' := by
 have hu38 := Try.underlying38
 have HO1 := Aside0.mk (show Kd.V (Kd.int .i64) 3 w w.heap.size (fun k_ => (P1_ k_ ∨ w.heap.size ≤ k_)) (.slice A1 l1.length c1) l1 from Kd.V_mono hs1 (fun k_ hk => .inl hk))
 have HB := Aside0.mk (Below.refl w.heap.size w)
 have H : (parquetref01_trim.l0 k a0 l1 (l1.length : Int)) = some (r1, r2) := h
 clear h
 have H' := Aside0.mk H
 clear H
 go_enter Try.func73, Try.ntmps73
 go_wp2_with (first | ((with_reducible refine gate_dst (N := 4) rfl ?_); refine box_event ?hg (N := 4) ?hd (cs := #[.bool false, .slice none 0 0]) (t := 38) ?hr ?_; (case hd => rfl); (case hg => rfl); (case hr => first | (go_simp; done) | (go_simp; rfl)); intro gb240 hg w3 hbox hb; have n0_ := Aside0.mk (Kd.V_below (Kd.V_elderB (by (with_reducible repeat (first | apply Kd.V_alloc | apply Kd.V_drewN | apply Kd.V_drew)); exact HO1.out) gb240 (Nat.le_of_eq hg.symm)) hb); have n1_ := Aside0.mk (below_step (by repeat (first | (with_reducible first | exact HB.out | apply qa | apply qn | apply qd) | exact HB.out)) hb); have n2_ := Aside0.mk (hbox); have n3_ := bgw HB hg; have n4_ := bgw HB hg; clear HO1; clear HB; have HO1 := n0_; have HB := n1_; have BK240 := n2_; have GW240 := n3_; have GE240 := n4_; clear n0_ n1_ n2_ n3_ n4_; clear hb hbox hg))
 go_loopg [5] k (fun kq v5 w' => ∃ (x5_1 : Int), v5 = .int .i64 x5_1 ∧ Aside0 (parquetref01_trim.l0 kq a0 l1 x5_1 = some (r1, r2)) ∧ Aside0 (kq ≤ k) ∧ Aside0 (Kd.V (Kd.int .i64) 3 w' w.heap.size (fun k_ => (P1_ k_ ∨ w.heap.size ≤ k_) ∧ k_ ≠ gb240) (.slice A1 l1.length c1) l1) ∧ Aside0 (w'.heap[gb240]? = some (.cells #[.bool false, (.slice none 0 0)] 38 (0, 0))) ∧ Aside0 (Below w.heap.size w w'))
 case atStart => exact ⟨((l1.length : Int)), (by first | rfl | (simp; done) | (simp [*]; done)), H', ⟨Nat.le_refl _⟩, ⟨by (with_reducible repeat (first | apply Kd.V_alloc | apply Kd.V_drewN | apply Kd.V_drew)); exact HO1.out⟩, ⟨by (with_reducible repeat (first | refine cn ?_ _ | refine cd ?_ | refine ca ?_ _)); exact BK240.out⟩, ⟨by repeat (first | (with_reducible first | exact HB.out | apply qa | apply qn | apply qd | refine qs ?_ GE240.out) | exact HB.out)⟩⟩
 case round =>
  clear H'
  try clear c1
  try clear p2
  obtain ⟨x5_1, rfl, HA, HK1, HO_1, BK240, HB⟩ := hrel
  cases gk with
  | zero => exact absurd HA.out (by simp [parquetref01_trim.l0])
  | succ k1 =>
   have H := HA.out
   clear HA
   simp only [parquetref01_trim.l0] at H
   by_cases c4 : x5_1 > 0
   rotate_left
   ·rw [if_neg c4] at H
    have c4b0 : decide (0 < x5_1) = false := decide_eq_false c4
    clear c4
    by_cases c18 : a0 = true
    ·subst c18
     have H1 : (if 0 ≤ x5_1 then (if x5_1 ≤ (l1.length : Int) then (some (false, (l1.take (x5_1 : Int).toNat))) else (none)) else (none)) = some (r1, r2) := by rw [if_pos rfl] at H; exact H
     clear H
     have H := H1
     clear H1
     by_cases c19 : 0 ≤ x5_1
     rotate_left
     ·rw [if_neg c19] at H
      exact absurd H (by simp)
     rw [if_pos c19] at H
     have c19b0 := eq_true c19
     have c19b1 : decide (0 ≤ x5_1) = true := decide_eq_true c19
     clear c19
     by_cases c20 : x5_1 ≤ (l1.length : Int)
     rotate_left
     ·rw [if_neg c20] at H
      exact absurd H (by simp)
     rw [if_pos c20] at H
     have c20b0 := eq_true c20
     have c20b1 : decide (x5_1 ≤ (l1.length : Int)) = true := decide_eq_true c20
     clear c20
     obtain ⟨y252, hy252⟩ : ∃ y_ : List Int, y_ = (l1.take (x5_1 : Int).toNat) := ⟨_, rfl⟩
     replace H : (some (false, y252)) = some (r1, r2) := by first | (rw [hy252]; with_reducible exact H) | (have H2_ := (Option.bind_some _ _).symm.trans H; rw [hy252]; with_reducible exact H2_) | (have H2_ := (Option.bind_some _ _).symm.trans H; with_reducible exact H2_) | with_reducible exact H | (rw [hy252]; exact H) | exact H
     have Ny252 := Aside0.mk hy252
     clear hy252
     simp only [Option.some.injEq, Prod.mk.injEq] at H
     obtain ⟨rfl, rfl⟩ := H
     have q21 : (x5_1 : Int) ≤ ((l1.length : Int) : Int) := of_decide_eq_true (by first | (with_reducible assumption) | assumption)
     obtain ⟨i021, hi021, _, hsz21, _⟩ := info_parts info3
     have hroom21 : l1.length ≤ c1 := (Kd.V_reads' HO_1.out).2.1
     have hC21 : Kd.F (Kd.int .i64) _ _ A1 l1.length l1 := (Kd.V_at (base := w.heap.size) HO_1.out).2.2
     have hcut21 := cut_to (P := Try.prog) 36 3 .i64 Try.underlying36 hi021 A1 l1.length c1 x5_1 (of_decide_eq_true (by first | (with_reducible assumption) | assumption)) q21 hroom21
     have hr21 := Kd.F_take (m := (x5_1 : Int).toNat) hC21 (by omega)
     have hy21 : y252.length = (x5_1 : Int).toNat := (by rw [Ny252.out, List.length_take]; omega)
     rw [← Ny252.out] at hr21
     rw [← hy21] at hcut21
     have HO256 := Aside0.mk (show Kd.V (Kd.int .i64) 3 _ w.heap.size _ (.slice A1 y252.length c1) y252 from Kd.V_mk (by omega) hr21)
     have HC256 := Aside0.mk (show y252.length ≤ c1 from by omega)
     clear hr21 hC21 hroom21 hi021 hsz21
     have KY21 := Aside0.mk hy21
     clear hy21
     replace q21 := eq_true q21
     obtain ⟨hcz22_0, hcz22_1⟩ := cl2 BK240.out
     obtain ⟨hfz22_0, hfz22_1⟩ := fr2 BK240.out
     go_wp2
     refine bodyPost_ret (results_cell_row rfl _ _ gb240 38 #[.bool false, .slice A1 y252.length c1] (0, 0) _ rfl (by (with_reducible repeat (first | refine cn ?_ _ | refine cd ?_ | refine ca ?_ _)); refine blk_put (cs := #[.bool false, .slice none 0 0]) ?_ 1 _ rfl; (with_reducible repeat (first | refine cn ?_ _ | refine cd ?_ | refine ca ?_ _)); refine blk_put (cs := #[.bool false, .slice none 0 0]) ?_ 0 _ rfl; (with_reducible repeat (first | refine cn ?_ _ | refine cd ?_ | refine ca ?_ _)); exact BK240.out) Try.underlying38 rfl (by kernel_rfl)) rfl ?_
     exact ⟨_, by first | rfl | (simp [errW_none, errW_some] <;> rfl) | (simp [*, errW_none, errW_some] <;> rfl), by (with_reducible repeat (first | apply Kd.V_alloc | apply Kd.V_drewN | apply Kd.V_drew)); exact Kd.V_mono (Kd.V_far (p := ⟨gb240, 1, none⟩) (Kd.V_far (p := ⟨gb240, 0, none⟩) (Kd.V_mono HO256.out (fun k_ hk => (⟨hk, hk.2⟩ : _ ∧ k_ ≠ gb240))) (fun _ hk => hk.2) (.bool false)) (fun _ hk => hk.2) (.slice A1 y252.length c1)) (fun _ hk => hk.1.1), by repeat (first | (with_reducible first | exact HB.out | apply qa | apply qn | apply qd | refine qs ?_ GE240.out) | exact HB.out)⟩
    replace c18 := Bool.eq_false_iff.mpr c18
    subst c18
    have H1 : (if 0 ≤ x5_1 then (if x5_1 ≤ (l1.length : Int) then (some (false, (l1.take (x5_1 : Int).toNat))) else (none)) else (none)) = some (r1, r2) := by rw [if_neg (show ¬ (false = true) by decide)] at H; exact H
    clear H
    have H := H1
    clear H1
    by_cases c23 : 0 ≤ x5_1
    rotate_left
    ·rw [if_neg c23] at H
     exact absurd H (by simp)
    rw [if_pos c23] at H
    have c23b0 := eq_true c23
    have c23b1 : decide (0 ≤ x5_1) = true := decide_eq_true c23
    clear c23
    by_cases c24 : x5_1 ≤ (l1.length : Int)
    rotate_left
    ·rw [if_neg c24] at H
     exact absurd H (by simp)
    rw [if_pos c24] at H
    have c24b0 := eq_true c24
    have c24b1 : decide (x5_1 ≤ (l1.length : Int)) = true := decide_eq_true c24
    clear c24
    obtain ⟨y257, hy257⟩ : ∃ y_ : List Int, y_ = (l1.take (x5_1 : Int).toNat) := ⟨_, rfl⟩
    replace H : (some (false, y257)) = some (r1, r2) := by first | (rw [hy257]; with_reducible exact H) | (have H2_ := (Option.bind_some _ _).symm.trans H; rw [hy257]; with_reducible exact H2_) | (have H2_ := (Option.bind_some _ _).symm.trans H; with_reducible exact H2_) | with_reducible exact H | (rw [hy257]; exact H) | exact H
    have Ny257 := Aside0.mk hy257
    clear hy257
    simp only [Option.some.injEq, Prod.mk.injEq] at H
    obtain ⟨rfl, rfl⟩ := H
    have q25 : (x5_1 : Int) ≤ ((l1.length : Int) : Int) := of_decide_eq_true (by first | (with_reducible assumption) | assumption)
    obtain ⟨i025, hi025, _, hsz25, _⟩ := info_parts info3
    have hroom25 : l1.length ≤ c1 := (Kd.V_reads' HO_1.out).2.1
    have hC25 : Kd.F (Kd.int .i64) _ _ A1 l1.length l1 := (Kd.V_at (base := w.heap.size) HO_1.out).2.2
    have hcut25 := cut_to (P := Try.prog) 36 3 .i64 Try.underlying36 hi025 A1 l1.length c1 x5_1 (of_decide_eq_true (by first | (with_reducible assumption) | assumption)) q25 hroom25
    have hr25 := Kd.F_take (m := (x5_1 : Int).toNat) hC25 (by omega)
    have hy25 : y257.length = (x5_1 : Int).toNat := (by rw [Ny257.out, List.length_take]; omega)
    rw [← Ny257.out] at hr25
    rw [← hy25] at hcut25
    have HO261 := Aside0.mk (show Kd.V (Kd.int .i64) 3 _ w.heap.size _ (.slice A1 y257.length c1) y257 from Kd.V_mk (by omega) hr25)
    have HC261 := Aside0.mk (show y257.length ≤ c1 from by omega)
    clear hr25 hC25 hroom25 hi025 hsz25
    have KY25 := Aside0.mk hy25
    clear hy25
    replace q25 := eq_true q25
    obtain ⟨hcz26_0, hcz26_1⟩ := cl2 BK240.out
    obtain ⟨hfz26_0, hfz26_1⟩ := fr2 BK240.out
    go_wp2
    refine bodyPost_ret (results_cell_row rfl _ _ gb240 38 #[.bool false, .slice A1 y257.length c1] (0, 0) _ rfl (by (with_reducible repeat (first | refine cn ?_ _ | refine cd ?_ | refine ca ?_ _)); refine blk_put (cs := #[.bool false, .slice none 0 0]) ?_ 1 _ rfl; (with_reducible repeat (first | refine cn ?_ _ | refine cd ?_ | refine ca ?_ _)); refine blk_put (cs := #[.bool false, .slice none 0 0]) ?_ 0 _ rfl; (with_reducible repeat (first | refine cn ?_ _ | refine cd ?_ | refine ca ?_ _)); exact BK240.out) Try.underlying38 rfl (by kernel_rfl)) rfl ?_
    exact ⟨_, by first | rfl | (simp [errW_none, errW_some] <;> rfl) | (simp [*, errW_none, errW_some] <;> rfl), by (with_reducible repeat (first | apply Kd.V_alloc | apply Kd.V_drewN | apply Kd.V_drew)); exact Kd.V_mono (Kd.V_far (p := ⟨gb240, 1, none⟩) (Kd.V_far (p := ⟨gb240, 0, none⟩) (Kd.V_mono HO261.out (fun k_ hk => (⟨hk, hk.2⟩ : _ ∧ k_ ≠ gb240))) (fun _ hk => hk.2) (.bool false)) (fun _ hk => hk.2) (.slice A1 y257.length c1)) (fun _ hk => hk.1.1), by repeat (first | (with_reducible first | exact HB.out | apply qa | apply qn | apply qd | refine qs ?_ GE240.out) | exact HB.out)⟩
   rw [if_pos c4] at H
   have c4b0 : decide (0 < x5_1) = true := decide_eq_true c4
   clear c4
   obtain ⟨ji5, hji5⟩ : ∃ j_ : Int, (wrap64 (x5_1 - 1)) = j_ := ⟨_, rfl⟩
   replace H : (if 0 ≤ (ji5) then (if (ji5) < (l1.length : Int) then (if (rd l1 (ji5)) = 0 then (parquetref01_trim.l0 k1 a0 l1 ji5) else (if a0 = true then (if 0 ≤ x5_1 then (if x5_1 ≤ (l1.length : Int) then (some (true, (l1.take (x5_1 : Int).toNat))) else (none)) else (none)) else (if 0 ≤ x5_1 then (if x5_1 ≤ (l1.length : Int) then (some (false, (l1.take (x5_1 : Int).toNat))) else (none)) else (none)))) else (none)) else (none)) = some (r1, r2) := by first | (rw [hji5] at H; exact H) | (simp only [hji5] at H ⊢; exact H)
   have hji5w : (IntKind.i64.wrap (x5_1 - 1)) = ji5 := (i64_w _).trans hji5
   by_cases c6 : 0 ≤ (ji5)
   rotate_left
   ·rw [if_neg c6] at H
    exact absurd H (by simp)
   rw [if_pos c6] at H
   have c6b0 : decide (0 ≤ (ji5)) = true := decide_eq_true c6
   clear c6
   by_cases c7 : (ji5) < (l1.length : Int)
   rotate_left
   ·rw [if_neg c7] at H
    exact absurd H (by simp)
   rw [if_pos c7] at H
   have c7b0 : decide ((ji5) < (l1.length : Int)) = true := decide_eq_true c7
   clear c7
   by_cases c8 : (rd l1 (ji5)) = 0
   ·rw [if_pos c8] at H
    have c8b0 : ((rd l1 (ji5)) == 0) = true := beq_iff_eq.mpr c8
    have c8b1 : ((rd l1 (ji5)) != 0) = false := bne_eq_false_iff_eq.mpr c8
    clear c8
    have H' := Aside0.mk H
    clear H
    have p241 : 0 ≤ ((ji5) : Int) := of_decide_eq_true (by first | (with_reducible assumption) | assumption)
    have q241 : (ji5) < (l1.length : Int) := of_decide_eq_true (by first | (with_reducible assumption) | assumption)
    obtain ⟨ad241, e241, hx241_0⟩ := Kd.at_int (Kd.V_reads' HO_1.out).2.2 (ji5) p241 q241
    cases e241
    replace p241 := eq_true p241
    replace q241 := eq_true q241
    go_wp2
    go_roundg k1
    case measure => have := HK1.out; omega
    case rel => exact ⟨(ji5), (by first | rfl | (simp; done) | (simp only [← hji5] <;> (first | rfl | simp)) | (simp [*]; done)), H', ⟨by have := HK1.out; omega⟩, ⟨by (with_reducible repeat (first | apply Kd.V_alloc | apply Kd.V_drewN | apply Kd.V_drew)); exact HO_1.out⟩, ⟨by (with_reducible repeat (first | refine cn ?_ _ | refine cd ?_ | refine ca ?_ _)); exact BK240.out⟩, ⟨by repeat (first | (with_reducible first | exact HB.out | apply qa | apply qn | apply qd | refine qs ?_ GE240.out) | exact HB.out)⟩⟩
   rw [if_neg c8] at H
   have c8b0 : ((rd l1 (ji5)) == 0) = false := beq_eq_false_iff_ne.mpr c8
   have c8b1 : ((rd l1 (ji5)) != 0) = true := bne_iff_ne.mpr c8
   by_cases c9 : a0 = true
   ·subst c9
    have H1 : (if 0 ≤ x5_1 then (if x5_1 ≤ (l1.length : Int) then (some (true, (l1.take (x5_1 : Int).toNat))) else (none)) else (none)) = some (r1, r2) := by rw [if_pos rfl] at H; exact H
    clear H
    have H := H1
    clear H1
    by_cases c10 : 0 ≤ x5_1
    rotate_left
    ·rw [if_neg c10] at H
     exact absurd H (by simp)
    rw [if_pos c10] at H
    have c10b0 := eq_true c10
    have c10b1 : decide (0 ≤ x5_1) = true := decide_eq_true c10
    clear c10
    by_cases c11 : x5_1 ≤ (l1.length : Int)
    rotate_left
    ·rw [if_neg c11] at H
     exact absurd H (by simp)
    rw [if_pos c11] at H
    have c11b0 := eq_true c11
    have c11b1 : decide (x5_1 ≤ (l1.length : Int)) = true := decide_eq_true c11
    clear c11
    obtain ⟨y242, hy242⟩ : ∃ y_ : List Int, y_ = (l1.take (x5_1 : Int).toNat) := ⟨_, rfl⟩
    replace H : (some (true, y242)) = some (r1, r2) := by first | (rw [hy242]; with_reducible exact H) | (have H2_ := (Option.bind_some _ _).symm.trans H; rw [hy242]; with_reducible exact H2_) | (have H2_ := (Option.bind_some _ _).symm.trans H; with_reducible exact H2_) | with_reducible exact H | (rw [hy242]; exact H) | exact H
    have Ny242 := Aside0.mk hy242
    clear hy242
    simp only [Option.some.injEq, Prod.mk.injEq] at H
    obtain ⟨rfl, rfl⟩ := H
    have p241 : 0 ≤ ((ji5) : Int) := of_decide_eq_true (by first | (with_reducible assumption) | assumption)
    have q241 : (ji5) < (l1.length : Int) := of_decide_eq_true (by first | (with_reducible assumption) | assumption)
    obtain ⟨ad241, e241, hx241_0⟩ := Kd.at_int (Kd.V_reads' HO_1.out).2.2 (ji5) p241 q241
    cases e241
    replace p241 := eq_true p241
    replace q241 := eq_true q241
    have q12 : (x5_1 : Int) ≤ ((l1.length : Int) : Int) := of_decide_eq_true (by first | (with_reducible assumption) | assumption)
    obtain ⟨i012, hi012, _, hsz12, _⟩ := info_parts info3
    have hroom12 : l1.length ≤ c1 := (Kd.V_reads' HO_1.out).2.1
    have hC12 : Kd.F (Kd.int .i64) _ _ (some ad241) l1.length l1 := (Kd.V_at (base := w.heap.size) HO_1.out).2.2
    have hcut12 := cut_to (P := Try.prog) 36 3 .i64 Try.underlying36 hi012 (some ad241) l1.length c1 x5_1 (of_decide_eq_true (by first | (with_reducible assumption) | assumption)) q12 hroom12
    have hr12 := Kd.F_take (m := (x5_1 : Int).toNat) hC12 (by omega)
    have hy12 : y242.length = (x5_1 : Int).toNat := (by rw [Ny242.out, List.length_take]; omega)
    rw [← Ny242.out] at hr12
    rw [← hy12] at hcut12
    have HO246 := Aside0.mk (show Kd.V (Kd.int .i64) 3 _ w.heap.size _ (.slice (some ad241) y242.length c1) y242 from Kd.V_mk (by omega) hr12)
    have HC246 := Aside0.mk (show y242.length ≤ c1 from by omega)
    clear hr12 hC12 hroom12 hi012 hsz12
    have KY12 := Aside0.mk hy12
    clear hy12
    replace q12 := eq_true q12
    obtain ⟨hcz13_0, hcz13_1⟩ := cl2 BK240.out
    obtain ⟨hfz13_0, hfz13_1⟩ := fr2 BK240.out
    go_wp2
    refine bodyPost_ret (results_cell_row rfl _ _ gb240 38 #[.bool true, .slice (some ad241) y242.length c1] (0, 0) _ rfl (by (with_reducible repeat (first | refine cn ?_ _ | refine cd ?_ | refine ca ?_ _)); refine blk_put (cs := #[.bool true, .slice none 0 0]) ?_ 1 _ rfl; (with_reducible repeat (first | refine cn ?_ _ | refine cd ?_ | refine ca ?_ _)); refine blk_put (cs := #[.bool false, .slice none 0 0]) ?_ 0 _ rfl; (with_reducible repeat (first | refine cn ?_ _ | refine cd ?_ | refine ca ?_ _)); exact BK240.out) Try.underlying38 rfl (by kernel_rfl)) rfl ?_
    exact ⟨_, by first | rfl | (simp [errW_none, errW_some] <;> rfl) | (simp only [← hji5]; first | rfl | (simp [errW_none, errW_some] <;> rfl)) | (simp [*, errW_none, errW_some] <;> rfl), by (with_reducible repeat (first | apply Kd.V_alloc | apply Kd.V_drewN | apply Kd.V_drew)); exact Kd.V_mono (Kd.V_far (p := ⟨gb240, 1, none⟩) (Kd.V_far (p := ⟨gb240, 0, none⟩) (Kd.V_mono HO246.out (fun k_ hk => (⟨hk, hk.2⟩ : _ ∧ k_ ≠ gb240))) (fun _ hk => hk.2) (.bool true)) (fun _ hk => hk.2) (.slice (some ad241) y242.length c1)) (fun _ hk => hk.1.1), by repeat (first | (with_reducible first | exact HB.out | apply qa | apply qn | apply qd | refine qs ?_ GE240.out) | exact HB.out)⟩
   replace c9 := Bool.eq_false_iff.mpr c9
   subst c9
   have H1 : (if 0 ≤ x5_1 then (if x5_1 ≤ (l1.length : Int) then (some (false, (l1.take (x5_1 : Int).toNat))) else (none)) else (none)) = some (r1, r2) := by rw [if_neg (show ¬ (false = true) by decide)] at H; exact H
   clear H
   have H := H1
   clear H1
   by_cases c14 : 0 ≤ x5_1
   rotate_left
   ·rw [if_neg c14] at H
    exact absurd H (by simp)
   rw [if_pos c14] at H
   have c14b0 := eq_true c14
   have c14b1 : decide (0 ≤ x5_1) = true := decide_eq_true c14
   clear c14
   by_cases c15 : x5_1 ≤ (l1.length : Int)
   rotate_left
   ·rw [if_neg c15] at H
    exact absurd H (by simp)
   rw [if_pos c15] at H
   have c15b0 := eq_true c15
   have c15b1 : decide (x5_1 ≤ (l1.length : Int)) = true := decide_eq_true c15
   clear c15
   obtain ⟨y247, hy247⟩ : ∃ y_ : List Int, y_ = (l1.take (x5_1 : Int).toNat) := ⟨_, rfl⟩
   replace H : (some (false, y247)) = some (r1, r2) := by first | (rw [hy247]; with_reducible exact H) | (have H2_ := (Option.bind_some _ _).symm.trans H; rw [hy247]; with_reducible exact H2_) | (have H2_ := (Option.bind_some _ _).symm.trans H; with_reducible exact H2_) | with_reducible exact H | (rw [hy247]; exact H) | exact H
   have Ny247 := Aside0.mk hy247
   clear hy247
   simp only [Option.some.injEq, Prod.mk.injEq] at H
   obtain ⟨rfl, rfl⟩ := H
   have p241 : 0 ≤ ((ji5) : Int) := of_decide_eq_true (by first | (with_reducible assumption) | assumption)
   have q241 : (ji5) < (l1.length : Int) := of_decide_eq_true (by first | (with_reducible assumption) | assumption)
   obtain ⟨ad241, e241, hx241_0⟩ := Kd.at_int (Kd.V_reads' HO_1.out).2.2 (ji5) p241 q241
   cases e241
   replace p241 := eq_true p241
   replace q241 := eq_true q241
   have q16 : (x5_1 : Int) ≤ ((l1.length : Int) : Int) := of_decide_eq_true (by first | (with_reducible assumption) | assumption)
   obtain ⟨i016, hi016, _, hsz16, _⟩ := info_parts info3
   have hroom16 : l1.length ≤ c1 := (Kd.V_reads' HO_1.out).2.1
   have hC16 : Kd.F (Kd.int .i64) _ _ (some ad241) l1.length l1 := (Kd.V_at (base := w.heap.size) HO_1.out).2.2
   have hcut16 := cut_to (P := Try.prog) 36 3 .i64 Try.underlying36 hi016 (some ad241) l1.length c1 x5_1 (of_decide_eq_true (by first | (with_reducible assumption) | assumption)) q16 hroom16
   have hr16 := Kd.F_take (m := (x5_1 : Int).toNat) hC16 (by omega)
   have hy16 : y247.length = (x5_1 : Int).toNat := (by rw [Ny247.out, List.length_take]; omega)
   rw [← Ny247.out] at hr16
   rw [← hy16] at hcut16
   have HO251 := Aside0.mk (show Kd.V (Kd.int .i64) 3 _ w.heap.size _ (.slice (some ad241) y247.length c1) y247 from Kd.V_mk (by omega) hr16)
   have HC251 := Aside0.mk (show y247.length ≤ c1 from by omega)
   clear hr16 hC16 hroom16 hi016 hsz16
   have KY16 := Aside0.mk hy16
   clear hy16
   replace q16 := eq_true q16
   obtain ⟨hcz17_0, hcz17_1⟩ := cl2 BK240.out
   obtain ⟨hfz17_0, hfz17_1⟩ := fr2 BK240.out
   go_wp2
   refine bodyPost_ret (results_cell_row rfl _ _ gb240 38 #[.bool false, .slice (some ad241) y247.length c1] (0, 0) _ rfl (by (with_reducible repeat (first | refine cn ?_ _ | refine cd ?_ | refine ca ?_ _)); refine blk_put (cs := #[.bool false, .slice none 0 0]) ?_ 1 _ rfl; (with_reducible repeat (first | refine cn ?_ _ | refine cd ?_ | refine ca ?_ _)); refine blk_put (cs := #[.bool false, .slice none 0 0]) ?_ 0 _ rfl; (with_reducible repeat (first | refine cn ?_ _ | refine cd ?_ | refine ca ?_ _)); exact BK240.out) Try.underlying38 rfl (by kernel_rfl)) rfl ?_
   exact ⟨_, by first | rfl | (simp [errW_none, errW_some] <;> rfl) | (simp only [← hji5]; first | rfl | (simp [errW_none, errW_some] <;> rfl)) | (simp [*, errW_none, errW_some] <;> rfl), by (with_reducible repeat (first | apply Kd.V_alloc | apply Kd.V_drewN | apply Kd.V_drew)); exact Kd.V_mono (Kd.V_far (p := ⟨gb240, 1, none⟩) (Kd.V_far (p := ⟨gb240, 0, none⟩) (Kd.V_mono HO251.out (fun k_ hk => (⟨hk, hk.2⟩ : _ ∧ k_ ≠ gb240))) (fun _ hk => hk.2) (.bool false)) (fun _ hk => hk.2) (.slice (some ad241) y247.length c1)) (fun _ hk => hk.1.1), by repeat (first | (with_reducible first | exact HB.out | apply qa | apply qn | apply qd | refine qs ?_ GE240.out) | exact HB.out)⟩
end Go.Proofs.Ytmpbbodafenonaa.MT

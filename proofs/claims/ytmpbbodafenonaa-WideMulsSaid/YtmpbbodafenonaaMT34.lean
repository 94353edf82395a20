/- A function of the given program told as a Lean function, its contract proved; no condition. -/
import Derived.Test.YtmpbbodafenonaaMT0
import Derived.Test.YtmpbbodafenonaaMT11
import Derived.Test.YtmpbbodafenonaaMT13
import Derived.Test.YtmpbbodafenonaaMT26
import Derived.Test.YtmpbbodafenonaaMT27
namespace Go.Proofs.Ytmpbbodafenonaa.MT
open Go.RowKit Go.Proofs.YtmpbbodafenonaaW.PrintWords Go.Proofs.YtmpbbodafenonaaW.PrintLast Go.Proofs.YtmpbbodafenonaaW.PrintMore
attribute [local go_sem] max2_int min2_int max_two min_two max_three min_three max_four min_four   -- for this text's walks alone
set_option linter.unusedVariables false
set_option linter.unusedSimpArgs false
/-! ### parquetref01_Mul: function 22 -/
def parquetref01_Mul.l0 : Nat → List (S27) → Int → Bool → List Int → Option (Bool × Int × Int × Int × Int × Int)
 | 0, _, _, _, _ => none
 | k + 1, x0, x5, x672000, x672001 => if x5 < (x0.length : Int) then (if 0 ≤ x5 then ((parquetref01_Of.f k ((rd_T27 x0 x5).f0) ((rd_T27 x0 x5).f1.f0) ((rd_T27 x0 x5).f1.f1) ((rd_T27 x0 x5).f1.f2) ((rd_T27 x0 x5).f1.f3)).bind fun bt679 => ((parquetref01_Num_Times.f k x672000 x672001 bt679.1 bt679.2).bind fun bt683 => ((parquetref01_Num_Wide.f bt683.1 bt683.2).bind fun bt687 => (if bt687.2.2.2.2.2 = true then (parquetref01_Mul.l0 k x0 (wrap64 (x5 + 1)) bt683.1 bt683.2) else (some (false, 0, 0, 0, 0, 10)))))) else (none)) else ((parquetref01_told.f x672000 x672001).bind fun bt672 => (some (bt672.1, bt672.2.1, bt672.2.2.1, bt672.2.2.2.1, bt672.2.2.2.2.1, bt672.2.2.2.2.2)))
def parquetref01_Mul.f (k : Nat) (l0 : List (S27)) : Option (Bool × Int × Int × Int × Int × Int) := (parquetref01_Small.f k 1).bind fun bt667 => (parquetref01_Mul.l0 k l0 0 bt667.1 bt667.2)
theorem parquetref01_Mul.mono_l : ∀ k, (∀ y0 y1 y2 y3, LeO (parquetref01_Mul.l0 k y0 y1 y2 y3) (parquetref01_Mul.l0 (k + 1) y0 y1 y2 y3))
 | 0 => fun _ _ _ _ r h => by simp [parquetref01_Mul.l0] at h
 | k + 1 => by
  have ih0 := parquetref01_Mul.mono_l k
  ·intro y0 y1 y2 y3
   unfold parquetref01_Mul.l0
   repeat' first
   | (with_reducible exact ih0 _ _ _ _)
   | (with_reducible exact parquetref01_Num_Times.mono _ _ _ _ _)
   | (with_reducible exact parquetref01_Of.mono _ _ _ _ _ _)
   | (with_reducible exact parquetref01_Small.mono _ _)
   | (with_reducible exact LeO.refl _)
   | (with_reducible exact LeO.none _)
   | (with_reducible refine LeO.ite ?_ ?_)
   | (with_reducible refine LeO.bind ?_ (fun _ => ?_))
   | exact ih0 _ _ _ _
   | exact parquetref01_Num_Times.mono _ _ _ _ _
   | exact parquetref01_Of.mono _ _ _ _ _ _
   | exact parquetref01_Small.mono _ _
   | exact LeO.none _
   | refine LeO.ite ?_ ?_
   | refine LeO.bind ?_ (fun _ => ?_)
theorem parquetref01_Mul.mono : ∀ a0 k, LeO (parquetref01_Mul.f k a0) (parquetref01_Mul.f (k + 1) a0) := by
 intro a0 k
 have ih0 := parquetref01_Mul.mono_l k
 unfold parquetref01_Mul.f
 repeat' first
   | (with_reducible exact ih0 _ _ _ _)
   | (with_reducible exact parquetref01_Num_Times.mono _ _ _ _ _)
   | (with_reducible exact parquetref01_Of.mono _ _ _ _ _ _)
   | (with_reducible exact parquetref01_Small.mono _ _)
   | (with_reducible exact LeO.refl _)
   | (with_reducible exact LeO.none _)
   | (with_reducible refine LeO.ite ?_ ?_)
   | (with_reducible refine LeO.bind ?_ (fun _ => ?_))
   | exact ih0 _ _ _ _
   | exact parquetref01_Num_Times.mono _ _ _ _ _
   | exact parquetref01_Of.mono _ _ _ _ _ _
   | exact parquetref01_Small.mono _ _
   | exact LeO.none _
   | refine LeO.ite ?_ ?_
   | refine LeO.bind ?_ (fun _ => ?_)
def parquetref01_Mul.T5 : Bool × List (List Nat × List Nat) := (true, [([], []), ([], []), ([], []), ([1, 2], [1, 2]), ([3], [3]), ([4], [4]), ([0, 5, 5], [0, 5]), ([6, 6, 0, 1, 2, 3, 4, 5, 6], [6])])
def parquetref01_Mul.B5 : List Nat := [0, 0, 0, 6, 14, 30, 63, 127]
theorem parquetref01_Mul.tab5 : rtab .any (opsOf Try.f22 5) = parquetref01_Mul.T5 := by kernel_rfl
theorem parquetref01_Mul.bits5 : waitsOk parquetref01_Mul.T5.2 parquetref01_Mul.B5 = true := by kernel_rfl
set_option maxHeartbeats 8000000 in
set_option maxRecDepth 100000 in
theorem parquetref01_Mul.calls (k : Nat) (A0 : Option Addr) (c0 : Nat) (l0 : List (S27)) (r1 : Bool) (r2 : Int) (r3 : Int) (r4 : Int) (r5 : Int) (r6 : Int) (w : World) (hr0 : Kd.C k27 w A0 l0.length l0) (hc0 : l0.length ≤ c0) (h : parquetref01_Mul.f k l0 = some (r1, r2, r3, r4, r5, r6)) :
  Calls Try.prog 22 #[.slice A0 l0.length c0] w fun e w' => e = .returned (.tuple #[.agg #[.bool r1, .int .u64 r2, .int .u64 r3, .int .u64 r4, .int .u64 r5], .int .i64 r6]) ∧ Below w.heap.size w w' := by
 have hu27 := Try.underlying27
 have hu38 := Try.underlying38
 have HR0 := Aside0.mk hr0
 have HC0 := Aside0.mk hc0
 clear hr0 hc0
 have HB := Aside0.mk (Below.refl w.heap.size w)
 have H : ((parquetref01_Small.f k 1).bind fun bt667 => (parquetref01_Mul.l0 k l0 0 bt667.1 bt667.2)) = some (r1, r2, r3, r4, r5, r6) := h
 clear h
 replace H := Option.bind_eq_some_iff.mp H
 obtain ⟨⟨t667, t668⟩, A20, H⟩ := H
 replace H : (parquetref01_Mul.l0 k l0 0 t667 t668) = some (r1, r2, r3, r4, r5, r6) := H
 have A2 := Aside0.mk A20
 clear A20
 have H' := Aside0.mk H
 clear H
 go_enter Try.func22, Try.ntmps22
 go_wp2_with (first | ((with_reducible refine gate_dst (N := 2) rfl ?_); refine box_event ?hg (N := 2) ?hd (cs := #[.bool false, .int .u64 0, .int .u64 0, .int .u64 0, .int .u64 0]) (t := 27) ?hr ?_; (case hd => rfl); (case hg => rfl); (case hr => first | (go_simp; done) | (go_simp; rfl)); intro gb666 hg w3 hbox hb; have n0_ := Aside0.mk (below_step (by repeat (first | (with_reducible first | exact HB.out | apply qa | apply qn | apply qd) | exact HB.out)) hb); have n1_ := Aside0.mk (hbox); have n2_ := bgw HB hg; have n3_ := bgw HB hg; clear HB; have HB := n0_; have BK666 := n1_; have GW666 := n2_; have GE666 := n3_; clear n0_ n1_ n2_ n3_; clear hb hbox hg) | ((with_reducible refine gate_callee (f := 26) rfl ?_); refine goesL_ (some 8) rfl rfl Try.func26 (by kernel_rfl) rfl #[.int .i64 1] rfl (by (try simp only [List.map_toArray, List.map_cons, List.map_nil]); first | done | rfl | (simp only [List.length_drop, List.length_take]; rfl)) ?_; (with_reducible refine (parquetref01_Small.calls k 1 t667 t668 _ A2.out).mono ?_); rintro e w4 ⟨v669, rfl, ho0, hb⟩; refine ⟨_, rfl, ?_⟩; have n0_ := Aside0.mk (Kd.V_lower (Kd.V_mono (ok' := fun k_ => k_ ≠ gb666) ho0 (fun k_ hk_ => (Kd.freshB (g := gb666) (o := .cells #[.bool false, .int .u64 0, .int .u64 0, .int .u64 0, .int .u64 0] 27 (0, 0)) (by exact lb BK666.out) k_ hk_))) (below_size (by repeat (first | (with_reducible first | exact HB.out | apply qa | apply qn | apply qd | refine qs ?_ GE666.out) | exact HB.out)))); have n1_ := bb BK666 hb; have n2_ := Aside0.mk (below_step (by repeat (first | (with_reducible first | exact HB.out | apply qa | apply qn | apply qd | refine qs ?_ GE666.out) | exact HB.out)) hb); clear BK666; clear HB; have HO670 := n0_; have BK666 := n1_; have HB := n2_; clear n0_ n1_ n2_; (try clear hb); (try clear hb2); (try clear hk); (try clear hi); (try clear ho0)) | ((with_reducible refine gate_dst (N := 4) rfl ?_); refine box_event ?hg (N := 4) ?hd (cs := #[.bool false, .slice none 0 0]) (t := 38) ?hr ?_; (case hd => rfl); (case hg => rfl); (case hr => first | (go_simp; done) | (go_simp; rfl)); intro gb671 hg w5 hbox hb; have n0_ := Aside0.mk (Kd.V_below (Kd.V_elderB (by (with_reducible repeat (first | apply Kd.V_alloc | apply Kd.V_drewN | apply Kd.V_drew)); exact HO670.out) gb671 (Nat.le_of_eq hg.symm)) hb); have n1_ := bb BK666 hb; have n2_ := Aside0.mk (below_step (by repeat (first | (with_reducible first | exact HB.out | apply qa | apply qn | apply qd | refine qs ?_ GE666.out) | exact HB.out)) hb); have n3_ := Aside0.mk (hbox); have n4_ := bgw HB hg; have n5_ := bgw HB hg; have n6_ := bnl BK666 hg; have n7_ := bng BK666 hg; clear HO670; clear BK666; clear HB; have HO670 := n0_; have BK666 := n1_; have HB := n2_; have BK671 := n3_; have GW671 := n4_; have GE671 := n5_; have NB666_671 := n6_; have NB671_666 := n7_; clear n0_ n1_ n2_ n3_ n4_ n5_ n6_ n7_; clear hb hbox hg; have hnb6 := NB671_666.out; have hnc6 := NB666_671.out; obtain ⟨hcz7_0, hcz7_1⟩ := cl2 BK671.out; obtain ⟨hfz7_0, hfz7_1⟩ := fr2 BK671.out; obtain ⟨Ao8, co8, eo8⟩ := Kd.V_slice HO670.out; subst eo8))
 go_loopg [5] k (fun kq v5 w' => ∃ (x5_1 : Int) (x667000_1 : Bool) (x667001_1 : Int) (x667002_1 : Int) (x667003_1 : Int) (x667004_1 : Int) (x672000_1 : Bool) (x672001_1 : List Int) (u672001 : Value), v5 = .int .i64 x5_1 ∧ Aside0 (parquetref01_Mul.l0 kq l0 x5_1 x672000_1 x672001_1 = some (r1, r2, r3, r4, r5, r6)) ∧ Aside0 (kq ≤ k) ∧ Aside0 (Kd.V (Kd.int .i64) 3 w' w.heap.size (fun k_ => k_ ≠ gb666 ∧ k_ ≠ gb671) u672001 x672001_1) ∧ Aside0 (w'.heap[gb666]? = some (.cells #[.bool x667000_1, .int .u64 x667001_1, .int .u64 x667002_1, .int .u64 x667003_1, .int .u64 x667004_1] 27 (0, 0))) ∧ Aside0 (w'.heap[gb671]? = some (.cells #[.bool x672000_1, u672001] 38 (0, 0))) ∧ Aside0 (Below w.heap.size w w'))
 case atStart => exact ⟨(0), (false), (0), (0), (0), (0), (t667), (t668), (.slice Ao8 t668.length co8), (by first | rfl | (simp; done) | (simp [*]; done)), H', ⟨Nat.le_refl _⟩, ⟨by (with_reducible repeat (first | apply Kd.V_alloc | apply Kd.V_drewN | apply Kd.V_drew)); exact Kd.V_mono (Kd.V_far (p := ⟨gb671, 1, none⟩) (Kd.V_far (p := ⟨gb671, 0, none⟩) (Kd.V_mono HO670.out (fun k_ hk => (⟨hk, hk.2⟩ : _ ∧ k_ ≠ gb671))) (fun _ hk => hk.2) (.bool t667)) (fun _ hk => hk.2) (.slice Ao8 t668.length co8)) (fun _ hk => ⟨hk.1.1, hk.1.2⟩)⟩, ⟨by (with_reducible repeat (first | refine cn ?_ _ | refine cd ?_ | refine ca ?_ _)); refine blk_far ?_ NB666_671.out _; (with_reducible repeat (first | refine cn ?_ _ | refine cd ?_ | refine ca ?_ _)); refine blk_far ?_ NB666_671.out _; (with_reducible repeat (first | refine cn ?_ _ | refine cd ?_ | refine ca ?_ _)); exact BK666.out⟩, ⟨by (with_reducible repeat (first | refine cn ?_ _ | refine cd ?_ | refine ca ?_ _)); refine blk_put (cs := #[.bool t667, .slice none 0 0]) ?_ 1 _ rfl; (with_reducible repeat (first | refine cn ?_ _ | refine cd ?_ | refine ca ?_ _)); refine blk_put (cs := #[.bool false, .slice none 0 0]) ?_ 0 _ rfl; (with_reducible repeat (first | refine cn ?_ _ | refine cd ?_ | refine ca ?_ _)); exact BK671.out⟩, ⟨by repeat (first | (with_reducible first | exact HB.out | apply qa | apply qn | apply qd | refine qs ?_ GE666.out | refine qs ?_ GE671.out) | exact HB.out)⟩⟩
 case round =>
  clear H'
  try clear c2
  try clear p2
  try clear c6
  try clear hcz7_0
  try clear hcz7_1
  try clear hfz7_0
  try clear hfz7_1
  obtain ⟨x5_1, x667000_1, x667001_1, x667002_1, x667003_1, x667004_1, x672000_1, x672001_1, u672001, rfl, HA, HK1, HO_672001, BK666, BK671, HB⟩ := hrel
  cases gk with
  | zero => exact absurd HA.out (by simp [parquetref01_Mul.l0])
  | succ k1 =>
   have H := HA.out
   clear HA
   simp only [parquetref01_Mul.l0] at H
   by_cases c9 : x5_1 < (l0.length : Int)
   ·rw [if_pos c9] at H
    have c9b0 : decide (x5_1 < (l0.length : Int)) = true := decide_eq_true c9
    clear c9
    by_cases c10 : 0 ≤ x5_1
    ·rw [if_pos c10] at H
     have c10b0 : decide (0 ≤ x5_1) = true := decide_eq_true c10
     clear c10
     replace H := Option.bind_eq_some_iff.mp H
     obtain ⟨⟨t679, t680⟩, A110, H⟩ := H
     replace H : ((parquetref01_Num_Times.f k1 x672000_1 x672001_1 t679 t680).bind fun bt683 => ((parquetref01_Num_Wide.f bt683.1 bt683.2).bind fun bt687 => (if bt687.2.2.2.2.2 = true then (parquetref01_Mul.l0 k1 l0 (wrap64 (x5_1 + 1)) bt683.1 bt683.2) else (some (false, 0, 0, 0, 0, 10))))) = some (r1, r2, r3, r4, r5, r6) := H
     have A11 := Aside0.mk A110
     clear A110
     replace H := Option.bind_eq_some_iff.mp H
     obtain ⟨⟨t683, t684⟩, A120, H⟩ := H
     replace H : ((parquetref01_Num_Wide.f t683 t684).bind fun bt687 => (if bt687.2.2.2.2.2 = true then (parquetref01_Mul.l0 k1 l0 (wrap64 (x5_1 + 1)) t683 t684) else (some (false, 0, 0, 0, 0, 10)))) = some (r1, r2, r3, r4, r5, r6) := H
     have A12 := Aside0.mk A120
     clear A120
     replace H := Option.bind_eq_some_iff.mp H
     obtain ⟨⟨t687, t688, t689, t690, t691, t692⟩, A130, H⟩ := H
     replace H : (if t692 = true then (parquetref01_Mul.l0 k1 l0 (wrap64 (x5_1 + 1)) t683 t684) else (some (false, 0, 0, 0, 0, 10))) = some (r1, r2, r3, r4, r5, r6) := H
     have A13 := Aside0.mk A130
     clear A130
     by_cases c14 : t692 = true
     ·subst c14
      have H1 : (parquetref01_Mul.l0 k1 l0 (wrap64 (x5_1 + 1)) t683 t684) = some (r1, r2, r3, r4, r5, r6) := by rw [if_pos rfl] at H; exact H
      clear H
      have H := H1
      clear H1
      have H' := Aside0.mk H
      clear H
      try go_wp2
      have n0_ := Aside0.mk (Kd.V_drew HO_672001.out)
      have n1_ := Aside0.mk (blk_drew BK666.out)
      have n2_ := Aside0.mk (blk_drew BK671.out)
      have n3_ := Aside0.mk (below_drew1 HB.out)
      clear HO_672001
      clear BK666
      clear BK671
      clear HB
      have HO_672001 := n0_
      have BK666 := n1_
      have BK671 := n2_
      have HB := n3_
      clear n0_ n1_ n2_ n3_
      have p678 : 0 ≤ (x5_1 : Int) := of_decide_eq_true (by first | (with_reducible assumption) | assumption)
      have q678 : x5_1 < (l0.length : Int) := of_decide_eq_true (by first | (with_reducible assumption) | assumption)
      obtain ⟨ad678, e678, hx678_0, hx678_1, hx678_2, hx678_3, hx678_4⟩ := at_T27 HR0.out x5_1 p678 q678
      have hw678_4 := hx678_4
      have hw678_3 := hx678_3
      have hw678_2 := hx678_2
      have hw678_1 := hx678_1
      have hw678_0 := hx678_0
      cases e678
      replace hx678_0 := (HB.out.cell (World.block_lt_of_cell? w _ hx678_0)).trans hx678_0
      replace hx678_1 := (HB.out.cell (World.block_lt_of_cell? w _ hx678_1)).trans hx678_1
      replace hx678_2 := (HB.out.cell (World.block_lt_of_cell? w _ hx678_2)).trans hx678_2
      replace hx678_3 := (HB.out.cell (World.block_lt_of_cell? w _ hx678_3)).trans hx678_3
      replace hx678_4 := (HB.out.cell (World.block_lt_of_cell? w _ hx678_4)).trans hx678_4
      replace p678 := eq_true p678
      replace q678 := eq_true q678
      refine start_ (n := 8) (S := fun w' => w'.cell? ⟨gb671, 0, none⟩ = some (.bool x672000_1) ∧ w'.cell? ⟨gb671, 1, none⟩ = some (u672001) ∧ w'.cell? (ad678.add ((x5_1).toNat * 5)) = some (.bool ((rd_T27 l0 x5_1).f0)) ∧ w'.cell? ⟨(ad678.add ((x5_1).toNat * 5)).block, (ad678.add ((x5_1).toNat * 5)).off + 1, none⟩ = some (.int .u64 ((rd_T27 l0 x5_1).f1.f0)) ∧ w'.cell? ⟨(ad678.add ((x5_1).toNat * 5)).block, (ad678.add ((x5_1).toNat * 5)).off + 2, none⟩ = some (.int .u64 ((rd_T27 l0 x5_1).f1.f1)) ∧ w'.cell? ⟨(ad678.add ((x5_1).toNat * 5)).block, (ad678.add ((x5_1).toNat * 5)).off + 3, none⟩ = some (.int .u64 ((rd_T27 l0 x5_1).f1.f2)) ∧ w'.cell? ⟨(ad678.add ((x5_1).toNat * 5)).block, (ad678.add ((x5_1).toNat * 5)).off + 4, none⟩ = some (.int .u64 ((rd_T27 l0 x5_1).f1.f3))) (ds := [7]) #[Ff, Ff, Ff, Ff, Ff, Ff, Ff, Ff] (by kernel_rfl) rfl rfl ⟨(blk_cell BK671.out 0).trans rfl, (blk_cell BK671.out 1).trans rfl, ((HB.out.cell (World.block_lt_of_cell? w _ hw678_0)).trans hw678_0), ((HB.out.cell (World.block_lt_of_cell? w _ hw678_1)).trans hw678_1), ((HB.out.cell (World.block_lt_of_cell? w _ hw678_2)).trans hw678_2), ((HB.out.cell (World.block_lt_of_cell? w _ hw678_3)).trans hw678_3), ((HB.out.cell (World.block_lt_of_cell? w _ hw678_4)).trans hw678_4)⟩ (fun hHeld => ?_); refine with_tabW parquetref01_Mul.tab5 parquetref01_Mul.bits5 (fun HT_ HW_ => ?_)
      generalize wr.drew = w15 at HO_672001 BK666 BK671 HB hx678_0 hx678_1 hx678_2 hx678_3 hx678_4 hHeld ⊢
      refine pure_ (i := 1) (N := some 16) (v := ?_) (a' := ?_) #[Ff, Tt, Ff, Ff, Ff, Ff, Ff, Ff] rfl rfl (any_of HT_.out (by kernel_rfl)) (fun _ _ _ h => h) (Or.inl ⟨by rfl, ?_⟩) ?_ ?_
      rotate_left
      ·intro w'
       go_simp
       with_reducible rfl
      rotate_left
      ·simp only [Act.put, List.setIfInBounds_toArray, List.set_cons_zero, List.set_cons_succ, i64_w, i32_w]
       rfl
      refine pure_ (i := 2) (N := some 17) (v := ?_) (a' := ?_) #[Ff, Tt, Tt, Ff, Ff, Ff, Ff, Ff] rfl rfl (any_of HT_.out (by kernel_rfl)) (fun _ _ _ h => h) (Or.inl ⟨by rfl, ?_⟩) ?_ ?_
      rotate_left
      ·intro w'
       go_simp
       with_reducible rfl
      rotate_left
      ·simp only [Act.put, List.setIfInBounds_toArray, List.set_cons_zero, List.set_cons_succ, i64_w, i32_w]
       rfl
      refine pure_ (i := 3) (N := some 18) (v := ?_) (a' := ?_) #[Ff, Tt, Tt, Tt, Ff, Ff, Ff, Ff] rfl rfl (any_of HT_.out (by kernel_rfl)) (fun _ _ _ h => h) (Or.inl ⟨by rfl, ?_⟩) ?_ ?_
      rotate_left
      ·intro w'
       go_simp
       with_reducible rfl
      rotate_left
      ·simp only [Act.put, List.setIfInBounds_toArray, List.set_cons_zero, List.set_cons_succ, i64_w, i32_w]
       rfl
      refine take_ (i := 0) (N := some 15) (v := ?_) (a' := ?_) #[Tt, Tt, Tt, Tt, Ff, Ff, Ff, Ff] rfl rfl (take_ofW HT_.out HW_.out (by kernel_rfl)) (fun _ _ _ h => h) (Or.inl ⟨by rfl, ?_⟩) hHeld ?_ ?_
      rotate_left
      ·rintro w' ⟨s0, s1, s2, s3, s4, s5, s6⟩
       go_simp
       with_reducible rfl
      rotate_left
      ·simp only [Act.put, List.setIfInBounds_toArray, List.set_cons_zero, List.set_cons_succ, i64_w, i32_w]
       rfl
      refine take_ (i := 4) (N := some 19) (v := ?_) (a' := ?_) #[Tt, Tt, Tt, Tt, Tt, Ff, Ff, Ff] rfl rfl (take_ofW HT_.out HW_.out (by kernel_rfl)) (fun _ _ _ h => h) (Or.inl ⟨by rfl, ?_⟩) hHeld ?_ ?_
      rotate_left
      ·rintro w' ⟨s0, s1, s2, s3, s4, s5, s6⟩
       go_simp
       with_reducible rfl
      rotate_left
      ·simp only [Act.put, List.setIfInBounds_toArray, List.set_cons_zero, List.set_cons_succ, i64_w, i32_w]
       rfl
      refine one_ (i := 5) (N := some 20) #[Tt, Tt, Tt, Tt, Tt, Tt, Ff, Ff] rfl rfl (one_of HT_.out (by kernel_rfl)) (by decide) (fun K hK => ?_)
      refine goes_ Try.func24 (by kernel_rfl) rfl #[.agg #[.bool ((rd_T27 l0 x5_1).f0), .int .u64 ((rd_T27 l0 x5_1).f1.f0), .int .u64 ((rd_T27 l0 x5_1).f1.f1), .int .u64 ((rd_T27 l0 x5_1).f1.f2), .int .u64 ((rd_T27 l0 x5_1).f1.f3)]] (by rfl) rfl rfl (by (try simp only [List.map_toArray, List.map_cons, List.map_nil]); first | done | rfl | (simp only [List.length_drop, List.length_take]; rfl)) ?_
      with_reducible refine (parquetref01_Of.calls k1 ((rd_T27 l0 x5_1).f0) ((rd_T27 l0 x5_1).f1.f0) ((rd_T27 l0 x5_1).f1.f1) ((rd_T27 l0 x5_1).f1.f2) ((rd_T27 l0 x5_1).f1.f3) t679 t680 _ A11.out).mono ?_
      rintro e w16 ⟨v681, rfl, ho0, hb⟩
      refine ⟨_, rfl, ?_⟩
      have n0_ := Aside0.mk (Kd.V_below (by (with_reducible repeat (first | apply Kd.V_alloc | apply Kd.V_drewN | apply Kd.V_drew)); exact HO_672001.out) hb)
      have n1_ := Aside0.mk (Kd.V_lower (Kd.V_mono (ok' := fun k_ => k_ ≠ gb666 ∧ k_ ≠ gb671) ho0 (fun k_ hk_ => ⟨(Kd.freshB (g := gb666) (o := .cells #[.bool x667000_1, .int .u64 x667001_1, .int .u64 x667002_1, .int .u64 x667003_1, .int .u64 x667004_1] 27 (0, 0)) (by exact lb BK666.out) k_ hk_), (Kd.freshB (g := gb671) (o := .cells #[.bool x672000_1, u672001] 38 (0, 0)) (by exact lb BK671.out) k_ hk_)⟩)) (below_size (by repeat (first | (with_reducible first | exact HB.out | apply qa | apply qn | apply qd | refine qs ?_ GE666.out | refine qs ?_ GE671.out) | exact HB.out))))
      have n2_ := bb BK666 hb
      have n3_ := bb BK671 hb
      have n4_ := Aside0.mk (below_step (by repeat (first | (with_reducible first | exact HB.out | apply qa | apply qn | apply qd | refine qs ?_ GE666.out | refine qs ?_ GE671.out) | exact HB.out)) hb)
      clear HO_672001
      clear BK666
      clear BK671
      clear HB
      have HO_672001 := n0_
      have HO682 := n1_
      have BK666 := n2_
      have BK671 := n3_
      have HB := n4_
      clear n0_ n1_ n2_ n3_ n4_
      (try clear hb)
      (try clear hb2)
      (try clear hk)
      (try clear hi)
      (try clear ho0)
      obtain ⟨Ao17, co17, eo17⟩ := Kd.V_slice HO_672001.out
      (first | subst eo17 | (injection eo17 with f1_ f2_ f3_; have f4_ := f1_.symm; have f5_ := f3_.symm; clear f1_ f2_ f3_; subst f4_; subst f5_))
      obtain ⟨Ao18, co18, eo18⟩ := Kd.V_slice HO682.out
      (first | subst eo18 | (injection eo18 with f1_ f2_ f3_; have f4_ := f1_.symm; have f5_ := f3_.symm; clear f1_ f2_ f3_; subst f4_; subst f5_))
      refine hK.out _ _ ⟨(blk_cell BK671.out 0).trans rfl, (blk_cell BK671.out 1).trans rfl, ((HB.out.cell (World.block_lt_of_cell? w _ hw678_0)).trans hw678_0), ((HB.out.cell (World.block_lt_of_cell? w _ hw678_1)).trans hw678_1), ((HB.out.cell (World.block_lt_of_cell? w _ hw678_2)).trans hw678_2), ((HB.out.cell (World.block_lt_of_cell? w _ hw678_3)).trans hw678_3), ((HB.out.cell (World.block_lt_of_cell? w _ hw678_4)).trans hw678_4)⟩ (fun hHeld => ?_)
      clear hK K
      refine norm_ (a' := ?_) ?_ ?_
      rotate_left
      ·show Act.put _ (some 20) _ = _
       simp only [Act.put, List.setIfInBounds_toArray, List.set_cons_zero, List.set_cons_succ, i64_w, i32_w]
       rfl
      refine one_ (i := 6) (N := some 21) #[Tt, Tt, Tt, Tt, Tt, Tt, Tt, Ff] rfl rfl (one_of HT_.out (by kernel_rfl)) (by decide) (fun K hK => ?_)
      refine goes_ Try.func29 (by kernel_rfl) rfl #[.agg #[.bool x672000_1, .slice Ao17 x672001_1.length co17], .agg #[.bool t679, .slice Ao18 t680.length co18]] (by rfl) rfl rfl (by (try simp only [List.map_toArray, List.map_cons, List.map_nil]); first | done | rfl | (simp only [List.length_drop, List.length_take]; rfl)) ?_
      with_reducible refine (parquetref01_Num_Times.calls k1 x672000_1 _ _ x672001_1 t679 _ _ t680 t683 t684 _ ?side1 ?side2 ?side3 ?side4 A12.out).mono ?_
      (case side1 => repeat (first | exact (Kd.V_reads' HO_672001.out).2.2 | (with_reducible refine Kd.C_alloc ?_ _) | (with_reducible refine Kd.C_drewN ?_ _) | (with_reducible refine Kd.C_drew ?_)))
      (case side2 => exact (Kd.V_reads' HO_672001.out).2.1)
      (case side3 => repeat (first | exact (Kd.V_reads' HO682.out).2.2 | (with_reducible refine Kd.C_alloc ?_ _) | (with_reducible refine Kd.C_drewN ?_ _) | (with_reducible refine Kd.C_drew ?_)))
      (case side4 => exact (Kd.V_reads' HO682.out).2.1)
      rintro e w19 ⟨v685, rfl, ho0, hb⟩
      refine ⟨_, rfl, ?_⟩
      have n0_ := Aside0.mk (Kd.V_below (by (with_reducible repeat (first | apply Kd.V_alloc | apply Kd.V_drewN | apply Kd.V_drew)); exact HO_672001.out) hb)
      have n1_ := Aside0.mk (Kd.V_below (by (with_reducible repeat (first | apply Kd.V_alloc | apply Kd.V_drewN | apply Kd.V_drew)); exact HO682.out) hb)
      have n2_ := Aside0.mk (Kd.V_lower (Kd.V_mono (ok' := fun k_ => k_ ≠ gb666 ∧ k_ ≠ gb671) ho0 (fun k_ hk_ => ⟨(Kd.freshB (g := gb666) (o := .cells #[.bool x667000_1, .int .u64 x667001_1, .int .u64 x667002_1, .int .u64 x667003_1, .int .u64 x667004_1] 27 (0, 0)) (by exact lb BK666.out) k_ hk_), (Kd.freshB (g := gb671) (o := .cells #[.bool x672000_1, .slice Ao17 x672001_1.length co17] 38 (0, 0)) (by exact lb BK671.out) k_ hk_)⟩)) (below_size (by repeat (first | (with_reducible first | exact HB.out | apply qa | apply qn | apply qd | refine qs ?_ GE666.out | refine qs ?_ GE671.out) | exact HB.out))))
      have n3_ := bb BK666 hb
      have n4_ := bb BK671 hb
      have n5_ := Aside0.mk (below_step (by repeat (first | (with_reducible first | exact HB.out | apply qa | apply qn | apply qd | refine qs ?_ GE666.out | refine qs ?_ GE671.out) | exact HB.out)) hb)
      clear HO_672001
      clear HO682
      clear BK666
      clear BK671
      clear HB
      have HO_672001 := n0_
      have HO682 := n1_
      have HO686 := n2_
      have BK666 := n3_
      have BK671 := n4_
      have HB := n5_
      clear n0_ n1_ n2_ n3_ n4_ n5_
      (try clear hb)
      (try clear hb2)
      (try clear hk)
      (try clear hi)
      (try clear ho0)
      obtain ⟨Ao21, co21, eo21⟩ := Kd.V_slice HO686.out
      (first | subst eo21 | (injection eo21 with f1_ f2_ f3_; have f4_ := f1_.symm; have f5_ := f3_.symm; clear f1_ f2_ f3_; subst f4_; subst f5_))
      refine hK.out _ _ ⟨(blk_cell BK671.out 0).trans rfl, (blk_cell BK671.out 1).trans rfl, ((HB.out.cell (World.block_lt_of_cell? w _ hw678_0)).trans hw678_0), ((HB.out.cell (World.block_lt_of_cell? w _ hw678_1)).trans hw678_1), ((HB.out.cell (World.block_lt_of_cell? w _ hw678_2)).trans hw678_2), ((HB.out.cell (World.block_lt_of_cell? w _ hw678_3)).trans hw678_3), ((HB.out.cell (World.block_lt_of_cell? w _ hw678_4)).trans hw678_4)⟩ (fun hHeld => ?_)
      clear hK K
      refine norm_ (a' := ?_) ?_ ?_
      rotate_left
      ·show Act.put _ (some 21) _ = _
       simp only [Act.put, List.setIfInBounds_toArray, List.set_cons_zero, List.set_cons_succ, i64_w, i32_w]
       rfl
      refine last_ (i := 7) (N := none) #[Tt, Tt, Tt, Tt, Tt, Tt, Tt, Tt] rfl rfl (one_of HT_.out (by kernel_rfl)) (by decide) (fun K hK => ?_)
      have hs20 : w19.cell? ⟨gb671, 0, none⟩ = some (.bool x672000_1) := (blk_cell BK671.out 0).trans rfl
      have hfs20 := blk_frozen BK671.out 0
      have hns20_0 := NB666_671.out
      have hms20_0 := NB671_666.out
      have hs22 : w19.cell? ⟨gb671, 1, none⟩ = some (.slice Ao17 x672001_1.length co17) := (blk_cell BK671.out 1).trans rfl
      have hfs22 := blk_frozen BK671.out 1
      have hns22_0 := NB666_671.out
      have hms22_0 := NB671_666.out
      refine skip_ (w1 := ?_) (by rfl) rfl ?_ ?_
      rotate_left
      ·go_simp
       rfl
      refine hK.out _ _ ?_
      clear hK K
      refine done_ (done_of HT_.out (by kernel_rfl)) ?_
      have hnb23 := NB671_666.out
      have hnc23 := NB666_671.out
      obtain ⟨hcz24_0, hcz24_1⟩ := cl2 BK671.out
      obtain ⟨hfz24_0, hfz24_1⟩ := fr2 BK671.out
      try go_wp2_with (first | ((with_reducible refine gate_callee (f := 34) rfl ?_); refine goesL_ (some 24) rfl rfl Try.func34 (by kernel_rfl) rfl #[.agg #[.bool t683, .slice Ao21 t684.length co21]] rfl (by (try simp only [List.map_toArray, List.map_cons, List.map_nil]); first | done | rfl | (simp only [List.length_drop, List.length_take]; rfl)) ?_; (with_reducible refine (parquetref01_Num_Wide.calls t683 _ _ t684 t687 t688 t689 t690 t691 true _ ?side1 ?side2 A13.out).mono ?_); (case side1 => refine (Kd.V_reads' (e := 3) (base := w.heap.size) (ok := fun k_ => (k_ ≠ gb666 ∧ k_ ≠ gb671)) (n := t684.length) (c := co21) ?_).2.2; exact (by (with_reducible repeat (first | apply Kd.V_alloc | apply Kd.V_drewN | apply Kd.V_drew)); exact (Kd.V_mono (Kd.V_far (p := ⟨gb671, 1, none⟩) (Kd.V_far (p := ⟨gb671, 0, none⟩) (Kd.V_mono HO686.out (fun k_ hk => (⟨hk, hk.2⟩ : _ ∧ k_ ≠ gb671))) (fun _ hk => hk.2) (.bool t683)) (fun _ hk => hk.2) (.slice Ao21 t684.length co21)) (fun _ h_ => h_.1)))); (case side2 => exact (Kd.V_reads' HO686.out).2.1); rintro e w25 ⟨rfl, hb⟩; refine ⟨_, rfl, ?_⟩; have n0_ := Aside0.mk (Kd.V_below (by (with_reducible repeat (first | apply Kd.V_alloc | apply Kd.V_drewN | apply Kd.V_drew)); exact (Kd.V_mono (Kd.V_far (p := ⟨gb671, 1, none⟩) (Kd.V_far (p := ⟨gb671, 0, none⟩) (Kd.V_mono HO_672001.out (fun k_ hk => (⟨hk, hk.2⟩ : _ ∧ k_ ≠ gb671))) (fun _ hk => hk.2) (.bool t683)) (fun _ hk => hk.2) (.slice Ao21 t684.length co21)) (fun _ h_ => h_.1))) hb); have n1_ := Aside0.mk (Kd.V_below (by (with_reducible repeat (first | apply Kd.V_alloc | apply Kd.V_drewN | apply Kd.V_drew)); exact (Kd.V_mono (Kd.V_far (p := ⟨gb671, 1, none⟩) (Kd.V_far (p := ⟨gb671, 0, none⟩) (Kd.V_mono HO682.out (fun k_ hk => (⟨hk, hk.2⟩ : _ ∧ k_ ≠ gb671))) (fun _ hk => hk.2) (.bool t683)) (fun _ hk => hk.2) (.slice Ao21 t684.length co21)) (fun _ h_ => h_.1))) hb); have n2_ := Aside0.mk (Kd.V_below (by (with_reducible repeat (first | apply Kd.V_alloc | apply Kd.V_drewN | apply Kd.V_drew)); exact (Kd.V_mono (Kd.V_far (p := ⟨gb671, 1, none⟩) (Kd.V_far (p := ⟨gb671, 0, none⟩) (Kd.V_mono HO686.out (fun k_ hk => (⟨hk, hk.2⟩ : _ ∧ k_ ≠ gb671))) (fun _ hk => hk.2) (.bool t683)) (fun _ hk => hk.2) (.slice Ao21 t684.length co21)) (fun _ h_ => h_.1))) hb); have n3_ := Aside0.mk (blk_below (g := gb666) (o := .cells #[.bool x667000_1, .int .u64 x667001_1, .int .u64 x667002_1, .int .u64 x667003_1, .int .u64 x667004_1] 27 (0, 0)) (by repeat (with_reducible first | exact lb BK666.out | refine blk_far ?_ NB666_671.out _ | refine cn ?_ _ | refine cd ?_ | refine ca ?_ _)) hb); have n4_ := Aside0.mk (blk_below (g := gb671) (o := .cells #[.bool t683, .slice Ao21 t684.length co21] 38 (0, 0)) (by (with_reducible repeat (first | refine cn ?_ _ | refine cd ?_ | refine ca ?_ _)); refine blk_put (cs := #[.bool t683, .slice Ao17 x672001_1.length co17]) ?_ 1 _ rfl; (with_reducible repeat (first | refine cn ?_ _ | refine cd ?_ | refine ca ?_ _)); refine blk_put (cs := #[.bool x672000_1, .slice Ao17 x672001_1.length co17]) ?_ 0 _ rfl; (with_reducible repeat (first | refine cn ?_ _ | refine cd ?_ | refine ca ?_ _)); exact BK671.out) hb); have n5_ := Aside0.mk (below_step (by repeat (first | (with_reducible first | exact HB.out | apply qa | apply qn | apply qd | refine qs ?_ GE666.out | refine qs ?_ GE671.out) | exact HB.out)) hb); clear HO_672001; clear HO682; clear HO686; clear BK666; clear BK671; clear HB; have HO_672001 := n0_; have HO682 := n1_; have HO686 := n2_; have BK666 := n3_; have BK671 := n4_; have HB := n5_; clear n0_ n1_ n2_ n3_ n4_ n5_; (try clear hb); (try clear hb2); (try clear hk); (try clear hi)) | ((with_reducible refine gate_dst (N := 6) rfl ?_); refine box_event ?hg (N := 6) ?hd (cs := #[.bool false, .int .u64 0, .int .u64 0, .int .u64 0, .int .u64 0]) (t := 27) ?hr ?_; (case hd => rfl); (case hg => rfl); (case hr => first | (go_simp; done) | (go_simp; rfl)); intro gb693 hg w26 hbox hb; have n0_ := Aside0.mk (Kd.V_below (Kd.V_elderB (by (with_reducible repeat (first | apply Kd.V_alloc | apply Kd.V_drewN | apply Kd.V_drew)); exact HO_672001.out) gb693 (Nat.le_of_eq hg.symm)) hb); have n1_ := Aside0.mk (Kd.V_below (Kd.V_elderB (by (with_reducible repeat (first | apply Kd.V_alloc | apply Kd.V_drewN | apply Kd.V_drew)); exact HO682.out) gb693 (Nat.le_of_eq hg.symm)) hb); have n2_ := Aside0.mk (Kd.V_below (Kd.V_elderB (by (with_reducible repeat (first | apply Kd.V_alloc | apply Kd.V_drewN | apply Kd.V_drew)); exact HO686.out) gb693 (Nat.le_of_eq hg.symm)) hb); have n3_ := bb BK666 hb; have n4_ := bb BK671 hb; have n5_ := Aside0.mk (below_step (by repeat (first | (with_reducible first | exact HB.out | apply qa | apply qn | apply qd | refine qs ?_ GE666.out | refine qs ?_ GE671.out) | exact HB.out)) hb); have n6_ := Aside0.mk (hbox); have n7_ := bgw HB hg; have n8_ := bgw HB hg; have n9_ := bnl BK666 hg; have n10_ := bng BK666 hg; have n11_ := bnl BK671 hg; have n12_ := bng BK671 hg; clear HO_672001; clear HO682; clear HO686; clear BK666; clear BK671; clear HB; have HO_672001 := n0_; have HO682 := n1_; have HO686 := n2_; have BK666 := n3_; have BK671 := n4_; have HB := n5_; have BK693 := n6_; have GW693 := n7_; have GE693 := n8_; have NB666_693 := n9_; have NB693_666 := n10_; have NB671_693 := n11_; have NB693_671 := n12_; clear n0_ n1_ n2_ n3_ n4_ n5_ n6_ n7_ n8_ n9_ n10_ n11_ n12_; clear hb hbox hg; have hnb27 := NB693_666.out; have hnc27 := NB666_693.out; have hnb28 := NB693_671.out; have hnc28 := NB671_693.out; obtain ⟨hcz29_0, hcz29_1, hcz29_2, hcz29_3, hcz29_4⟩ := cl5 BK693.out; obtain ⟨hfz29_0, hfz29_1, hfz29_2, hfz29_3, hfz29_4⟩ := fr5 BK693.out))
      go_roundg k1
      case measure => have := HK1.out; omega
      case rel => exact ⟨(wrap64 (x5_1 + 1)), (x667000_1), (x667001_1), (x667002_1), (x667003_1), (x667004_1), (t683), (t684), (.slice Ao21 t684.length co21), (by first | rfl | (simp; done) | (simp [*]; done)), H', ⟨by have := HK1.out; omega⟩, ⟨by (with_reducible repeat (first | apply Kd.V_alloc | apply Kd.V_drewN | apply Kd.V_drew)); exact Kd.V_mono (Kd.V_far (p := ⟨gb693, 4, none⟩) (Kd.V_far (p := ⟨gb693, 3, none⟩) (Kd.V_far (p := ⟨gb693, 2, none⟩) (Kd.V_far (p := ⟨gb693, 1, none⟩) (Kd.V_far (p := ⟨gb693, 0, none⟩) (Kd.V_mono HO686.out (fun k_ hk => (⟨hk, hk.2⟩ : _ ∧ k_ ≠ gb693))) (fun _ hk => hk.2) (.bool t687)) (fun _ hk => hk.2) (.int .u64 t688)) (fun _ hk => hk.2) (.int .u64 t689)) (fun _ hk => hk.2) (.int .u64 t690)) (fun _ hk => hk.2) (.int .u64 t691)) (fun _ hk => ⟨hk.1.1.1, hk.1.1.2⟩)⟩, ⟨by (with_reducible repeat (first | refine cn ?_ _ | refine cd ?_ | refine ca ?_ _)); refine blk_far ?_ NB666_693.out _; (with_reducible repeat (first | refine cn ?_ _ | refine cd ?_ | refine ca ?_ _)); refine blk_far ?_ NB666_693.out _; (with_reducible repeat (first | refine cn ?_ _ | refine cd ?_ | refine ca ?_ _)); refine blk_far ?_ NB666_693.out _; (with_reducible repeat (first | refine cn ?_ _ | refine cd ?_ | refine ca ?_ _)); refine blk_far ?_ NB666_693.out _; (with_reducible repeat (first | refine cn ?_ _ | refine cd ?_ | refine ca ?_ _)); refine blk_far ?_ NB666_693.out _; (with_reducible repeat (first | refine cn ?_ _ | refine cd ?_ | refine ca ?_ _)); exact BK666.out⟩, ⟨by (with_reducible repeat (first | refine cn ?_ _ | refine cd ?_ | refine ca ?_ _)); refine blk_far ?_ NB671_693.out _; (with_reducible repeat (first | refine cn ?_ _ | refine cd ?_ | refine ca ?_ _)); refine blk_far ?_ NB671_693.out _; (with_reducible repeat (first | refine cn ?_ _ | refine cd ?_ | refine ca ?_ _)); refine blk_far ?_ NB671_693.out _; (with_reducible repeat (first | refine cn ?_ _ | refine cd ?_ | refine ca ?_ _)); refine blk_far ?_ NB671_693.out _; (with_reducible repeat (first | refine cn ?_ _ | refine cd ?_ | refine ca ?_ _)); refine blk_far ?_ NB671_693.out _; (with_reducible repeat (first | refine cn ?_ _ | refine cd ?_ | refine ca ?_ _)); exact BK671.out⟩, ⟨by repeat (first | (with_reducible first | exact HB.out | apply qa | apply qn | apply qd | refine qs ?_ GE666.out | refine qs ?_ GE671.out | refine qs ?_ GE693.out) | exact HB.out)⟩⟩
     ·replace c14 := Bool.eq_false_iff.mpr c14
      subst c14
      have H1 : (some (false, 0, 0, 0, 0, 10)) = some (r1, r2, r3, r4, r5, r6) := by rw [if_neg (show ¬ (false = true) by decide)] at H; exact H
      clear H
      have H := H1
      clear H1
      simp only [Option.some.injEq, Prod.mk.injEq] at H
      obtain ⟨rfl, rfl, rfl, rfl, rfl, rfl⟩ := H
      try go_wp2
      have n0_ := Aside0.mk (Kd.V_drew HO_672001.out)
      have n1_ := Aside0.mk (blk_drew BK666.out)
      have n2_ := Aside0.mk (blk_drew BK671.out)
      have n3_ := Aside0.mk (below_drew1 HB.out)
      clear HO_672001
      clear BK666
      clear BK671
      clear HB
      have HO_672001 := n0_
      have BK666 := n1_
      have BK671 := n2_
      have HB := n3_
      clear n0_ n1_ n2_ n3_
      have p678 : 0 ≤ (x5_1 : Int) := of_decide_eq_true (by first | (with_reducible assumption) | assumption)
      have q678 : x5_1 < (l0.length : Int) := of_decide_eq_true (by first | (with_reducible assumption) | assumption)
      obtain ⟨ad678, e678, hx678_0, hx678_1, hx678_2, hx678_3, hx678_4⟩ := at_T27 HR0.out x5_1 p678 q678
      have hw678_4 := hx678_4
      have hw678_3 := hx678_3
      have hw678_2 := hx678_2
      have hw678_1 := hx678_1
      have hw678_0 := hx678_0
      cases e678
      replace hx678_0 := (HB.out.cell (World.block_lt_of_cell? w _ hx678_0)).trans hx678_0
      replace hx678_1 := (HB.out.cell (World.block_lt_of_cell? w _ hx678_1)).trans hx678_1
      replace hx678_2 := (HB.out.cell (World.block_lt_of_cell? w _ hx678_2)).trans hx678_2
      replace hx678_3 := (HB.out.cell (World.block_lt_of_cell? w _ hx678_3)).trans hx678_3
      replace hx678_4 := (HB.out.cell (World.block_lt_of_cell? w _ hx678_4)).trans hx678_4
      replace p678 := eq_true p678
      replace q678 := eq_true q678
      refine start_ (n := 8) (S := fun w' => w'.cell? ⟨gb671, 0, none⟩ = some (.bool x672000_1) ∧ w'.cell? ⟨gb671, 1, none⟩ = some (u672001) ∧ w'.cell? (ad678.add ((x5_1).toNat * 5)) = some (.bool ((rd_T27 l0 x5_1).f0)) ∧ w'.cell? ⟨(ad678.add ((x5_1).toNat * 5)).block, (ad678.add ((x5_1).toNat * 5)).off + 1, none⟩ = some (.int .u64 ((rd_T27 l0 x5_1).f1.f0)) ∧ w'.cell? ⟨(ad678.add ((x5_1).toNat * 5)).block, (ad678.add ((x5_1).toNat * 5)).off + 2, none⟩ = some (.int .u64 ((rd_T27 l0 x5_1).f1.f1)) ∧ w'.cell? ⟨(ad678.add ((x5_1).toNat * 5)).block, (ad678.add ((x5_1).toNat * 5)).off + 3, none⟩ = some (.int .u64 ((rd_T27 l0 x5_1).f1.f2)) ∧ w'.cell? ⟨(ad678.add ((x5_1).toNat * 5)).block, (ad678.add ((x5_1).toNat * 5)).off + 4, none⟩ = some (.int .u64 ((rd_T27 l0 x5_1).f1.f3))) (ds := [7]) #[Ff, Ff, Ff, Ff, Ff, Ff, Ff, Ff] (by kernel_rfl) rfl rfl ⟨(blk_cell BK671.out 0).trans rfl, (blk_cell BK671.out 1).trans rfl, ((HB.out.cell (World.block_lt_of_cell? w _ hw678_0)).trans hw678_0), ((HB.out.cell (World.block_lt_of_cell? w _ hw678_1)).trans hw678_1), ((HB.out.cell (World.block_lt_of_cell? w _ hw678_2)).trans hw678_2), ((HB.out.cell (World.block_lt_of_cell? w _ hw678_3)).trans hw678_3), ((HB.out.cell (World.block_lt_of_cell? w _ hw678_4)).trans hw678_4)⟩ (fun hHeld => ?_); refine with_tabW parquetref01_Mul.tab5 parquetref01_Mul.bits5 (fun HT_ HW_ => ?_)
      generalize wr.drew = w30 at HO_672001 BK666 BK671 HB hx678_0 hx678_1 hx678_2 hx678_3 hx678_4 hHeld ⊢
      refine pure_ (i := 1) (N := some 16) (v := ?_) (a' := ?_) #[Ff, Tt, Ff, Ff, Ff, Ff, Ff, Ff] rfl rfl (any_of HT_.out (by kernel_rfl)) (fun _ _ _ h => h) (Or.inl ⟨by rfl, ?_⟩) ?_ ?_
      rotate_left
      ·intro w'
       go_simp
       with_reducible rfl
      rotate_left
      ·simp only [Act.put, List.setIfInBounds_toArray, List.set_cons_zero, List.set_cons_succ, i64_w, i32_w]
       rfl
      refine pure_ (i := 2) (N := some 17) (v := ?_) (a' := ?_) #[Ff, Tt, Tt, Ff, Ff, Ff, Ff, Ff] rfl rfl (any_of HT_.out (by kernel_rfl)) (fun _ _ _ h => h) (Or.inl ⟨by rfl, ?_⟩) ?_ ?_
      rotate_left
      ·intro w'
       go_simp
       with_reducible rfl
      rotate_left
      ·simp only [Act.put, List.setIfInBounds_toArray, List.set_cons_zero, List.set_cons_succ, i64_w, i32_w]
       rfl
      refine pure_ (i := 3) (N := some 18) (v := ?_) (a' := ?_) #[Ff, Tt, Tt, Tt, Ff, Ff, Ff, Ff] rfl rfl (any_of HT_.out (by kernel_rfl)) (fun _ _ _ h => h) (Or.inl ⟨by rfl, ?_⟩) ?_ ?_
      rotate_left
      ·intro w'
       go_simp
       with_reducible rfl
      rotate_left
      ·simp only [Act.put, List.setIfInBounds_toArray, List.set_cons_zero, List.set_cons_succ, i64_w, i32_w]
       rfl
      refine take_ (i := 0) (N := some 15) (v := ?_) (a' := ?_) #[Tt, Tt, Tt, Tt, Ff, Ff, Ff, Ff] rfl rfl (take_ofW HT_.out HW_.out (by kernel_rfl)) (fun _ _ _ h => h) (Or.inl ⟨by rfl, ?_⟩) hHeld ?_ ?_
      rotate_left
      ·rintro w' ⟨s0, s1, s2, s3, s4, s5, s6⟩
       go_simp
       with_reducible rfl
      rotate_left
      ·simp only [Act.put, List.setIfInBounds_toArray, List.set_cons_zero, List.set_cons_succ, i64_w, i32_w]
       rfl
      refine take_ (i := 4) (N := some 19) (v := ?_) (a' := ?_) #[Tt, Tt, Tt, Tt, Tt, Ff, Ff, Ff] rfl rfl (take_ofW HT_.out HW_.out (by kernel_rfl)) (fun _ _ _ h => h) (Or.inl ⟨by rfl, ?_⟩) hHeld ?_ ?_
      rotate_left
      ·rintro w' ⟨s0, s1, s2, s3, s4, s5, s6⟩
       go_simp
       with_reducible rfl
      rotate_left
      ·simp only [Act.put, List.setIfInBounds_toArray, List.set_cons_zero, List.set_cons_succ, i64_w, i32_w]
       rfl
      refine one_ (i := 5) (N := some 20) #[Tt, Tt, Tt, Tt, Tt, Tt, Ff, Ff] rfl rfl (one_of HT_.out (by kernel_rfl)) (by decide) (fun K hK => ?_)
      refine goes_ Try.func24 (by kernel_rfl) rfl #[.agg #[.bool ((rd_T27 l0 x5_1).f0), .int .u64 ((rd_T27 l0 x5_1).f1.f0), .int .u64 ((rd_T27 l0 x5_1).f1.f1), .int .u64 ((rd_T27 l0 x5_1).f1.f2), .int .u64 ((rd_T27 l0 x5_1).f1.f3)]] (by rfl) rfl rfl (by (try simp only [List.map_toArray, List.map_cons, List.map_nil]); first | done | rfl | (simp only [List.length_drop, List.length_take]; rfl)) ?_
      with_reducible refine (parquetref01_Of.calls k1 ((rd_T27 l0 x5_1).f0) ((rd_T27 l0 x5_1).f1.f0) ((rd_T27 l0 x5_1).f1.f1) ((rd_T27 l0 x5_1).f1.f2) ((rd_T27 l0 x5_1).f1.f3) t679 t680 _ A11.out).mono ?_
      rintro e w31 ⟨v681, rfl, ho0, hb⟩
      refine ⟨_, rfl, ?_⟩
      have n0_ := Aside0.mk (Kd.V_below (by (with_reducible repeat (first | apply Kd.V_alloc | apply Kd.V_drewN | apply Kd.V_drew)); exact HO_672001.out) hb)
      have n1_ := Aside0.mk (Kd.V_lower (Kd.V_mono (ok' := fun k_ => k_ ≠ gb666 ∧ k_ ≠ gb671) ho0 (fun k_ hk_ => ⟨(Kd.freshB (g := gb666) (o := .cells #[.bool x667000_1, .int .u64 x667001_1, .int .u64 x667002_1, .int .u64 x667003_1, .int .u64 x667004_1] 27 (0, 0)) (by exact lb BK666.out) k_ hk_), (Kd.freshB (g := gb671) (o := .cells #[.bool x672000_1, u672001] 38 (0, 0)) (by exact lb BK671.out) k_ hk_)⟩)) (below_size (by repeat (first | (with_reducible first | exact HB.out | apply qa | apply qn | apply qd | refine qs ?_ GE666.out | refine qs ?_ GE671.out) | exact HB.out))))
      have n2_ := bb BK666 hb
      have n3_ := bb BK671 hb
      have n4_ := Aside0.mk (below_step (by repeat (first | (with_reducible first | exact HB.out | apply qa | apply qn | apply qd | refine qs ?_ GE666.out | refine qs ?_ GE671.out) | exact HB.out)) hb)
      clear HO_672001
      clear BK666
      clear BK671
      clear HB
      have HO_672001 := n0_
      have HO682 := n1_
      have BK666 := n2_
      have BK671 := n3_
      have HB := n4_
      clear n0_ n1_ n2_ n3_ n4_
      (try clear hb)
      (try clear hb2)
      (try clear hk)
      (try clear hi)
      (try clear ho0)
      obtain ⟨Ao32, co32, eo32⟩ := Kd.V_slice HO_672001.out
      (first | subst eo32 | (injection eo32 with f1_ f2_ f3_; have f4_ := f1_.symm; have f5_ := f3_.symm; clear f1_ f2_ f3_; subst f4_; subst f5_))
      obtain ⟨Ao33, co33, eo33⟩ := Kd.V_slice HO682.out
      (first | subst eo33 | (injection eo33 with f1_ f2_ f3_; have f4_ := f1_.symm; have f5_ := f3_.symm; clear f1_ f2_ f3_; subst f4_; subst f5_))
      refine hK.out _ _ ⟨(blk_cell BK671.out 0).trans rfl, (blk_cell BK671.out 1).trans rfl, ((HB.out.cell (World.block_lt_of_cell? w _ hw678_0)).trans hw678_0), ((HB.out.cell (World.block_lt_of_cell? w _ hw678_1)).trans hw678_1), ((HB.out.cell (World.block_lt_of_cell? w _ hw678_2)).trans hw678_2), ((HB.out.cell (World.block_lt_of_cell? w _ hw678_3)).trans hw678_3), ((HB.out.cell (World.block_lt_of_cell? w _ hw678_4)).trans hw678_4)⟩ (fun hHeld => ?_)
      clear hK K
      refine norm_ (a' := ?_) ?_ ?_
      rotate_left
      ·show Act.put _ (some 20) _ = _
       simp only [Act.put, List.setIfInBounds_toArray, List.set_cons_zero, List.set_cons_succ, i64_w, i32_w]
       rfl
      refine one_ (i := 6) (N := some 21) #[Tt, Tt, Tt, Tt, Tt, Tt, Tt, Ff] rfl rfl (one_of HT_.out (by kernel_rfl)) (by decide) (fun K hK => ?_)
      refine goes_ Try.func29 (by kernel_rfl) rfl #[.agg #[.bool x672000_1, .slice Ao32 x672001_1.length co32], .agg #[.bool t679, .slice Ao33 t680.length co33]] (by rfl) rfl rfl (by (try simp only [List.map_toArray, List.map_cons, List.map_nil]); first | done | rfl | (simp only [List.length_drop, List.length_take]; rfl)) ?_
      with_reducible refine (parquetref01_Num_Times.calls k1 x672000_1 _ _ x672001_1 t679 _ _ t680 t683 t684 _ ?side1 ?side2 ?side3 ?side4 A12.out).mono ?_
      (case side1 => repeat (first | exact (Kd.V_reads' HO_672001.out).2.2 | (with_reducible refine Kd.C_alloc ?_ _) | (with_reducible refine Kd.C_drewN ?_ _) | (with_reducible refine Kd.C_drew ?_)))
      (case side2 => exact (Kd.V_reads' HO_672001.out).2.1)
      (case side3 => repeat (first | exact (Kd.V_reads' HO682.out).2.2 | (with_reducible refine Kd.C_alloc ?_ _) | (with_reducible refine Kd.C_drewN ?_ _) | (with_reducible refine Kd.C_drew ?_)))
      (case side4 => exact (Kd.V_reads' HO682.out).2.1)
      rintro e w34 ⟨v685, rfl, ho0, hb⟩
      refine ⟨_, rfl, ?_⟩
      have n0_ := Aside0.mk (Kd.V_below (by (with_reducible repeat (first | apply Kd.V_alloc | apply Kd.V_drewN | apply Kd.V_drew)); exact HO_672001.out) hb)
      have n1_ := Aside0.mk (Kd.V_below (by (with_reducible repeat (first | apply Kd.V_alloc | apply Kd.V_drewN | apply Kd.V_drew)); exact HO682.out) hb)
      have n2_ := Aside0.mk (Kd.V_lower (Kd.V_mono (ok' := fun k_ => k_ ≠ gb666 ∧ k_ ≠ gb671) ho0 (fun k_ hk_ => ⟨(Kd.freshB (g := gb666) (o := .cells #[.bool x667000_1, .int .u64 x667001_1, .int .u64 x667002_1, .int .u64 x667003_1, .int .u64 x667004_1] 27 (0, 0)) (by exact lb BK666.out) k_ hk_), (Kd.freshB (g := gb671) (o := .cells #[.bool x672000_1, .slice Ao32 x672001_1.length co32] 38 (0, 0)) (by exact lb BK671.out) k_ hk_)⟩)) (below_size (by repeat (first | (with_reducible first | exact HB.out | apply qa | apply qn | apply qd | refine qs ?_ GE666.out | refine qs ?_ GE671.out) | exact HB.out))))
      have n3_ := bb BK666 hb
      have n4_ := bb BK671 hb
      have n5_ := Aside0.mk (below_step (by repeat (first | (with_reducible first | exact HB.out | apply qa | apply qn | apply qd | refine qs ?_ GE666.out | refine qs ?_ GE671.out) | exact HB.out)) hb)
      clear HO_672001
      clear HO682
      clear BK666
      clear BK671
      clear HB
      have HO_672001 := n0_
      have HO682 := n1_
      have HO686 := n2_
      have BK666 := n3_
      have BK671 := n4_
      have HB := n5_
      clear n0_ n1_ n2_ n3_ n4_ n5_
      (try clear hb)
      (try clear hb2)
      (try clear hk)
      (try clear hi)
      (try clear ho0)
      obtain ⟨Ao36, co36, eo36⟩ := Kd.V_slice HO686.out
      (first | subst eo36 | (injection eo36 with f1_ f2_ f3_; have f4_ := f1_.symm; have f5_ := f3_.symm; clear f1_ f2_ f3_; subst f4_; subst f5_))
      refine hK.out _ _ ⟨(blk_cell BK671.out 0).trans rfl, (blk_cell BK671.out 1).trans rfl, ((HB.out.cell (World.block_lt_of_cell? w _ hw678_0)).trans hw678_0), ((HB.out.cell (World.block_lt_of_cell? w _ hw678_1)).trans hw678_1), ((HB.out.cell (World.block_lt_of_cell? w _ hw678_2)).trans hw678_2), ((HB.out.cell (World.block_lt_of_cell? w _ hw678_3)).trans hw678_3), ((HB.out.cell (World.block_lt_of_cell? w _ hw678_4)).trans hw678_4)⟩ (fun hHeld => ?_)
      clear hK K
      refine norm_ (a' := ?_) ?_ ?_
      rotate_left
      ·show Act.put _ (some 21) _ = _
       simp only [Act.put, List.setIfInBounds_toArray, List.set_cons_zero, List.set_cons_succ, i64_w, i32_w]
       rfl
      refine last_ (i := 7) (N := none) #[Tt, Tt, Tt, Tt, Tt, Tt, Tt, Tt] rfl rfl (one_of HT_.out (by kernel_rfl)) (by decide) (fun K hK => ?_)
      have hs35 : w34.cell? ⟨gb671, 0, none⟩ = some (.bool x672000_1) := (blk_cell BK671.out 0).trans rfl
      have hfs35 := blk_frozen BK671.out 0
      have hns35_0 := NB666_671.out
      have hms35_0 := NB671_666.out
      have hs37 : w34.cell? ⟨gb671, 1, none⟩ = some (.slice Ao32 x672001_1.length co32) := (blk_cell BK671.out 1).trans rfl
      have hfs37 := blk_frozen BK671.out 1
      have hns37_0 := NB666_671.out
      have hms37_0 := NB671_666.out
      refine skip_ (w1 := ?_) (by rfl) rfl ?_ ?_
      rotate_left
      ·go_simp
       rfl
      refine hK.out _ _ ?_
      clear hK K
      refine done_ (done_of HT_.out (by kernel_rfl)) ?_
      have hnb38 := NB671_666.out
      have hnc38 := NB666_671.out
      obtain ⟨hcz39_0, hcz39_1⟩ := cl2 BK671.out
      obtain ⟨hfz39_0, hfz39_1⟩ := fr2 BK671.out
      try go_wp2_with (first | ((with_reducible refine gate_callee (f := 34) rfl ?_); refine goesL_ (some 24) rfl rfl Try.func34 (by kernel_rfl) rfl #[.agg #[.bool t683, .slice Ao36 t684.length co36]] rfl (by (try simp only [List.map_toArray, List.map_cons, List.map_nil]); first | done | rfl | (simp only [List.length_drop, List.length_take]; rfl)) ?_; (with_reducible refine (parquetref01_Num_Wide.calls t683 _ _ t684 t687 t688 t689 t690 t691 false _ ?side1 ?side2 A13.out).mono ?_); (case side1 => refine (Kd.V_reads' (e := 3) (base := w.heap.size) (ok := fun k_ => (k_ ≠ gb666 ∧ k_ ≠ gb671)) (n := t684.length) (c := co36) ?_).2.2; exact (by (with_reducible repeat (first | apply Kd.V_alloc | apply Kd.V_drewN | apply Kd.V_drew)); exact (Kd.V_mono (Kd.V_far (p := ⟨gb671, 1, none⟩) (Kd.V_far (p := ⟨gb671, 0, none⟩) (Kd.V_mono HO686.out (fun k_ hk => (⟨hk, hk.2⟩ : _ ∧ k_ ≠ gb671))) (fun _ hk => hk.2) (.bool t683)) (fun _ hk => hk.2) (.slice Ao36 t684.length co36)) (fun _ h_ => h_.1)))); (case side2 => exact (Kd.V_reads' HO686.out).2.1); rintro e w40 ⟨rfl, hb⟩; refine ⟨_, rfl, ?_⟩; have n0_ := Aside0.mk (Kd.V_below (by (with_reducible repeat (first | apply Kd.V_alloc | apply Kd.V_drewN | apply Kd.V_drew)); exact (Kd.V_mono (Kd.V_far (p := ⟨gb671, 1, none⟩) (Kd.V_far (p := ⟨gb671, 0, none⟩) (Kd.V_mono HO_672001.out (fun k_ hk => (⟨hk, hk.2⟩ : _ ∧ k_ ≠ gb671))) (fun _ hk => hk.2) (.bool t683)) (fun _ hk => hk.2) (.slice Ao36 t684.length co36)) (fun _ h_ => h_.1))) hb); have n1_ := Aside0.mk (Kd.V_below (by (with_reducible repeat (first | apply Kd.V_alloc | apply Kd.V_drewN | apply Kd.V_drew)); exact (Kd.V_mono (Kd.V_far (p := ⟨gb671, 1, none⟩) (Kd.V_far (p := ⟨gb671, 0, none⟩) (Kd.V_mono HO682.out (fun k_ hk => (⟨hk, hk.2⟩ : _ ∧ k_ ≠ gb671))) (fun _ hk => hk.2) (.bool t683)) (fun _ hk => hk.2) (.slice Ao36 t684.length co36)) (fun _ h_ => h_.1))) hb); have n2_ := Aside0.mk (Kd.V_below (by (with_reducible repeat (first | apply Kd.V_alloc | apply Kd.V_drewN | apply Kd.V_drew)); exact (Kd.V_mono (Kd.V_far (p := ⟨gb671, 1, none⟩) (Kd.V_far (p := ⟨gb671, 0, none⟩) (Kd.V_mono HO686.out (fun k_ hk => (⟨hk, hk.2⟩ : _ ∧ k_ ≠ gb671))) (fun _ hk => hk.2) (.bool t683)) (fun _ hk => hk.2) (.slice Ao36 t684.length co36)) (fun _ h_ => h_.1))) hb); have n3_ := Aside0.mk (blk_below (g := gb666) (o := .cells #[.bool x667000_1, .int .u64 x667001_1, .int .u64 x667002_1, .int .u64 x667003_1, .int .u64 x667004_1] 27 (0, 0)) (by repeat (with_reducible first | exact lb BK666.out | refine blk_far ?_ NB666_671.out _ | refine cn ?_ _ | refine cd ?_ | refine ca ?_ _)) hb); have n4_ := Aside0.mk (blk_below (g := gb671) (o := .cells #[.bool t683, .slice Ao36 t684.length co36] 38 (0, 0)) (by (with_reducible repeat (first | refine cn ?_ _ | refine cd ?_ | refine ca ?_ _)); refine blk_put (cs := #[.bool t683, .slice Ao32 x672001_1.length co32]) ?_ 1 _ rfl; (with_reducible repeat (first | refine cn ?_ _ | refine cd ?_ | refine ca ?_ _)); refine blk_put (cs := #[.bool x672000_1, .slice Ao32 x672001_1.length co32]) ?_ 0 _ rfl; (with_reducible repeat (first | refine cn ?_ _ | refine cd ?_ | refine ca ?_ _)); exact BK671.out) hb); have n5_ := Aside0.mk (below_step (by repeat (first | (with_reducible first | exact HB.out | apply qa | apply qn | apply qd | refine qs ?_ GE666.out | refine qs ?_ GE671.out) | exact HB.out)) hb); clear HO_672001; clear HO682; clear HO686; clear BK666; clear BK671; clear HB; have HO_672001 := n0_; have HO682 := n1_; have HO686 := n2_; have BK666 := n3_; have BK671 := n4_; have HB := n5_; clear n0_ n1_ n2_ n3_ n4_ n5_; (try clear hb); (try clear hb2); (try clear hk); (try clear hi)) | ((with_reducible refine gate_dst (N := 6) rfl ?_); refine box_event ?hg (N := 6) ?hd (cs := #[.bool false, .int .u64 0, .int .u64 0, .int .u64 0, .int .u64 0]) (t := 27) ?hr ?_; (case hd => rfl); (case hg => rfl); (case hr => first | (go_simp; done) | (go_simp; rfl)); intro gb693 hg w41 hbox hb; have n0_ := Aside0.mk (Kd.V_below (Kd.V_elderB (by (with_reducible repeat (first | apply Kd.V_alloc | apply Kd.V_drewN | apply Kd.V_drew)); exact HO_672001.out) gb693 (Nat.le_of_eq hg.symm)) hb); have n1_ := Aside0.mk (Kd.V_below (Kd.V_elderB (by (with_reducible repeat (first | apply Kd.V_alloc | apply Kd.V_drewN | apply Kd.V_drew)); exact HO682.out) gb693 (Nat.le_of_eq hg.symm)) hb); have n2_ := Aside0.mk (Kd.V_below (Kd.V_elderB (by (with_reducible repeat (first | apply Kd.V_alloc | apply Kd.V_drewN | apply Kd.V_drew)); exact HO686.out) gb693 (Nat.le_of_eq hg.symm)) hb); have n3_ := bb BK666 hb; have n4_ := bb BK671 hb; have n5_ := Aside0.mk (below_step (by repeat (first | (with_reducible first | exact HB.out | apply qa | apply qn | apply qd | refine qs ?_ GE666.out | refine qs ?_ GE671.out) | exact HB.out)) hb); have n6_ := Aside0.mk (hbox); have n7_ := bgw HB hg; have n8_ := bgw HB hg; have n9_ := bnl BK666 hg; have n10_ := bng BK666 hg; have n11_ := bnl BK671 hg; have n12_ := bng BK671 hg; clear HO_672001; clear HO682; clear HO686; clear BK666; clear BK671; clear HB; have HO_672001 := n0_; have HO682 := n1_; have HO686 := n2_; have BK666 := n3_; have BK671 := n4_; have HB := n5_; have BK693 := n6_; have GW693 := n7_; have GE693 := n8_; have NB666_693 := n9_; have NB693_666 := n10_; have NB671_693 := n11_; have NB693_671 := n12_; clear n0_ n1_ n2_ n3_ n4_ n5_ n6_ n7_ n8_ n9_ n10_ n11_ n12_; clear hb hbox hg; have hnb42 := NB693_666.out; have hnc42 := NB666_693.out; have hnb43 := NB693_671.out; have hnc43 := NB671_693.out; obtain ⟨hcz44_0, hcz44_1, hcz44_2, hcz44_3, hcz44_4⟩ := cl5 BK693.out; obtain ⟨hfz44_0, hfz44_1, hfz44_2, hfz44_3, hfz44_4⟩ := fr5 BK693.out; obtain ⟨hcz45_0, hcz45_1, hcz45_2, hcz45_3, hcz45_4⟩ := cl5 BK666.out; obtain ⟨hfz45_0, hfz45_1, hfz45_2, hfz45_3, hfz45_4⟩ := fr5 BK666.out))
      refine bodyPost_ret (results_ct rfl _ _ gb666 27 #[.bool false, .int .u64 0, .int .u64 0, .int .u64 0, .int .u64 0] (0, 0) _ rfl (by (with_reducible repeat (first | refine cn ?_ _ | refine cd ?_ | refine ca ?_ _)); refine blk_put (cs := #[.bool false, .int .u64 0, .int .u64 0, .int .u64 0, .int .u64 x667004_1]) ?_ 4 _ rfl; (with_reducible repeat (first | refine cn ?_ _ | refine cd ?_ | refine ca ?_ _)); refine blk_put (cs := #[.bool false, .int .u64 0, .int .u64 0, .int .u64 x667003_1, .int .u64 x667004_1]) ?_ 3 _ rfl; (with_reducible repeat (first | refine cn ?_ _ | refine cd ?_ | refine ca ?_ _)); refine blk_put (cs := #[.bool false, .int .u64 0, .int .u64 x667002_1, .int .u64 x667003_1, .int .u64 x667004_1]) ?_ 2 _ rfl; (with_reducible repeat (first | refine cn ?_ _ | refine cd ?_ | refine ca ?_ _)); refine blk_put (cs := #[.bool false, .int .u64 x667001_1, .int .u64 x667002_1, .int .u64 x667003_1, .int .u64 x667004_1]) ?_ 1 _ rfl; (with_reducible repeat (first | refine cn ?_ _ | refine cd ?_ | refine ca ?_ _)); refine blk_put (cs := #[.bool x667000_1, .int .u64 x667001_1, .int .u64 x667002_1, .int .u64 x667003_1, .int .u64 x667004_1]) ?_ 0 _ rfl; (with_reducible repeat (first | refine cn ?_ _ | refine cd ?_ | refine ca ?_ _)); refine blk_far ?_ NB666_693.out _; (with_reducible repeat (first | refine cn ?_ _ | refine cd ?_ | refine ca ?_ _)); refine blk_far ?_ NB666_693.out _; (with_reducible repeat (first | refine cn ?_ _ | refine cd ?_ | refine ca ?_ _)); refine blk_far ?_ NB666_693.out _; (with_reducible repeat (first | refine cn ?_ _ | refine cd ?_ | refine ca ?_ _)); refine blk_far ?_ NB666_693.out _; (with_reducible repeat (first | refine cn ?_ _ | refine cd ?_ | refine ca ?_ _)); refine blk_far ?_ NB666_693.out _; (with_reducible repeat (first | refine cn ?_ _ | refine cd ?_ | refine ca ?_ _)); exact BK666.out) Try.underlying27 rfl (by kernel_rfl)) rfl ?_
      exact ⟨by first | rfl | (simp [errW_none, errW_some] <;> rfl) | (simp [*, errW_none, errW_some] <;> rfl), by repeat (first | (with_reducible first | exact HB.out | apply qa | apply qn | apply qd | refine qs ?_ GE666.out | refine qs ?_ GE671.out | refine qs ?_ GE693.out) | exact HB.out)⟩
    ·rw [if_neg c10] at H
     exact absurd H (by simp)
   ·rw [if_neg c9] at H
    have c9b0 : decide (x5_1 < (l0.length : Int)) = false := decide_eq_false c9
    clear c9
    replace H := Option.bind_eq_some_iff.mp H
    obtain ⟨⟨t672, t673, t674, t675, t676, t677⟩, A460, H⟩ := H
    replace H : (some (t672, t673, t674, t675, t676, t677)) = some (r1, r2, r3, r4, r5, r6) := H
    have A46 := Aside0.mk A460
    clear A460
    simp only [Option.some.injEq, Prod.mk.injEq] at H
    obtain ⟨rfl, rfl, rfl, rfl, rfl, rfl⟩ := H
    have hnb47 := NB671_666.out
    have hnc47 := NB666_671.out
    obtain ⟨hcz48_0, hcz48_1⟩ := cl2 BK671.out
    obtain ⟨hfz48_0, hfz48_1⟩ := fr2 BK671.out
    obtain ⟨Ao49, co49, eo49⟩ := Kd.V_slice HO_672001.out
    subst eo49
    go_wp2_with (first | ((with_reducible refine gate_callee (f := 68) rfl ?_); refine goesL_ (some 31) rfl rfl Try.func68 (by kernel_rfl) rfl #[.agg #[.bool x672000_1, .slice Ao49 x672001_1.length co49]] rfl (by (try simp only [List.map_toArray, List.map_cons, List.map_nil]); first | done | rfl | (simp only [List.length_drop, List.length_take]; rfl)) ?_; (with_reducible refine (parquetref01_told.calls x672000_1 _ _ x672001_1 t672 t673 t674 t675 t676 t677 _ ?side1 ?side2 A46.out).mono ?_); (case side1 => repeat (first | exact (Kd.V_reads' HO_672001.out).2.2 | (with_reducible refine Kd.C_alloc ?_ _) | (with_reducible refine Kd.C_drewN ?_ _) | (with_reducible refine Kd.C_drew ?_))); (case side2 => exact (Kd.V_reads' HO_672001.out).2.1); rintro e w50 ⟨rfl, hb⟩; refine ⟨_, rfl, ?_⟩; have n0_ := Aside0.mk (Kd.V_below (by (with_reducible repeat (first | apply Kd.V_alloc | apply Kd.V_drewN | apply Kd.V_drew)); exact HO_672001.out) hb); have n1_ := bb BK666 hb; have n2_ := bb BK671 hb; have n3_ := Aside0.mk (below_step (by repeat (first | (with_reducible first | exact HB.out | apply qa | apply qn | apply qd | refine qs ?_ GE666.out | refine qs ?_ GE671.out) | exact HB.out)) hb); clear HO_672001; clear BK666; clear BK671; clear HB; have HO_672001 := n0_; have BK666 := n1_; have BK671 := n2_; have HB := n3_; clear n0_ n1_ n2_ n3_; (try clear hb); (try clear hb2); (try clear hk); (try clear hi); obtain ⟨hcz51_0, hcz51_1, hcz51_2, hcz51_3, hcz51_4⟩ := cl5 BK666.out; obtain ⟨hfz51_0, hfz51_1, hfz51_2, hfz51_3, hfz51_4⟩ := fr5 BK666.out))
    refine bodyPost_ret (results_ct rfl _ _ gb666 27 #[.bool t672, .int .u64 t673, .int .u64 t674, .int .u64 t675, .int .u64 t676] (0, 0) _ rfl (by (with_reducible repeat (first | refine cn ?_ _ | refine cd ?_ | refine ca ?_ _)); exact bp5 (lb BK666.out)) Try.underlying27 rfl (by kernel_rfl)) rfl ?_
    exact ⟨by first | rfl | (simp [errW_none, errW_some] <;> rfl) | (simp [*, errW_none, errW_some] <;> rfl), by repeat (first | (with_reducible first | exact HB.out | apply qa | apply qn | apply qd | refine qs ?_ GE666.out | refine qs ?_ GE671.out) | exact HB.out)⟩
end Go.Proofs.Ytmpbbodafenonaa.MT

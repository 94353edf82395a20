/- A function of the given program told as a Lean function, its contract proved; no condition. -/
import Derived.Test.YtmpbbodafenonaaMT0
import Derived.Test.YtmpbbodafenonaaMT18
import Derived.Test.YtmpbbodafenonaaMT30
namespace Go.Proofs.Ytmpbbodafenonaa.MT
open Go.RowKit Go.Proofs.YtmpbbodafenonaaW.PrintWords Go.Proofs.YtmpbbodafenonaaW.PrintLast Go.Proofs.YtmpbbodafenonaaW.PrintMore
attribute [local go_sem] max2_int min2_int max_two min_two max_three min_three max_four min_four   -- for this text's walks alone
set_option linter.unusedVariables false
set_option linter.unusedSimpArgs false
/-! ### wide_Sub: function 37 -/
def wide_Sub.f (k : Nat) (a0_0 : Bool) (a0_1 : Int) (a0_2 : Int) (a0_3 : Int) (a0_4 : Int) (a1_0 : Bool) (a1_1 : Int) (a1_2 : Int) (a1_3 : Int) (a1_4 : Int) : Option (Bool × Int × Int × Int × Int × Int) := (wide_Neg.f a1_0 a1_1 a1_2 a1_3 a1_4).bind fun bt602 => ((wide_Add.f k (([(⟨a0_0, (⟨a0_1, a0_2, a0_3, a0_4⟩ : S25)⟩ : S27), (⟨bt602.1, (⟨bt602.2.1, bt602.2.2.1, bt602.2.2.2.1, bt602.2.2.2.2⟩ : S25)⟩ : S27)] : List (S27)))).bind fun bt610 => (some (bt610.1, bt610.2.1, bt610.2.2.1, bt610.2.2.2.1, bt610.2.2.2.2.1, bt610.2.2.2.2.2)))
theorem wide_Sub.mono : ∀ a0 a1 a2 a3 a4 a5 a6 a7 a8 a9 k, LeO (wide_Sub.f k a0 a1 a2 a3 a4 a5 a6 a7 a8 a9) (wide_Sub.f (k + 1) a0 a1 a2 a3 a4 a5 a6 a7 a8 a9) := by
 intro a0 a1 a2 a3 a4 a5 a6 a7 a8 a9 k
 unfold wide_Sub.f
 repeat' first
   | (with_reducible exact wide_Add.mono _ _)
   | (with_reducible exact LeO.refl _)
   | (with_reducible exact LeO.none _)
   | (with_reducible refine LeO.ite ?_ ?_)
   | (with_reducible refine LeO.bind ?_ (fun _ => ?_))
   | exact wide_Add.mono _ _
   | exact LeO.none _
   | refine LeO.ite ?_ ?_
   | refine LeO.bind ?_ (fun _ => ?_)
def wide_Sub.T1 : Bool × List (List Nat × List Nat) := (true, [([], []), ([], []), ([1], [1]), ([0, 2], [0, 2]), ([3, 2], [3]), ([4], [4]), ([4], [4]), ([5, 4, 0, 1, 2, 3, 4, 5, 6], [5]), ([6, 7, 0, 1, 2, 3, 4, 5, 6, 7], [6])])
def wide_Sub.B1 : List Nat := [0, 0, 2, 7, 15, 31, 31, 127, 255]
theorem wide_Sub.tab1 : rtab .any (opsOf Try.f37 1) = wide_Sub.T1 := by kernel_rfl
theorem wide_Sub.bits1 : waitsOk wide_Sub.T1.2 wide_Sub.B1 = true := by kernel_rfl
set_option maxHeartbeats 8000000 in
set_option maxRecDepth 100000 in
theorem wide_Sub.calls (k : Nat) (a0_0 : Bool) (a0_1 : Int) (a0_2 : Int) (a0_3 : Int) (a0_4 : Int) (a1_0 : Bool) (a1_1 : Int) (a1_2 : Int) (a1_3 : Int) (a1_4 : Int) (r1 : Bool) (r2 : Int) (r3 : Int) (r4 : Int) (r5 : Int) (r6 : Int) (w : World) (h : wide_Sub.f k a0_0 a0_1 a0_2 a0_3 a0_4 a1_0 a1_1 a1_2 a1_3 a1_4 = some (r1, r2, r3, r4, r5, r6)) :
  Calls Try.prog 37 #[.agg #[.bool a0_0, .int .u64 a0_1, .int .u64 a0_2, .int .u64 a0_3, .int .u64 a0_4], .agg #[.bool a1_0, .int .u64 a1_1, .int .u64 a1_2, .int .u64 a1_3, .int .u64 a1_4]] w fun e w' => e = .returned (.tuple #[.agg #[.bool r1, .int .u64 r2, .int .u64 r3, .int .u64 r4, .int .u64 r5], .int .i64 r6]) ∧ Below w.heap.size w w' := by
 have hu27 := Try.underlying27
 have HB := Aside0.mk (Below.refl w.heap.size w)
 have H : ((wide_Neg.f a1_0 a1_1 a1_2 a1_3 a1_4).bind fun bt602 => ((wide_Add.f k (([(⟨a0_0, (⟨a0_1, a0_2, a0_3, a0_4⟩ : S25)⟩ : S27), (⟨bt602.1, (⟨bt602.2.1, bt602.2.2.1, bt602.2.2.2.1, bt602.2.2.2.2⟩ : S25)⟩ : S27)] : List (S27)))).bind fun bt610 => (some (bt610.1, bt610.2.1, bt610.2.2.1, bt610.2.2.2.1, bt610.2.2.2.2.1, bt610.2.2.2.2.2)))) = some (r1, r2, r3, r4, r5, r6) := h
 clear h
 replace H := Option.bind_eq_some_iff.mp H
 obtain ⟨⟨t602, t603, t604, t605, t606⟩, A30, H⟩ := H
 replace H : ((wide_Add.f k (([(⟨a0_0, (⟨a0_1, a0_2, a0_3, a0_4⟩ : S25)⟩ : S27), (⟨t602, (⟨t603, t604, t605, t606⟩ : S25)⟩ : S27)] : List (S27)))).bind fun bt610 => (some (bt610.1, bt610.2.1, bt610.2.2.1, bt610.2.2.2.1, bt610.2.2.2.2.1, bt610.2.2.2.2.2))) = some (r1, r2, r3, r4, r5, r6) := H
 have A3 := Aside0.mk A30
 clear A30
 obtain ⟨y607, hy607⟩ : ∃ y_ : List (S27), y_ = (([(⟨a0_0, (⟨a0_1, a0_2, a0_3, a0_4⟩ : S25)⟩ : S27), (⟨t602, (⟨t603, t604, t605, t606⟩ : S25)⟩ : S27)] : List (S27))) := ⟨_, rfl⟩
 replace H : ((wide_Add.f k y607).bind fun bt610 => (some (bt610.1, bt610.2.1, bt610.2.2.1, bt610.2.2.2.1, bt610.2.2.2.2.1, bt610.2.2.2.2.2))) = some (r1, r2, r3, r4, r5, r6) := by first | (rw [hy607]; with_reducible exact H) | (have H2_ := (Option.bind_some _ _).symm.trans H; rw [hy607]; with_reducible exact H2_) | (have H2_ := (Option.bind_some _ _).symm.trans H; with_reducible exact H2_) | with_reducible exact H | (rw [hy607]; exact H) | exact H
 have Ny607 := Aside0.mk hy607
 clear hy607
 replace H := Option.bind_eq_some_iff.mp H
 obtain ⟨⟨t610, t611, t612, t613, t614, t615⟩, A40, H⟩ := H
 replace H : (some (t610, t611, t612, t613, t614, t615)) = some (r1, r2, r3, r4, r5, r6) := H
 have A4 := Aside0.mk A40
 clear A40
 simp only [Option.some.injEq, Prod.mk.injEq] at H
 obtain ⟨rfl, rfl, rfl, rfl, rfl, rfl⟩ := H
 go_enter Try.func37, Try.ntmps37
 try go_wp2_with (first | ((with_reducible refine gate_dst (N := 2) rfl ?_); refine box_event ?hg (N := 2) ?hd (cs := #[.bool a0_0, .int .u64 a0_1, .int .u64 a0_2, .int .u64 a0_3, .int .u64 a0_4]) (t := 27) ?hr ?_; (case hd => rfl); (case hg => rfl); (case hr => first | (go_simp; done) | (go_simp; rfl)); intro gb599 hg w5 hbox hb; have n0_ := Aside0.mk (below_step (by repeat (first | (with_reducible first | exact HB.out | apply qa | apply qn | apply qd) | exact HB.out)) hb); have n1_ := Aside0.mk (hbox); have n2_ := bgw HB hg; have n3_ := bgw HB hg; clear HB; have HB := n0_; have BK599 := n1_; have GW599 := n2_; have GE599 := n3_; clear n0_ n1_ n2_ n3_; clear hb hbox hg) | ((with_reducible refine gate_dst (N := 3) rfl ?_); refine box_event ?hg (N := 3) ?hd (cs := #[.bool a1_0, .int .u64 a1_1, .int .u64 a1_2, .int .u64 a1_3, .int .u64 a1_4]) (t := 27) ?hr ?_; (case hd => rfl); (case hg => rfl); (case hr => first | (go_simp; done) | (go_simp; rfl)); intro gb600 hg w6 hbox hb; have n0_ := bb BK599 hb; have n1_ := Aside0.mk (below_step (by repeat (first | (with_reducible first | exact HB.out | apply qa | apply qn | apply qd | refine qs ?_ GE599.out) | exact HB.out)) hb); have n2_ := Aside0.mk (hbox); have n3_ := bgw HB hg; have n4_ := bgw HB hg; have n5_ := bnl BK599 hg; have n6_ := bng BK599 hg; clear BK599; clear HB; have BK599 := n0_; have HB := n1_; have BK600 := n2_; have GW600 := n3_; have GE600 := n4_; have NB599_600 := n5_; have NB600_599 := n6_; clear n0_ n1_ n2_ n3_ n4_ n5_ n6_; clear hb hbox hg) | ((with_reducible refine gate_dst (N := 4) rfl ?_); refine box_event ?hg (N := 4) ?hd (cs := #[.bool false, .int .u64 0, .int .u64 0, .int .u64 0, .int .u64 0]) (t := 27) ?hr ?_; (case hd => rfl); (case hg => rfl); (case hr => first | (go_simp; done) | (go_simp; rfl)); intro gb601 hg w7 hbox hb; have n0_ := bb BK599 hb; have n1_ := bb BK600 hb; have n2_ := Aside0.mk (below_step (by repeat (first | (with_reducible first | exact HB.out | apply qa | apply qn | apply qd | refine qs ?_ GE599.out | refine qs ?_ GE600.out) | exact HB.out)) hb); have n3_ := Aside0.mk (hbox); have n4_ := bgw HB hg; have n5_ := bgw HB hg; have n6_ := bnl BK599 hg; have n7_ := bng BK599 hg; have n8_ := bnl BK600 hg; have n9_ := bng BK600 hg; clear BK599; clear BK600; clear HB; have BK599 := n0_; have BK600 := n1_; have HB := n2_; have BK601 := n3_; have GW601 := n4_; have GE601 := n5_; have NB599_601 := n6_; have NB601_599 := n7_; have NB600_601 := n8_; have NB601_600 := n9_; clear n0_ n1_ n2_ n3_ n4_ n5_ n6_ n7_ n8_ n9_; clear hb hbox hg))
 have n0_ := Aside0.mk (blk_drew BK599.out)
 have n1_ := Aside0.mk (blk_drew BK600.out)
 have n2_ := Aside0.mk (blk_drew BK601.out)
 have n3_ := Aside0.mk (below_drew1 HB.out)
 clear BK599
 clear BK600
 clear BK601
 clear HB
 have BK599 := n0_
 have BK600 := n1_
 have BK601 := n2_
 have HB := n3_
 clear n0_ n1_ n2_ n3_
 refine start_ (n := 9) (S := fun w' => w'.cell? ⟨gb599, 0, none⟩ = some (.bool a0_0) ∧ w'.cell? ⟨gb599, 1, none⟩ = some (.int .u64 a0_1) ∧ w'.cell? ⟨gb599, 2, none⟩ = some (.int .u64 a0_2) ∧ w'.cell? ⟨gb599, 3, none⟩ = some (.int .u64 a0_3) ∧ w'.cell? ⟨gb599, 4, none⟩ = some (.int .u64 a0_4) ∧ w'.cell? ⟨gb600, 0, none⟩ = some (.bool a1_0) ∧ w'.cell? ⟨gb600, 1, none⟩ = some (.int .u64 a1_1) ∧ w'.cell? ⟨gb600, 2, none⟩ = some (.int .u64 a1_2) ∧ w'.cell? ⟨gb600, 3, none⟩ = some (.int .u64 a1_3) ∧ w'.cell? ⟨gb600, 4, none⟩ = some (.int .u64 a1_4)) (ds := []) #[Ff, Ff, Ff, Ff, Ff, Ff, Ff, Ff, Ff] (by kernel_rfl) rfl rfl ⟨(blk_cell BK599.out 0).trans rfl, (blk_cell BK599.out 1).trans rfl, (blk_cell BK599.out 2).trans rfl, (blk_cell BK599.out 3).trans rfl, (blk_cell BK599.out 4).trans rfl, (blk_cell BK600.out 0).trans rfl, (blk_cell BK600.out 1).trans rfl, (blk_cell BK600.out 2).trans rfl, (blk_cell BK600.out 3).trans rfl, (blk_cell BK600.out 4).trans rfl⟩ (fun hHeld => ?_); refine with_tabW wide_Sub.tab1 wide_Sub.bits1 (fun HT_ HW_ => ?_)
 generalize w7.drew = w8 at BK599 BK600 BK601 HB hHeld ⊢
 refine take_ (i := 0) (N := some 6) (v := ?_) (a' := ?_) #[Tt, Ff, Ff, Ff, Ff, Ff, Ff, Ff, Ff] rfl rfl (take_ofW HT_.out HW_.out (by kernel_rfl)) (fun _ _ _ h => h) (Or.inl ⟨by rfl, ?_⟩) hHeld ?_ ?_
 rotate_left
 ·rintro w' ⟨s0, s1, s2, s3, s4, s5, s6, s7, s8, s9⟩
  go_simp
  with_reducible rfl
 rotate_left
 ·simp only [Act.put, List.setIfInBounds_toArray, List.set_cons_zero, List.set_cons_succ, i64_w, i32_w]
  rfl
 refine take_ (i := 1) (N := some 7) (v := ?_) (a' := ?_) #[Tt, Tt, Ff, Ff, Ff, Ff, Ff, Ff, Ff] rfl rfl (take_ofW HT_.out HW_.out (by kernel_rfl)) (fun _ _ _ h => h) (Or.inl ⟨by rfl, ?_⟩) hHeld ?_ ?_
 rotate_left
 ·rintro w' ⟨s0, s1, s2, s3, s4, s5, s6, s7, s8, s9⟩
  go_simp
  with_reducible rfl
 rotate_left
 ·simp only [Act.put, List.setIfInBounds_toArray, List.set_cons_zero, List.set_cons_succ, i64_w, i32_w]
  rfl
 refine one_ (i := 2) (N := some 8) #[Tt, Tt, Tt, Ff, Ff, Ff, Ff, Ff, Ff] rfl rfl (one_of HT_.out (by kernel_rfl)) (by decide) (fun K hK => ?_)
 refine goes_ Try.func39 (by kernel_rfl) rfl #[.agg #[.bool a1_0, .int .u64 a1_1, .int .u64 a1_2, .int .u64 a1_3, .int .u64 a1_4]] (by rfl) rfl rfl (by (try simp only [List.map_toArray, List.map_cons, List.map_nil]); first | done | rfl | (simp only [List.length_drop, List.length_take]; rfl)) ?_
 with_reducible refine (wide_Neg.calls a1_0 a1_1 a1_2 a1_3 a1_4 t602 t603 t604 t605 t606 _ A3.out).mono ?_
 rintro e w9 ⟨rfl, hb⟩
 refine ⟨_, rfl, ?_⟩
 have n0_ := bb BK599 hb
 have n1_ := bb BK600 hb
 have n2_ := bb BK601 hb
 have n3_ := Aside0.mk (below_step (by repeat (first | (with_reducible first | exact HB.out | apply qa | apply qn | apply qd | refine qs ?_ GE599.out | refine qs ?_ GE600.out | refine qs ?_ GE601.out) | exact HB.out)) hb)
 clear BK599
 clear BK600
 clear BK601
 clear HB
 have BK599 := n0_
 have BK600 := n1_
 have BK601 := n2_
 have HB := n3_
 clear n0_ n1_ n2_ n3_
 (try clear hb)
 (try clear hb2)
 (try clear hk)
 (try clear hi)
 refine hK.out _ _ ⟨(blk_cell BK599.out 0).trans rfl, (blk_cell BK599.out 1).trans rfl, (blk_cell BK599.out 2).trans rfl, (blk_cell BK599.out 3).trans rfl, (blk_cell BK599.out 4).trans rfl, (blk_cell BK600.out 0).trans rfl, (blk_cell BK600.out 1).trans rfl, (blk_cell BK600.out 2).trans rfl, (blk_cell BK600.out 3).trans rfl, (blk_cell BK600.out 4).trans rfl⟩ (fun hHeld => ?_)
 clear hK K
 refine norm_ (a' := ?_) ?_ ?_
 rotate_left
 ·show Act.put _ (some 8) _ = _
  simp only [Act.put, List.setIfInBounds_toArray, List.set_cons_zero, List.set_cons_succ, i64_w, i32_w]
  rfl
 refine one_ (i := 3) (N := some 9) #[Tt, Tt, Tt, Tt, Ff, Ff, Ff, Ff, Ff] rfl rfl (one_of HT_.out (by kernel_rfl)) (by decide) (fun K hK => ?_)
 refine Kd.R_lit_step k27 _ 27 ?hg (N := 9) ?hd (xs := ([(⟨a0_0, (⟨a0_1, a0_2, a0_3, a0_4⟩ : S25)⟩ : S27), (⟨t602, (⟨t603, t604, t605, t606⟩ : S25)⟩ : S27)] : List (S27))) (inner := [.bool a0_0, .int .u64 a0_1, .int .u64 a0_2, .int .u64 a0_3, .int .u64 a0_4, .bool t602, .int .u64 t603, .int .u64 t604, .int .u64 t605, .int .u64 t606]) (ok := fun _ => True) (okp := fun _ => True) ?hr ?hp (fun _ hk => hk) trivial (Below.refl _ _) (Nat.le_refl _) (by simp) ?_; (case hd => rfl); (case hg => rfl); (case hr => first | (go_simp; done) | (go_simp; rfl)); (case hp => exact (Reps.c5 (show Kd.M k27 _ _ _ (⟨a0_0, (⟨a0_1, a0_2, a0_3, a0_4⟩ : S25)⟩ : S27) [.bool a0_0, .int .u64 a0_1, .int .u64 a0_2, .int .u64 a0_3, .int .u64 a0_4] from (k27_mkM _ _ _ (⟨a0_0, (⟨a0_1, a0_2, a0_3, a0_4⟩ : S25)⟩ : S27) )) (Reps.c5 (show Kd.M k27 _ _ _ (⟨t602, (⟨t603, t604, t605, t606⟩ : S25)⟩ : S27) [.bool t602, .int .u64 t603, .int .u64 t604, .int .u64 t605, .int .u64 t606] from (k27_mkM _ _ _ (⟨t602, (⟨t603, t604, t605, t606⟩ : S25)⟩ : S27) )) (Reps.none _ _))))
 intro v608 w10 ho11 hb hg_ hnew_
 clear hg_ hnew_
 (first | rw [← Ny607.out] at ho11 | (simp only [Int.reduceToNat] at ho11; rw [← Ny607.out] at ho11))
 have n0_ := Aside0.mk (Kd.R_lower (Kd.R_newB (Kd.R_newB (Kd.R_newB ho11 (g := gb599) (o := .cells #[.bool a0_0, .int .u64 a0_1, .int .u64 a0_2, .int .u64 a0_3, .int .u64 a0_4] 27 (0, 0)) (by exact lb BK599.out)) (g := gb600) (o := .cells #[.bool a1_0, .int .u64 a1_1, .int .u64 a1_2, .int .u64 a1_3, .int .u64 a1_4] 27 (0, 0)) (by exact lb BK600.out)) (g := gb601) (o := .cells #[.bool false, .int .u64 0, .int .u64 0, .int .u64 0, .int .u64 0] 27 (0, 0)) (by exact lb BK601.out)) (below_size (by repeat (first | (with_reducible first | exact HB.out | apply qa | apply qn | apply qd | refine qs ?_ GE599.out | refine qs ?_ GE600.out | refine qs ?_ GE601.out) | exact HB.out))))
 have n1_ := bb BK599 hb
 have n2_ := bb BK600 hb
 have n3_ := bb BK601 hb
 have n4_ := Aside0.mk (below_step (by repeat (first | (with_reducible first | exact HB.out | apply qa | apply qn | apply qd | refine qs ?_ GE599.out | refine qs ?_ GE600.out | refine qs ?_ GE601.out) | exact HB.out)) hb)
 clear BK599
 clear BK600
 clear BK601
 clear HB
 have HO609 := n0_
 have BK599 := n1_
 have BK600 := n2_
 have BK601 := n3_
 have HB := n4_
 clear n0_ n1_ n2_ n3_ n4_
 clear hb ho11
 obtain ⟨Ao12, co12, eo12⟩ := Kd.R_slice HO609.out
 (first | subst eo12 | (injection eo12 with f1_ f2_ f3_; have f4_ := f1_.symm; have f5_ := f3_.symm; clear f1_ f2_ f3_; subst f4_; subst f5_))
 refine hK.out _ _ ⟨(blk_cell BK599.out 0).trans rfl, (blk_cell BK599.out 1).trans rfl, (blk_cell BK599.out 2).trans rfl, (blk_cell BK599.out 3).trans rfl, (blk_cell BK599.out 4).trans rfl, (blk_cell BK600.out 0).trans rfl, (blk_cell BK600.out 1).trans rfl, (blk_cell BK600.out 2).trans rfl, (blk_cell BK600.out 3).trans rfl, (blk_cell BK600.out 4).trans rfl⟩ (fun hHeld => ?_)
 clear hK K
 refine norm_ (a' := ?_) ?_ ?_
 rotate_left
 ·show Act.put _ (some 9) _ = _
  simp only [Act.put, List.setIfInBounds_toArray, List.set_cons_zero, List.set_cons_succ, i64_w, i32_w]
  rfl
 refine one_ (i := 4) (N := some 10) #[Tt, Tt, Tt, Tt, Tt, Ff, Ff, Ff, Ff] rfl rfl (one_of HT_.out (by kernel_rfl)) (by decide) (fun K hK => ?_)
 refine goes_ Try.func35 (by kernel_rfl) rfl #[.slice Ao12 y607.length co12] (by rfl) rfl rfl (by (try simp only [List.map_toArray, List.map_cons, List.map_nil]); first | done | rfl | (simp only [List.length_drop, List.length_take]; rfl)) ?_
 with_reducible refine (wide_Add.calls k _ _ y607 t610 t611 t612 t613 t614 t615 _ ?side1 ?side2 A4.out).mono ?_
 (case side1 => repeat (first | exact (Kd.R_reads' HO609.out).2.2 | (with_reducible refine Kd.C_alloc ?_ _) | (with_reducible refine Kd.C_drewN ?_ _) | (with_reducible refine Kd.C_drew ?_)))
 (case side2 => exact (Kd.R_reads' HO609.out).2.1)
 rintro e w13 ⟨rfl, hb⟩
 refine ⟨_, rfl, ?_⟩
 have n0_ := Aside0.mk (Kd.R_below (by (with_reducible repeat (first | apply Kd.R_alloc | apply Kd.R_drewN | apply Kd.R_drew)); exact HO609.out) hb)
 have n1_ := bb BK599 hb
 have n2_ := bb BK600 hb
 have n3_ := bb BK601 hb
 have n4_ := Aside0.mk (below_step (by repeat (first | (with_reducible first | exact HB.out | apply qa | apply qn | apply qd | refine qs ?_ GE599.out | refine qs ?_ GE600.out | refine qs ?_ GE601.out) | exact HB.out)) hb)
 clear HO609
 clear BK599
 clear BK600
 clear BK601
 clear HB
 have HO609 := n0_
 have BK599 := n1_
 have BK600 := n2_
 have BK601 := n3_
 have HB := n4_
 clear n0_ n1_ n2_ n3_ n4_
 (try clear hb)
 (try clear hb2)
 (try clear hk)
 (try clear hi)
 refine hK.out _ _ ⟨(blk_cell BK599.out 0).trans rfl, (blk_cell BK599.out 1).trans rfl, (blk_cell BK599.out 2).trans rfl, (blk_cell BK599.out 3).trans rfl, (blk_cell BK599.out 4).trans rfl, (blk_cell BK600.out 0).trans rfl, (blk_cell BK600.out 1).trans rfl, (blk_cell BK600.out 2).trans rfl, (blk_cell BK600.out 3).trans rfl, (blk_cell BK600.out 4).trans rfl⟩ (fun hHeld => ?_)
 clear hK K
 refine norm_ (a' := ?_) ?_ ?_
 rotate_left
 ·show Act.put _ (some 10) _ = _
  simp only [Act.put, List.setIfInBounds_toArray, List.set_cons_zero, List.set_cons_succ, i64_w, i32_w]
  rfl
 refine pure_ (i := 5) (N := some 11) (v := ?_) (a' := ?_) #[Tt, Tt, Tt, Tt, Tt, Tt, Ff, Ff, Ff] rfl rfl (any_of HT_.out (by kernel_rfl)) (fun _ _ _ h => h) (Or.inl ⟨by rfl, ?_⟩) ?_ ?_
 rotate_left
 ·intro w'
  go_simp
  with_reducible rfl
 rotate_left
 ·simp only [Act.put, List.setIfInBounds_toArray, List.set_cons_zero, List.set_cons_succ, i64_w, i32_w]
  rfl
 refine pure_ (i := 6) (N := some 12) (v := ?_) (a' := ?_) #[Tt, Tt, Tt, Tt, Tt, Tt, Tt, Ff, Ff] rfl rfl (any_of HT_.out (by kernel_rfl)) (fun _ _ _ h => h) (Or.inl ⟨by rfl, ?_⟩) ?_ ?_
 rotate_left
 ·intro w'
  go_simp
  with_reducible rfl
 rotate_left
 ·simp only [Act.put, List.setIfInBounds_toArray, List.set_cons_zero, List.set_cons_succ, i64_w, i32_w]
  rfl
 refine one_ (i := 7) (N := none) #[Tt, Tt, Tt, Tt, Tt, Tt, Tt, Tt, Ff] rfl rfl (one_of HT_.out (by kernel_rfl)) (by decide) (fun K hK => ?_)
 have hs14 : w13.cell? ⟨gb601, 0, none⟩ = some (.bool false) := (blk_cell BK601.out 0).trans rfl
 have hfs14 := blk_frozen BK601.out 0
 have hns14_0 := NB599_601.out
 have hns14_1 := NB600_601.out
 have hms14_0 := NB601_599.out
 have hms14_1 := NB601_600.out
 have hs15 : w13.cell? ⟨gb601, 1, none⟩ = some (.int .u64 0) := (blk_cell BK601.out 1).trans rfl
 have hfs15 := blk_frozen BK601.out 1
 have hns15_0 := NB599_601.out
 have hns15_1 := NB600_601.out
 have hms15_0 := NB601_599.out
 have hms15_1 := NB601_600.out
 have hs16 : w13.cell? ⟨gb601, 2, none⟩ = some (.int .u64 0) := (blk_cell BK601.out 2).trans rfl
 have hfs16 := blk_frozen BK601.out 2
 have hns16_0 := NB599_601.out
 have hns16_1 := NB600_601.out
 have hms16_0 := NB601_599.out
 have hms16_1 := NB601_600.out
 have hs17 : w13.cell? ⟨gb601, 3, none⟩ = some (.int .u64 0) := (blk_cell BK601.out 3).trans rfl
 have hfs17 := blk_frozen BK601.out 3
 have hns17_0 := NB599_601.out
 have hns17_1 := NB600_601.out
 have hms17_0 := NB601_599.out
 have hms17_1 := NB601_600.out
 have hs18 : w13.cell? ⟨gb601, 4, none⟩ = some (.int .u64 0) := (blk_cell BK601.out 4).trans rfl
 have hfs18 := blk_frozen BK601.out 4
 have hns18_0 := NB599_601.out
 have hns18_1 := NB600_601.out
 have hms18_0 := NB601_599.out
 have hms18_1 := NB601_600.out
 refine skip_ (w1 := ?_) (by rfl) rfl ?_ ?_
 rotate_left
 ·go_simp
  rfl
 refine hK.out _ _ ⟨(cf5 NB599_601.out hHeld.1), (cf5 NB599_601.out hHeld.2.1), (cf5 NB599_601.out hHeld.2.2.1), (cf5 NB599_601.out hHeld.2.2.2.1), (cf5 NB599_601.out hHeld.2.2.2.2.1), (cf5 NB600_601.out hHeld.2.2.2.2.2.1), (cf5 NB600_601.out hHeld.2.2.2.2.2.2.1), (cf5 NB600_601.out hHeld.2.2.2.2.2.2.2.1), (cf5 NB600_601.out hHeld.2.2.2.2.2.2.2.2.1), (cf5 NB600_601.out hHeld.2.2.2.2.2.2.2.2.2)⟩ (fun hHeld => ?_)
 clear hK K
 refine pure_ (i := 8) (N := some 5) (v := ?_) (a' := ?_) #[Tt, Tt, Tt, Tt, Tt, Tt, Tt, Tt, Tt] rfl rfl (any_of HT_.out (by kernel_rfl)) (fun _ _ _ h => h) (Or.inl ⟨by rfl, ?_⟩) ?_ ?_
 rotate_left
 ·intro w'
  go_simp
  with_reducible rfl
 rotate_left
 ·simp only [Act.put, List.setIfInBounds_toArray, List.set_cons_zero, List.set_cons_succ, i64_w, i32_w]
  rfl
 refine done_ (done_of HT_.out (by kernel_rfl)) ?_
 try go_wp2
 refine bodyPost_ret (results_ct rfl _ _ gb601 27 #[.bool t610, .int .u64 t611, .int .u64 t612, .int .u64 t613, .int .u64 t614] (0, 0) _ rfl (by (with_reducible repeat (first | refine cn ?_ _ | refine cd ?_ | refine ca ?_ _)); exact bp5 (lb BK601.out)) Try.underlying27 rfl (by kernel_rfl)) rfl ?_
 exact ⟨by first | rfl | (simp [errW_none, errW_some] <;> rfl) | (simp [*, errW_none, errW_some] <;> rfl), by repeat (first | (with_reducible first | exact HB.out | apply qa | apply qn | apply qd | refine qs ?_ GE599.out | refine qs ?_ GE600.out | refine qs ?_ GE601.out) | exact HB.out)⟩
end Go.Proofs.Ytmpbbodafenonaa.MT

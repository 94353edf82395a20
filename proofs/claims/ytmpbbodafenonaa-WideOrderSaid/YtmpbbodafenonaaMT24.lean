/- A function of the given program told as a Lean function, its contract proved; no condition. -/
import Derived.Test.YtmpbbodafenonaaMT0
import Derived.Test.YtmpbbodafenonaaMT20
import Derived.Test.YtmpbbodafenonaaMT23
namespace Go.Proofs.Ytmpbbodafenonaa.MT
open Go.RowKit Go.Proofs.YtmpbbodafenonaaW.PrintWords Go.Proofs.YtmpbbodafenonaaW.PrintLast Go.Proofs.YtmpbbodafenonaaW.PrintMore
attribute [local go_sem] max2_int min2_int max_two min_two max_three min_three max_four min_four   -- for this text's walks alone
set_option linter.unusedVariables false
set_option linter.unusedSimpArgs false
/-! ### wide_Cmp: function 40 -/
def wide_Cmp.j0 : Nat → Int → Int → Bool → Bool → Int → Int → Int → Int → Bool → Int → Int → Int → Int → Option (Int)
 | 0, _, _, _, _, _, _, _, _, _, _, _, _, _ => none
 | k + 1, x5, x6, x17, x453000, x453001, x453002, x453003, x453004, x454000, x454001, x454002, x454003, x454004 => if x17 = true then ((cmp_Compare_int.f x5 x6).bind fun t456 => (some t456)) else ((wide_size.f x453001 x453002 x453003 x453004 x454001 x454002 x454003 x454004).bind fun t457 => (some (wrap64 (x5 * t457))))
def wide_Cmp.f (k : Nat) (a0_0 : Bool) (a0_1 : Int) (a0_2 : Int) (a0_3 : Int) (a0_4 : Int) (a1_0 : Bool) (a1_1 : Int) (a1_2 : Int) (a1_3 : Int) (a1_4 : Int) : Option (Int) := (wide_Sign.f a0_0 a0_1 a0_2 a0_3 a0_4).bind fun t454 => ((wide_Sign.f a1_0 a1_1 a1_2 a1_3 a1_4).bind fun t455 => (if t454 = t455 then (wide_Cmp.j0 k t454 t455 (t454 == 0) a0_0 a0_1 a0_2 a0_3 a0_4 a1_0 a1_1 a1_2 a1_3 a1_4) else (wide_Cmp.j0 k t454 t455 true a0_0 a0_1 a0_2 a0_3 a0_4 a1_0 a1_1 a1_2 a1_3 a1_4)))
theorem wide_Cmp.mono_l : ∀ k, (∀ y0 y1 y2 y3 y4 y5 y6 y7 y8 y9 y10 y11 y12, LeO (wide_Cmp.j0 k y0 y1 y2 y3 y4 y5 y6 y7 y8 y9 y10 y11 y12) (wide_Cmp.j0 (k + 1) y0 y1 y2 y3 y4 y5 y6 y7 y8 y9 y10 y11 y12))
 | 0 => fun _ _ _ _ _ _ _ _ _ _ _ _ _ r h => by simp [wide_Cmp.j0] at h
 | k + 1 => by
  have ih0 := wide_Cmp.mono_l k
  ·intro y0 y1 y2 y3 y4 y5 y6 y7 y8 y9 y10 y11 y12
   unfold wide_Cmp.j0
   repeat' first
   | (with_reducible exact ih0 _ _ _ _ _ _ _ _ _ _ _ _ _)
   | (with_reducible exact LeO.refl _)
   | (with_reducible exact LeO.none _)
   | (with_reducible refine LeO.ite ?_ ?_)
   | (with_reducible refine LeO.bind ?_ (fun _ => ?_))
   | exact ih0 _ _ _ _ _ _ _ _ _ _ _ _ _
   | exact LeO.none _
   | refine LeO.ite ?_ ?_
   | refine LeO.bind ?_ (fun _ => ?_)
theorem wide_Cmp.mono : ∀ a0 a1 a2 a3 a4 a5 a6 a7 a8 a9 k, LeO (wide_Cmp.f k a0 a1 a2 a3 a4 a5 a6 a7 a8 a9) (wide_Cmp.f (k + 1) a0 a1 a2 a3 a4 a5 a6 a7 a8 a9) := by
 intro a0 a1 a2 a3 a4 a5 a6 a7 a8 a9 k
 have ih0 := wide_Cmp.mono_l k
 unfold wide_Cmp.f
 repeat' first
   | (with_reducible exact ih0 _ _ _ _ _ _ _ _ _ _ _ _ _)
   | (with_reducible exact LeO.refl _)
   | (with_reducible exact LeO.none _)
   | (with_reducible refine LeO.ite ?_ ?_)
   | (with_reducible refine LeO.bind ?_ (fun _ => ?_))
   | exact ih0 _ _ _ _ _ _ _ _ _ _ _ _ _
   | exact LeO.none _
   | refine LeO.ite ?_ ?_
   | refine LeO.bind ?_ (fun _ => ?_)
set_option maxHeartbeats 8000000 in
set_option maxRecDepth 100000 in
theorem wide_Cmp.calls (k : Nat) (a0_0 : Bool) (a0_1 : Int) (a0_2 : Int) (a0_3 : Int) (a0_4 : Int) (a1_0 : Bool) (a1_1 : Int) (a1_2 : Int) (a1_3 : Int) (a1_4 : Int) (r : Int) (w : World) (h : wide_Cmp.f k a0_0 a0_1 a0_2 a0_3 a0_4 a1_0 a1_1 a1_2 a1_3 a1_4 = some r) :
  Calls Try.prog 40 #[.agg #[.bool a0_0, .int .u64 a0_1, .int .u64 a0_2, .int .u64 a0_3, .int .u64 a0_4], .agg #[.bool a1_0, .int .u64 a1_1, .int .u64 a1_2, .int .u64 a1_3, .int .u64 a1_4]] w fun e w' => e = .returned (.int .i64 r) ∧ Below w.heap.size w w' := by
 have hu27 := Try.underlying27
 have hu25 := Try.underlying25
 have HB := Aside0.mk (Below.refl w.heap.size w)
 have H : ((wide_Sign.f a0_0 a0_1 a0_2 a0_3 a0_4).bind fun t454 => ((wide_Sign.f a1_0 a1_1 a1_2 a1_3 a1_4).bind fun t455 => (if t454 = t455 then (wide_Cmp.j0 k t454 t455 (t454 == 0) a0_0 a0_1 a0_2 a0_3 a0_4 a1_0 a1_1 a1_2 a1_3 a1_4) else (wide_Cmp.j0 k t454 t455 true a0_0 a0_1 a0_2 a0_3 a0_4 a1_0 a1_1 a1_2 a1_3 a1_4)))) = some r := h
 clear h
 replace H := Option.bind_eq_some_iff.mp H
 obtain ⟨t454, A30, H⟩ := H
 replace H : ((wide_Sign.f a1_0 a1_1 a1_2 a1_3 a1_4).bind fun t455 => (if t454 = t455 then (wide_Cmp.j0 k t454 t455 (t454 == 0) a0_0 a0_1 a0_2 a0_3 a0_4 a1_0 a1_1 a1_2 a1_3 a1_4) else (wide_Cmp.j0 k t454 t455 true a0_0 a0_1 a0_2 a0_3 a0_4 a1_0 a1_1 a1_2 a1_3 a1_4))) = some r := H
 have A3 := Aside0.mk A30
 clear A30
 replace H := Option.bind_eq_some_iff.mp H
 obtain ⟨t455, A40, H⟩ := H
 replace H : (if t454 = t455 then (wide_Cmp.j0 k t454 t455 (t454 == 0) a0_0 a0_1 a0_2 a0_3 a0_4 a1_0 a1_1 a1_2 a1_3 a1_4) else (wide_Cmp.j0 k t454 t455 true a0_0 a0_1 a0_2 a0_3 a0_4 a1_0 a1_1 a1_2 a1_3 a1_4)) = some r := H
 have A4 := Aside0.mk A40
 clear A40
 have HC5 := Aside0.mk H
 clear H
 go_enter Try.func40, Try.ntmps40
 try go_wp2_with (first | ((with_reducible refine gate_dst (N := 2) rfl ?_); refine box_event ?hg (N := 2) ?hd (cs := #[.bool a0_0, .int .u64 a0_1, .int .u64 a0_2, .int .u64 a0_3, .int .u64 a0_4]) (t := 27) ?hr ?_; (case hd => rfl); (case hg => rfl); (case hr => first | (go_simp; done) | (go_simp; rfl)); intro gb452 hg w6 hbox hb; have n0_ := Aside0.mk (below_step (by repeat (first | (with_reducible first | exact HB.out | apply qa | apply qn | apply qd) | exact HB.out)) hb); have n1_ := Aside0.mk (hbox); have n2_ := bgw HB hg; have n3_ := bgw HB hg; clear HB; have HB := n0_; have BK452 := n1_; have GW452 := n2_; have GE452 := n3_; clear n0_ n1_ n2_ n3_; clear hb hbox hg) | ((with_reducible refine gate_dst (N := 3) rfl ?_); refine box_event ?hg (N := 3) ?hd (cs := #[.bool a1_0, .int .u64 a1_1, .int .u64 a1_2, .int .u64 a1_3, .int .u64 a1_4]) (t := 27) ?hr ?_; (case hd => rfl); (case hg => rfl); (case hr => first | (go_simp; done) | (go_simp; rfl)); intro gb453 hg w7 hbox hb; have n0_ := bb BK452 hb; have n1_ := Aside0.mk (below_step (by repeat (first | (with_reducible first | exact HB.out | apply qa | apply qn | apply qd | refine qs ?_ GE452.out) | exact HB.out)) hb); have n2_ := Aside0.mk (hbox); have n3_ := bgw HB hg; have n4_ := bgw HB hg; have n5_ := bnl BK452 hg; have n6_ := bng BK452 hg; clear BK452; clear HB; have BK452 := n0_; have HB := n1_; have BK453 := n2_; have GW453 := n3_; have GE453 := n4_; have NB452_453 := n5_; have NB453_452 := n6_; clear n0_ n1_ n2_ n3_ n4_ n5_ n6_; clear hb hbox hg))
 have n0_ := Aside0.mk (blk_drew BK452.out)
 have n1_ := Aside0.mk (blk_drew BK453.out)
 have n2_ := Aside0.mk (below_drew1 HB.out)
 clear BK452
 clear BK453
 clear HB
 have BK452 := n0_
 have BK453 := n1_
 have HB := n2_
 clear n0_ n1_ n2_
 refine start_ (n := 6) (S := fun w' => w'.cell? ⟨gb452, 0, none⟩ = some (.bool a0_0) ∧ w'.cell? ⟨gb452, 1, none⟩ = some (.int .u64 a0_1) ∧ w'.cell? ⟨gb452, 2, none⟩ = some (.int .u64 a0_2) ∧ w'.cell? ⟨gb452, 3, none⟩ = some (.int .u64 a0_3) ∧ w'.cell? ⟨gb452, 4, none⟩ = some (.int .u64 a0_4) ∧ w'.cell? ⟨gb453, 0, none⟩ = some (.bool a1_0) ∧ w'.cell? ⟨gb453, 1, none⟩ = some (.int .u64 a1_1) ∧ w'.cell? ⟨gb453, 2, none⟩ = some (.int .u64 a1_2) ∧ w'.cell? ⟨gb453, 3, none⟩ = some (.int .u64 a1_3) ∧ w'.cell? ⟨gb453, 4, none⟩ = some (.int .u64 a1_4)) (ds := []) #[Ff, Ff, Ff, Ff, Ff, Ff] (by kernel_rfl) rfl rfl ⟨(blk_cell BK452.out 0).trans rfl, (blk_cell BK452.out 1).trans rfl, (blk_cell BK452.out 2).trans rfl, (blk_cell BK452.out 3).trans rfl, (blk_cell BK452.out 4).trans rfl, (blk_cell BK453.out 0).trans rfl, (blk_cell BK453.out 1).trans rfl, (blk_cell BK453.out 2).trans rfl, (blk_cell BK453.out 3).trans rfl, (blk_cell BK453.out 4).trans rfl⟩ (fun hHeld => ?_)
 generalize w7.drew = w8 at BK452 BK453 HB hHeld ⊢
 refine take_ (i := 0) (N := some 7) (v := ?_) (a' := ?_) #[Tt, Ff, Ff, Ff, Ff, Ff] rfl rfl (by kernel_rfl) (fun _ _ _ h => h) (Or.inl ⟨by rfl, ?_⟩) hHeld ?_ ?_
 rotate_left
 ·rintro w' ⟨s0, s1, s2, s3, s4, s5, s6, s7, s8, s9⟩
  go_simp
  with_reducible rfl
 rotate_left
 ·simp only [Act.put, List.setIfInBounds_toArray, List.set_cons_zero, List.set_cons_succ, i64_w, i32_w]
  rfl
 refine take_ (i := 2) (N := some 9) (v := ?_) (a' := ?_) #[Tt, Ff, Tt, Ff, Ff, Ff] rfl rfl (by kernel_rfl) (fun _ _ _ h => h) (Or.inl ⟨by rfl, ?_⟩) hHeld ?_ ?_
 rotate_left
 ·rintro w' ⟨s0, s1, s2, s3, s4, s5, s6, s7, s8, s9⟩
  go_simp
  with_reducible rfl
 rotate_left
 ·simp only [Act.put, List.setIfInBounds_toArray, List.set_cons_zero, List.set_cons_succ, i64_w, i32_w]
  rfl
 refine one_ (i := 1) (N := some 8) #[Tt, Tt, Tt, Ff, Ff, Ff] rfl rfl (by kernel_rfl) (by decide) (fun K hK => ?_)
 refine goes_ Try.func42 (by kernel_rfl) rfl #[.agg #[.bool a0_0, .int .u64 a0_1, .int .u64 a0_2, .int .u64 a0_3, .int .u64 a0_4]] (by rfl) rfl rfl (by (try simp only [List.map_toArray, List.map_cons, List.map_nil]); first | done | rfl | (simp only [List.length_drop, List.length_take]; rfl)) ?_
 with_reducible refine (wide_Sign.calls a0_0 a0_1 a0_2 a0_3 a0_4 t454 _ A3.out).mono ?_
 rintro e w9 ⟨rfl, hb⟩
 refine ⟨_, rfl, ?_⟩
 have n0_ := bb BK452 hb
 have n1_ := bb BK453 hb
 have n2_ := Aside0.mk (below_step (by repeat (first | (with_reducible first | exact HB.out | apply qa | apply qn | apply qd | refine qs ?_ GE452.out | refine qs ?_ GE453.out) | exact HB.out)) hb)
 clear BK452
 clear BK453
 clear HB
 have BK452 := n0_
 have BK453 := n1_
 have HB := n2_
 clear n0_ n1_ n2_
 (try clear hb)
 (try clear hb2)
 (try clear hk)
 (try clear hi)
 refine hK.out _ _ ⟨(blk_cell BK452.out 0).trans rfl, (blk_cell BK452.out 1).trans rfl, (blk_cell BK452.out 2).trans rfl, (blk_cell BK452.out 3).trans rfl, (blk_cell BK452.out 4).trans rfl, (blk_cell BK453.out 0).trans rfl, (blk_cell BK453.out 1).trans rfl, (blk_cell BK453.out 2).trans rfl, (blk_cell BK453.out 3).trans rfl, (blk_cell BK453.out 4).trans rfl⟩ (fun hHeld => ?_)
 clear hK K
 refine norm_ (a' := ?_) ?_ ?_
 rotate_left
 ·show Act.put _ (some 8) _ = _
  simp only [Act.put, List.setIfInBounds_toArray, List.set_cons_zero, List.set_cons_succ, i64_w, i32_w]
  rfl
 refine one_ (i := 3) (N := some 10) #[Tt, Tt, Tt, Tt, Ff, Ff] rfl rfl (by kernel_rfl) (by decide) (fun K hK => ?_)
 refine goes_ Try.func42 (by kernel_rfl) rfl #[.agg #[.bool a1_0, .int .u64 a1_1, .int .u64 a1_2, .int .u64 a1_3, .int .u64 a1_4]] (by rfl) rfl rfl (by (try simp only [List.map_toArray, List.map_cons, List.map_nil]); first | done | rfl | (simp only [List.length_drop, List.length_take]; rfl)) ?_
 with_reducible refine (wide_Sign.calls a1_0 a1_1 a1_2 a1_3 a1_4 t455 _ A4.out).mono ?_
 rintro e w10 ⟨rfl, hb⟩
 refine ⟨_, rfl, ?_⟩
 have n0_ := bb BK452 hb
 have n1_ := bb BK453 hb
 have n2_ := Aside0.mk (below_step (by repeat (first | (with_reducible first | exact HB.out | apply qa | apply qn | apply qd | refine qs ?_ GE452.out | refine qs ?_ GE453.out) | exact HB.out)) hb)
 clear BK452
 clear BK453
 clear HB
 have BK452 := n0_
 have BK453 := n1_
 have HB := n2_
 clear n0_ n1_ n2_
 (try clear hb)
 (try clear hb2)
 (try clear hk)
 (try clear hi)
 refine hK.out _ _ ⟨(blk_cell BK452.out 0).trans rfl, (blk_cell BK452.out 1).trans rfl, (blk_cell BK452.out 2).trans rfl, (blk_cell BK452.out 3).trans rfl, (blk_cell BK452.out 4).trans rfl, (blk_cell BK453.out 0).trans rfl, (blk_cell BK453.out 1).trans rfl, (blk_cell BK453.out 2).trans rfl, (blk_cell BK453.out 3).trans rfl, (blk_cell BK453.out 4).trans rfl⟩ (fun hHeld => ?_)
 clear hK K
 refine norm_ (a' := ?_) ?_ ?_
 rotate_left
 ·show Act.put _ (some 10) _ = _
  simp only [Act.put, List.setIfInBounds_toArray, List.set_cons_zero, List.set_cons_succ, i64_w, i32_w]
  rfl
 refine pure_ (i := 4) (N := some 5) (v := ?_) (a' := ?_) #[Tt, Tt, Tt, Tt, Tt, Ff] rfl rfl (by kernel_rfl) (fun _ _ _ h => h) (Or.inl ⟨by rfl, ?_⟩) ?_ ?_
 rotate_left
 ·intro w'
  go_simp
  with_reducible rfl
 rotate_left
 ·simp only [Act.put, List.setIfInBounds_toArray, List.set_cons_zero, List.set_cons_succ, i64_w, i32_w]
  rfl
 refine pure_ (i := 5) (N := some 6) (v := ?_) (a' := ?_) #[Tt, Tt, Tt, Tt, Tt, Tt] rfl rfl (by kernel_rfl) (fun _ _ _ h => h) (Or.inl ⟨by rfl, ?_⟩) ?_ ?_
 rotate_left
 ·intro w'
  go_simp
  with_reducible rfl
 rotate_left
 ·simp only [Act.put, List.setIfInBounds_toArray, List.set_cons_zero, List.set_cons_succ, i64_w, i32_w]
  rfl
 refine done_ (by kernel_rfl) ?_
 go_upto_region 2 with (fail)
 go_cut [17] (fun v17 wc => ∃ (kq : Nat) (x17_4 : Bool), v17 = .bool x17_4 ∧ Aside0 (wide_Cmp.j0 kq t454 t455 x17_4 a0_0 a0_1 a0_2 a0_3 a0_4 a1_0 a1_1 a1_2 a1_3 a1_4 = some r) ∧ Aside0 (kq ≤ k) ∧ Aside0 (wc.heap[gb452]? = some (.cells #[.bool a0_0, .int .u64 a0_1, .int .u64 a0_2, .int .u64 a0_3, .int .u64 a0_4] 27 (0, 0))) ∧ Aside0 (wc.heap[gb453]? = some (.cells #[.bool a1_0, .int .u64 a1_1, .int .u64 a1_2, .int .u64 a1_3, .int .u64 a1_4] 27 (0, 0))) ∧ Aside0 (Below w.heap.size w wc))
 case first =>
  have H := HC5.out
  clear HC5
  by_cases c11 : t454 = t455
  rotate_left
  ·rw [if_neg c11] at H
   have c11b0 : (t454 == t455) = false := beq_eq_false_iff_ne.mpr c11
   have c11b1 : (t454 != t455) = true := bne_iff_ne.mpr c11
   (first | rw [c11b0] | (simp only [i64_w, i32_w]; rw [c11b0]) | skip)
   have H' := Aside0.mk H
   clear H
   go_wp2
   go_meet
   case rel => exact ⟨_, (true), (by first | rfl | (simp; done) | (simp [*]; done)), H', ⟨by first | omega | exact Nat.le_refl _⟩, ⟨by (with_reducible repeat (first | refine cn ?_ _ | refine cd ?_ | refine ca ?_ _)); exact BK452.out⟩, ⟨by (with_reducible repeat (first | refine cn ?_ _ | refine cd ?_ | refine ca ?_ _)); exact BK453.out⟩, ⟨by repeat (first | (with_reducible first | exact HB.out | apply qa | apply qn | apply qd | refine qs ?_ GE452.out | refine qs ?_ GE453.out) | exact HB.out)⟩⟩
  rw [if_pos c11] at H
  have c11b0 : (t454 == t455) = true := beq_iff_eq.mpr c11
  have c11b1 : (t454 != t455) = false := bne_eq_false_iff_eq.mpr c11
  clear c11
  (first | rw [c11b0] | (simp only [i64_w, i32_w]; rw [c11b0]) | skip)
  have H' := Aside0.mk H
  clear H
  go_wp2
  go_meet
  case rel => exact ⟨_, ((t454 == 0)), (by first | rfl | (simp; done) | (simp [*]; done)), H', ⟨by first | omega | exact Nat.le_refl _⟩, ⟨by (with_reducible repeat (first | refine cn ?_ _ | refine cd ?_ | refine ca ?_ _)); exact BK452.out⟩, ⟨by (with_reducible repeat (first | refine cn ?_ _ | refine cd ?_ | refine ca ?_ _)); exact BK453.out⟩, ⟨by repeat (first | (with_reducible first | exact HB.out | apply qa | apply qn | apply qd | refine qs ?_ GE452.out | refine qs ?_ GE453.out) | exact HB.out)⟩⟩
 case rest =>
  clear HC5
  try clear c1
  try clear p2
  try clear c4
  try clear c11
  try clear c11b0
  try clear c11b1
  obtain ⟨kq, x17_4, rfl, HA, HJ4, BK452, BK453, HB⟩ := hcut
  cases kq with
  | zero => exact absurd HA.out (by simp [wide_Cmp.j0])
  | succ kj4 =>
   have H := HA.out
   clear HA
   simp only [wide_Cmp.j0] at H
   by_cases c12 : x17_4 = true
   ·subst c12
    have H1 : ((cmp_Compare_int.f t454 t455).bind fun t456 => (some t456)) = some r := by rw [if_pos rfl] at H; exact H
    clear H
    have H := H1
    clear H1
    replace H := Option.bind_eq_some_iff.mp H
    obtain ⟨t456, A130, H⟩ := H
    replace H : (some t456) = some r := H
    have A13 := Aside0.mk A130
    clear A130
    obtain rfl := Option.some.inj H
    go_wp2_with (first | ((with_reducible refine gate_callee (f := 77) rfl ?_); refine goesL_ (some 20) rfl rfl Try.func77 (by kernel_rfl) rfl #[.int .i64 t454, .int .i64 t455] rfl (by (try simp only [List.map_toArray, List.map_cons, List.map_nil]); first | done | rfl | (simp only [List.length_drop, List.length_take]; rfl)) ?_; (with_reducible refine (cmp_Compare_int.calls t454 t455 t456 _ A13.out).mono ?_); rintro e w' ⟨rfl, ⟨nd, rfl⟩⟩; refine ⟨_, rfl, ?_⟩))
    go_ret
    exact ⟨by first | rfl | (simp [errW_none, errW_some] <;> rfl) | (simp [*, errW_none, errW_some] <;> rfl), by repeat (first | (with_reducible first | exact HB.out | apply qa | apply qn | apply qd | refine qs ?_ GE452.out | refine qs ?_ GE453.out) | exact HB.out)⟩
   replace c12 := Bool.eq_false_iff.mpr c12
   subst c12
   have H1 : ((wide_size.f a0_1 a0_2 a0_3 a0_4 a1_1 a1_2 a1_3 a1_4).bind fun t457 => (some (wrap64 (t454 * t457)))) = some r := by rw [if_neg (show ¬ (false = true) by decide)] at H; exact H
   clear H
   have H := H1
   clear H1
   replace H := Option.bind_eq_some_iff.mp H
   obtain ⟨t457, A140, H⟩ := H
   replace H : (some (wrap64 (t454 * t457))) = some r := H
   have A14 := Aside0.mk A140
   clear A140
   obtain rfl := Option.some.inj H
   have hnb15 := NB452_453.out
   have hnc15 := NB453_452.out
   obtain ⟨hcz16_0, hcz16_1, hcz16_2, hcz16_3, hcz16_4⟩ := cl5 BK452.out
   obtain ⟨hfz16_0, hfz16_1, hfz16_2, hfz16_3, hfz16_4⟩ := fr5 BK452.out
   obtain ⟨hcz17_0, hcz17_1, hcz17_2, hcz17_3, hcz17_4⟩ := cl5 BK453.out
   obtain ⟨hfz17_0, hfz17_1, hfz17_2, hfz17_3, hfz17_4⟩ := fr5 BK453.out
   go_wp2_with (first | ((with_reducible refine gate_callee (f := 78) rfl ?_); refine goesL_ (some 26) rfl rfl Try.func78 (by kernel_rfl) rfl #[.agg #[.int .u64 a0_1, .int .u64 a0_2, .int .u64 a0_3, .int .u64 a0_4], .agg #[.int .u64 a1_1, .int .u64 a1_2, .int .u64 a1_3, .int .u64 a1_4]] rfl (by (try simp only [List.map_toArray, List.map_cons, List.map_nil]); first | done | rfl | (simp only [List.length_drop, List.length_take]; rfl)) ?_; (with_reducible refine (wide_size.calls a0_1 a0_2 a0_3 a0_4 a1_1 a1_2 a1_3 a1_4 t457 _ A14.out).mono ?_); rintro e w18 ⟨rfl, hb⟩; refine ⟨_, rfl, ?_⟩; have n0_ := bb BK452 hb; have n1_ := bb BK453 hb; have n2_ := Aside0.mk (below_step (by repeat (first | (with_reducible first | exact HB.out | apply qa | apply qn | apply qd | refine qs ?_ GE452.out | refine qs ?_ GE453.out) | exact HB.out)) hb); clear BK452; clear BK453; clear HB; have BK452 := n0_; have BK453 := n1_; have HB := n2_; clear n0_ n1_ n2_; (try clear hb); (try clear hb2); (try clear hk); (try clear hi)))
   go_ret
   exact ⟨by first | rfl | (simp [errW_none, errW_some] <;> rfl) | (simp [*, errW_none, errW_some] <;> rfl), by repeat (first | (with_reducible first | exact HB.out | apply qa | apply qn | apply qd | refine qs ?_ GE452.out | refine qs ?_ GE453.out) | exact HB.out)⟩
end Go.Proofs.Ytmpbbodafenonaa.MT

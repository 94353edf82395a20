/- A function of the given program told as a Lean function, its contract proved; no condition. -/
import Derived.Test.YtmpbbodafenonaaMT0
import Derived.Test.YtmpbbodafenonaaMT10
import Derived.Test.YtmpbbodafenonaaMT15
namespace Go.Proofs.Ytmpbbodafenonaa.MT
open Go.RowKit Go.Proofs.YtmpbbodafenonaaW.PrintWords Go.Proofs.YtmpbbodafenonaaW.PrintLast Go.Proofs.YtmpbbodafenonaaW.PrintMore
attribute [local go_sem] max2_int min2_int max_two min_two max_three min_three max_four min_four   -- for this text's walks alone
set_option linter.unusedVariables false
set_option linter.unusedSimpArgs false
/-! ### parquetref01_Num_Plus: function 30 -/
mutual
def parquetref01_Num_Plus.l0 : Nat → List Int → Int → Int → Bool → List Int → Bool → List Int → Option (Bool × List Int)
 | 0, _, _, _, _, _, _, _ => none
 | k + 1, x5, x6, x7, x291000, x291001, x292000, x292001 => if x7 < (x291001.length : Int) then (parquetref01_Num_Plus.j1 k x5 x6 x7 true x291000 x291001 x292000 x292001) else (if x7 < (x292001.length : Int) then (parquetref01_Num_Plus.j1 k x5 x6 x7 true x291000 x291001 x292000 x292001) else (parquetref01_Num_Plus.j1 k x5 x6 x7 (decide (x6 > 0)) x291000 x291001 x292000 x292001))
def parquetref01_Num_Plus.j1 : Nat → List Int → Int → Int → Bool → Bool → List Int → Bool → List Int → Option (Bool × List Int)
 | 0, _, _, _, _, _, _, _, _ => none
 | k + 1, x5, x6, x7, x33, x291000, x291001, x292000, x292001 => if x33 = true then ((parquetref01_digit.f x291001 x7).bind fun t293 => ((parquetref01_digit.f x292001 x7).bind fun t294 => (if x5.length < 17592186044416 then (parquetref01_Num_Plus.l0 k (x5 ++ [Int.tmod (wrap64 ((wrap64 (t293 + t294)) + x6)) 65536]) (wrap64 (Int.tdiv (wrap64 ((wrap64 (t293 + t294)) + x6)) 65536)) (wrap64 (x7 + 1)) x291000 x291001 x292000 x292001) else (none)))) else ((parquetref01_trim.f k x291000 x5).bind fun bt298 => (some (bt298.1, bt298.2)))
def parquetref01_Num_Plus.j2 : Nat → List Int → Int → Bool → List Int → Bool → List Int → Option (Bool × List Int)
 | 0, _, _, _, _, _, _ => none
 | k + 1, x5, x6, x303000, x303001, x304000, x304001 => parquetref01_Num_Plus.l1 k x5 x6 0 x303000 x303001 x304000 x304001
def parquetref01_Num_Plus.l1 : Nat → List Int → Int → Int → Bool → List Int → Bool → List Int → Option (Bool × List Int)
 | 0, _, _, _, _, _, _, _ => none
 | k + 1, x5, x6, x11, x303000, x303001, x304000, x304001 => if x11 < (x303001.length : Int) then (if 0 ≤ x11 then ((parquetref01_digit.f x304001 x11).bind fun t306 => (if (wrap64 ((wrap64 ((rd x303001 x11) - t306)) - x6)) < 0 then (if x5.length < 17592186044416 then (parquetref01_Num_Plus.l1 k (x5 ++ [wrap64 ((wrap64 ((wrap64 ((rd x303001 x11) - t306)) - x6)) + 65536)]) 1 (wrap64 (x11 + 1)) x303000 x303001 x304000 x304001) else (none)) else (if x5.length < 17592186044416 then (parquetref01_Num_Plus.l1 k (x5 ++ [wrap64 ((wrap64 ((rd x303001 x11) - t306)) - x6)]) 0 (wrap64 (x11 + 1)) x303000 x303001 x304000 x304001) else (none)))) else (none)) else ((parquetref01_trim.f k x303000 x5).bind fun bt313 => (some (bt313.1, bt313.2)))
end
def parquetref01_Num_Plus.f (k : Nat) (a0_0 : Bool) (l0_1 : List Int) (a1_0 : Bool) (l1_1 : List Int) : Option (Bool × List Int) := if (a0_0 == a1_0) = true then (parquetref01_Num_Plus.l0 k ([] : List Int) 0 0 a0_0 l0_1 a1_0 l1_1) else ((parquetref01_size.f k l0_1 l1_1).bind fun t304 => (if t304 < 0 then (parquetref01_Num_Plus.j2 k ([] : List Int) 0 a1_0 l1_1 a0_0 l0_1) else (parquetref01_Num_Plus.j2 k ([] : List Int) 0 a0_0 l0_1 a1_0 l1_1)))
theorem parquetref01_Num_Plus.mono_l : ∀ k, (∀ y0 y1 y2 y3 y4 y5 y6, LeO (parquetref01_Num_Plus.l0 k y0 y1 y2 y3 y4 y5 y6) (parquetref01_Num_Plus.l0 (k + 1) y0 y1 y2 y3 y4 y5 y6)) ∧ (∀ y0 y1 y2 y3 y4 y5 y6 y7, LeO (parquetref01_Num_Plus.j1 k y0 y1 y2 y3 y4 y5 y6 y7) (parquetref01_Num_Plus.j1 (k + 1) y0 y1 y2 y3 y4 y5 y6 y7)) ∧ (∀ y0 y1 y2 y3 y4 y5, LeO (parquetref01_Num_Plus.j2 k y0 y1 y2 y3 y4 y5) (parquetref01_Num_Plus.j2 (k + 1) y0 y1 y2 y3 y4 y5)) ∧ (∀ y0 y1 y2 y3 y4 y5 y6, LeO (parquetref01_Num_Plus.l1 k y0 y1 y2 y3 y4 y5 y6) (parquetref01_Num_Plus.l1 (k + 1) y0 y1 y2 y3 y4 y5 y6))
 | 0 => ⟨fun _ _ _ _ _ _ _ r h => by simp [parquetref01_Num_Plus.l0] at h, fun _ _ _ _ _ _ _ _ r h => by simp [parquetref01_Num_Plus.j1] at h, fun _ _ _ _ _ _ r h => by simp [parquetref01_Num_Plus.j2] at h, fun _ _ _ _ _ _ _ r h => by simp [parquetref01_Num_Plus.l1] at h⟩
 | k + 1 => by
  obtain ⟨ih0, ih1, ih2, ih3⟩ := parquetref01_Num_Plus.mono_l k
  refine ⟨?_, ?_, ?_, ?_⟩
  ·intro y0 y1 y2 y3 y4 y5 y6
   unfold parquetref01_Num_Plus.l0
   repeat' first
   | (with_reducible exact ih0 _ _ _ _ _ _ _)
   | (with_reducible exact ih1 _ _ _ _ _ _ _ _)
   | (with_reducible exact ih2 _ _ _ _ _ _)
   | (with_reducible exact ih3 _ _ _ _ _ _ _)
   | (with_reducible exact parquetref01_size.mono _ _ _)
   | (with_reducible exact parquetref01_trim.mono _ _ _)
   | (with_reducible exact LeO.refl _)
   | (with_reducible exact LeO.none _)
   | (with_reducible refine LeO.ite ?_ ?_)
   | (with_reducible refine LeO.bind ?_ (fun _ => ?_))
   | exact ih0 _ _ _ _ _ _ _
   | exact ih1 _ _ _ _ _ _ _ _
   | exact ih2 _ _ _ _ _ _
   | exact ih3 _ _ _ _ _ _ _
   | exact parquetref01_size.mono _ _ _
   | exact parquetref01_trim.mono _ _ _
   | exact LeO.none _
   | refine LeO.ite ?_ ?_
   | refine LeO.bind ?_ (fun _ => ?_)
  ·intro y0 y1 y2 y3 y4 y5 y6 y7
   unfold parquetref01_Num_Plus.j1
   repeat' first
   | (with_reducible exact ih0 _ _ _ _ _ _ _)
   | (with_reducible exact ih1 _ _ _ _ _ _ _ _)
   | (with_reducible exact ih2 _ _ _ _ _ _)
   | (with_reducible exact ih3 _ _ _ _ _ _ _)
   | (with_reducible exact parquetref01_size.mono _ _ _)
   | (with_reducible exact parquetref01_trim.mono _ _ _)
   | (with_reducible exact LeO.refl _)
   | (with_reducible exact LeO.none _)
   | (with_reducible refine LeO.ite ?_ ?_)
   | (with_reducible refine LeO.bind ?_ (fun _ => ?_))
   | exact ih0 _ _ _ _ _ _ _
   | exact ih1 _ _ _ _ _ _ _ _
   | exact ih2 _ _ _ _ _ _
   | exact ih3 _ _ _ _ _ _ _
   | exact parquetref01_size.mono _ _ _
   | exact parquetref01_trim.mono _ _ _
   | exact LeO.none _
   | refine LeO.ite ?_ ?_
   | refine LeO.bind ?_ (fun _ => ?_)
  ·intro y0 y1 y2 y3 y4 y5
   unfold parquetref01_Num_Plus.j2
   repeat' first
   | (with_reducible exact ih0 _ _ _ _ _ _ _)
   | (with_reducible exact ih1 _ _ _ _ _ _ _ _)
   | (with_reducible exact ih2 _ _ _ _ _ _)
   | (with_reducible exact ih3 _ _ _ _ _ _ _)
   | (with_reducible exact parquetref01_size.mono _ _ _)
   | (with_reducible exact parquetref01_trim.mono _ _ _)
   | (with_reducible exact LeO.refl _)
   | (with_reducible exact LeO.none _)
   | (with_reducible refine LeO.ite ?_ ?_)
   | (with_reducible refine LeO.bind ?_ (fun _ => ?_))
   | exact ih0 _ _ _ _ _ _ _
   | exact ih1 _ _ _ _ _ _ _ _
   | exact ih2 _ _ _ _ _ _
   | exact ih3 _ _ _ _ _ _ _
   | exact parquetref01_size.mono _ _ _
   | exact parquetref01_trim.mono _ _ _
   | exact LeO.none _
   | refine LeO.ite ?_ ?_
   | refine LeO.bind ?_ (fun _ => ?_)
  ·intro y0 y1 y2 y3 y4 y5 y6
   unfold parquetref01_Num_Plus.l1
   repeat' first
   | (with_reducible exact ih0 _ _ _ _ _ _ _)
   | (with_reducible exact ih1 _ _ _ _ _ _ _ _)
   | (with_reducible exact ih2 _ _ _ _ _ _)
   | (with_reducible exact ih3 _ _ _ _ _ _ _)
   | (with_reducible exact parquetref01_size.mono _ _ _)
   | (with_reducible exact parquetref01_trim.mono _ _ _)
   | (with_reducible exact LeO.refl _)
   | (with_reducible exact LeO.none _)
   | (with_reducible refine LeO.ite ?_ ?_)
   | (with_reducible refine LeO.bind ?_ (fun _ => ?_))
   | exact ih0 _ _ _ _ _ _ _
   | exact ih1 _ _ _ _ _ _ _ _
   | exact ih2 _ _ _ _ _ _
   | exact ih3 _ _ _ _ _ _ _
   | exact parquetref01_size.mono _ _ _
   | exact parquetref01_trim.mono _ _ _
   | exact LeO.none _
   | refine LeO.ite ?_ ?_
   | refine LeO.bind ?_ (fun _ => ?_)
theorem parquetref01_Num_Plus.mono : ∀ a0 a1 a2 a3 k, LeO (parquetref01_Num_Plus.f k a0 a1 a2 a3) (parquetref01_Num_Plus.f (k + 1) a0 a1 a2 a3) := by
 intro a0 a1 a2 a3 k
 obtain ⟨ih0, ih1, ih2, ih3⟩ := parquetref01_Num_Plus.mono_l k
 unfold parquetref01_Num_Plus.f
 repeat' first
   | (with_reducible exact ih0 _ _ _ _ _ _ _)
   | (with_reducible exact ih1 _ _ _ _ _ _ _ _)
   | (with_reducible exact ih2 _ _ _ _ _ _)
   | (with_reducible exact ih3 _ _ _ _ _ _ _)
   | (with_reducible exact parquetref01_size.mono _ _ _)
   | (with_reducible exact parquetref01_trim.mono _ _ _)
   | (with_reducible exact LeO.refl _)
   | (with_reducible exact LeO.none _)
   | (with_reducible refine LeO.ite ?_ ?_)
   | (with_reducible refine LeO.bind ?_ (fun _ => ?_))
   | exact ih0 _ _ _ _ _ _ _
   | exact ih1 _ _ _ _ _ _ _ _
   | exact ih2 _ _ _ _ _ _
   | exact ih3 _ _ _ _ _ _ _
   | exact parquetref01_size.mono _ _ _
   | exact parquetref01_trim.mono _ _ _
   | exact LeO.none _
   | refine LeO.ite ?_ ?_
   | refine LeO.bind ?_ (fun _ => ?_)
set_option maxHeartbeats 8000000 in
set_option maxRecDepth 100000 in
theorem parquetref01_Num_Plus.calls (k : Nat) (a0_0 : Bool) (P0_1_ : Nat → Prop) (A0_1 : Option Addr) (c0_1 : Nat) (l0_1 : List Int) (a1_0 : Bool) (P1_1_ : Nat → Prop) (A1_1 : Option Addr) (c1_1 : Nat) (l1_1 : List Int) (r1 : Bool) (r2 : List Int) (w : World) (hs0_1 : Kd.V (Kd.int .i64) 3 w w.heap.size (fun k_ => P0_1_ k_) (.slice A0_1 l0_1.length c0_1) l0_1) (hs1_1 : Kd.V (Kd.int .i64) 3 w w.heap.size (fun k_ => P1_1_ k_) (.slice A1_1 l1_1.length c1_1) l1_1) (h : parquetref01_Num_Plus.f k a0_0 l0_1 a1_0 l1_1 = some (r1, r2)) :
  Calls Try.prog 30 #[.agg #[.bool a0_0, .slice A0_1 l0_1.length c0_1], .agg #[.bool a1_0, .slice A1_1 l1_1.length c1_1]] w fun e w' => ∃ v1_ : Value, e = .returned (.agg #[.bool r1, v1_]) ∧ Kd.V (Kd.int .i64) 3 w' w.heap.size (fun k_ => ((P0_1_ k_ ∨ P1_1_ k_) ∨ w.heap.size ≤ k_)) v1_ r2 ∧ Below w.heap.size w w' := by
 have hu38 := Try.underlying38
 have HO0_1 := Aside0.mk (show Kd.V (Kd.int .i64) 3 w w.heap.size (fun k_ => ((P0_1_ k_ ∨ P1_1_ k_) ∨ w.heap.size ≤ k_)) (.slice A0_1 l0_1.length c0_1) l0_1 from Kd.V_mono hs0_1 (fun k_ hk => .inl (.inl hk)))
 have HO1_1 := Aside0.mk (show Kd.V (Kd.int .i64) 3 w w.heap.size (fun k_ => ((P0_1_ k_ ∨ P1_1_ k_) ∨ w.heap.size ≤ k_)) (.slice A1_1 l1_1.length c1_1) l1_1 from Kd.V_mono hs1_1 (fun k_ hk => .inl (.inr hk)))
 have HB := Aside0.mk (Below.refl w.heap.size w)
 have H : (if (a0_0 == a1_0) = true then (parquetref01_Num_Plus.l0 k ([] : List Int) 0 0 a0_0 l0_1 a1_0 l1_1) else ((parquetref01_size.f k l0_1 l1_1).bind fun t304 => (if t304 < 0 then (parquetref01_Num_Plus.j2 k ([] : List Int) 0 a1_0 l1_1 a0_0 l0_1) else (parquetref01_Num_Plus.j2 k ([] : List Int) 0 a0_0 l0_1 a1_0 l1_1)))) = some (r1, r2) := h
 clear h
 by_cases c3 : (a0_0 == a1_0) = true
 ·rw [if_pos c3] at H
  have c3b0 : (a0_0 == a1_0) = true := c3
  (try (have c3b1 : decide (a0_0 = a1_0) = true := by simpa using c3))
  (try (have c3b2 : (a0_0 == a1_0) = true := by simpa using c3))
  clear c3
  have H' := Aside0.mk H
  clear H
  go_enter Try.func30, Try.ntmps30
  go_wp2_with (first | ((with_reducible refine gate_dst (N := 2) rfl ?_); (try (refine gate_guard (by rfl) ?_; dsimp only)); refine box_event ?hg (N := 2) ?hd (cs := #[.bool a0_0, .slice A0_1 l0_1.length c0_1]) (t := 38) ?hr ?_; (case hd => rfl); (case hg => rfl); (case hr => first | (go_simp; done) | (go_simp; rfl)); intro gb290 hg w4 hbox hb; have n0_ := Aside0.mk (Kd.V_below (Kd.V_elderB (by (with_reducible repeat (first | apply Kd.V_alloc | apply Kd.V_drewN | apply Kd.V_drew)); exact HO0_1.out) gb290 (Nat.le_of_eq hg.symm)) hb); have n1_ := Aside0.mk (Kd.V_below (Kd.V_elderB (by (with_reducible repeat (first | apply Kd.V_alloc | apply Kd.V_drewN | apply Kd.V_drew)); exact HO1_1.out) gb290 (Nat.le_of_eq hg.symm)) hb); have n2_ := Aside0.mk (below_step (by repeat (first | (with_reducible first | exact HB.out | apply qa | apply qn | apply qd) | exact HB.out)) hb); have n3_ := Aside0.mk (hbox); have n4_ := bgw HB hg; have n5_ := bgw HB hg; clear HO0_1; clear HO1_1; clear HB; have HO0_1 := n0_; have HO1_1 := n1_; have HB := n2_; have BK290 := n3_; have GW290 := n4_; have GE290 := n5_; clear n0_ n1_ n2_ n3_ n4_ n5_; clear hb hbox hg) | ((with_reducible refine gate_dst (N := 3) rfl ?_); (try (refine gate_guard (by rfl) ?_; dsimp only)); refine box_event ?hg (N := 3) ?hd (cs := #[.bool a1_0, .slice A1_1 l1_1.length c1_1]) (t := 38) ?hr ?_; (case hd => rfl); (case hg => rfl); (case hr => first | (go_simp; done) | (go_simp; rfl)); intro gb291 hg w5 hbox hb; have n0_ := Aside0.mk (Kd.V_below (Kd.V_elderB (by (with_reducible repeat (first | apply Kd.V_alloc | apply Kd.V_drewN | apply Kd.V_drew)); exact HO0_1.out) gb291 (Nat.le_of_eq hg.symm)) hb); have n1_ := Aside0.mk (Kd.V_below (Kd.V_elderB (by (with_reducible repeat (first | apply Kd.V_alloc | apply Kd.V_drewN | apply Kd.V_drew)); exact HO1_1.out) gb291 (Nat.le_of_eq hg.symm)) hb); have n2_ := bb BK290 hb; have n3_ := Aside0.mk (below_step (by repeat (first | (with_reducible first | exact HB.out | apply qa | apply qn | apply qd | refine qs ?_ GE290.out) | exact HB.out)) hb); have n4_ := Aside0.mk (hbox); have n5_ := bgw HB hg; have n6_ := bgw HB hg; have n7_ := bnl BK290 hg; have n8_ := bng BK290 hg; clear HO0_1; clear HO1_1; clear BK290; clear HB; have HO0_1 := n0_; have HO1_1 := n1_; have BK290 := n2_; have HB := n3_; have BK291 := n4_; have GW291 := n5_; have GE291 := n6_; have NB290_291 := n7_; have NB291_290 := n8_; clear n0_ n1_ n2_ n3_ n4_ n5_ n6_ n7_ n8_; clear hb hbox hg) | ((with_reducible refine gate_dst (N := 4) rfl ?_); (try (refine gate_guard (by rfl) ?_; dsimp only)); refine box_event ?hg (N := 4) ?hd (cs := #[.bool false, .slice none 0 0]) (t := 38) ?hr ?_; (case hd => rfl); (case hg => rfl); (case hr => first | (go_simp; done) | (go_simp; rfl)); intro gb292 hg w6 hbox hb; have n0_ := Aside0.mk (Kd.V_below (Kd.V_elderB (by (with_reducible repeat (first | apply Kd.V_alloc | apply Kd.V_drewN | apply Kd.V_drew)); exact HO0_1.out) gb292 (Nat.le_of_eq hg.symm)) hb); have n1_ := Aside0.mk (Kd.V_below (Kd.V_elderB (by (with_reducible repeat (first | apply Kd.V_alloc | apply Kd.V_drewN | apply Kd.V_drew)); exact HO1_1.out) gb292 (Nat.le_of_eq hg.symm)) hb); have n2_ := bb BK290 hb; have n3_ := bb BK291 hb; have n4_ := Aside0.mk (below_step (by repeat (first | (with_reducible first | exact HB.out | apply qa | apply qn | apply qd | refine qs ?_ GE290.out | refine qs ?_ GE291.out) | exact HB.out)) hb); have n5_ := Aside0.mk (hbox); have n6_ := bgw HB hg; have n7_ := bgw HB hg; have n8_ := bnl BK290 hg; have n9_ := bng BK290 hg; have n10_ := bnl BK291 hg; have n11_ := bng BK291 hg; clear HO0_1; clear HO1_1; clear BK290; clear BK291; clear HB; have HO0_1 := n0_; have HO1_1 := n1_; have BK290 := n2_; have BK291 := n3_; have HB := n4_; have BK292 := n5_; have GW292 := n6_; have GE292 := n7_; have NB290_292 := n8_; have NB292_290 := n9_; have NB291_292 := n10_; have NB292_291 := n11_; clear n0_ n1_ n2_ n3_ n4_ n5_ n6_ n7_ n8_ n9_ n10_ n11_; clear hb hbox hg; have hnb7 := NB290_291.out; have hnc7 := NB291_290.out; have hnb8 := NB290_292.out; have hnc8 := NB292_290.out; obtain ⟨hcz9_0, hcz9_1⟩ := cl2 BK290.out; obtain ⟨hfz9_0, hfz9_1⟩ := fr2 BK290.out; have hnb10 := NB291_292.out; have hnc10 := NB292_291.out; obtain ⟨hcz11_0, hcz11_1⟩ := cl2 BK291.out; obtain ⟨hfz11_0, hfz11_1⟩ := fr2 BK291.out))
  repeat (go_quiet (fail); try go_wp2_with (fail))
  go_loopg [5, 6, 7] k (fun kq v5 v6 v7 w' => ∃ (x5_1 : List Int) (x6_1 : Int) (x7_1 : Int), v6 = .int .i64 x6_1 ∧ v7 = .int .i64 x7_1 ∧ Aside0 (parquetref01_Num_Plus.l0 kq x5_1 x6_1 x7_1 a0_0 l0_1 a1_0 l1_1 = some (r1, r2)) ∧ Aside0 (kq ≤ k) ∧ Aside0 (Kd.R (Kd.int .i64) 3 w' w.heap.size (fun k_ => (w.heap.size ≤ k_)) v5 x5_1) ∧ Aside0 (Kd.V (Kd.int .i64) 3 w' w.heap.size (fun k_ => ((P0_1_ k_ ∨ P1_1_ k_) ∨ w.heap.size ≤ k_) ∧ some k_ ≠ (v5 : Value).ownBlock ∧ k_ ≠ gb290 ∧ k_ ≠ gb291 ∧ k_ ≠ gb292) (.slice A0_1 l0_1.length c0_1) l0_1) ∧ Aside0 (Kd.V (Kd.int .i64) 3 w' w.heap.size (fun k_ => ((P0_1_ k_ ∨ P1_1_ k_) ∨ w.heap.size ≤ k_) ∧ some k_ ≠ (v5 : Value).ownBlock ∧ k_ ≠ gb290 ∧ k_ ≠ gb291 ∧ k_ ≠ gb292) (.slice A1_1 l1_1.length c1_1) l1_1) ∧ Aside0 (w'.heap[gb290]? = some (.cells #[.bool a0_0, (.slice A0_1 l0_1.length c0_1)] 38 (0, 0))) ∧ Aside0 (w'.heap[gb291]? = some (.cells #[.bool a1_0, (.slice A1_1 l1_1.length c1_1)] 38 (0, 0))) ∧ Aside0 (w'.heap[gb292]? = some (.cells #[.bool false, (.slice none 0 0)] 38 (0, 0))) ∧ Aside0 (Below w.heap.size w w'))
  case atStart => exact ⟨(([] : List Int)), (0), (0), (by first | rfl | (simp; done) | (simp [*]; done)), (by first | rfl | (simp; done) | (simp [*]; done)), H', ⟨Nat.le_refl _⟩, ⟨by first | exact Kd.R_nil _ _ _ _ _ | exact Kd.N_nil _ _ _ _ _ | exact Kd.V_nil _ _ _ _ _ | exact Kd.Q_nil _ _ _ _ _ | exact Kd.S_nil _ _ _ _ _⟩, ⟨by (with_reducible repeat (first | apply Kd.V_alloc | apply Kd.V_drewN | apply Kd.V_drew)); exact Kd.V_mono HO0_1.out (fun _ hk => ⟨hk.1.1.1, ⟨(by simp [Value.ownBlock]), ⟨hk.1.1.2, ⟨hk.1.2, hk.2⟩⟩⟩⟩)⟩, ⟨by (with_reducible repeat (first | apply Kd.V_alloc | apply Kd.V_drewN | apply Kd.V_drew)); exact Kd.V_mono HO1_1.out (fun _ hk => ⟨hk.1.1.1, ⟨(by simp [Value.ownBlock]), ⟨hk.1.1.2, ⟨hk.1.2, hk.2⟩⟩⟩⟩)⟩, ⟨by (with_reducible repeat (first | refine cn ?_ _ | refine cd ?_ | refine ca ?_ _)); exact BK290.out⟩, ⟨by (with_reducible repeat (first | refine cn ?_ _ | refine cd ?_ | refine ca ?_ _)); exact BK291.out⟩, ⟨by (with_reducible repeat (first | refine cn ?_ _ | refine cd ?_ | refine ca ?_ _)); exact BK292.out⟩, ⟨by repeat (first | (with_reducible first | exact HB.out | apply qa | apply qn | apply qd | refine qs ?_ GE290.out | refine qs ?_ GE291.out | refine qs ?_ GE292.out) | exact HB.out)⟩⟩
  case round =>
   clear H'
   try clear c1
   try clear p2
   try clear c3
   try clear c3b0
   try clear c3b1
   try clear c3b2
   try clear c7
   try clear c8
   try clear c10
   try clear hcz11_0
   try clear hcz11_1
   try clear hcz9_0
   try clear hcz9_1
   try clear hfz11_0
   try clear hfz11_1
   try clear hfz9_0
   try clear hfz9_1
   obtain ⟨x5_1, x6_1, x7_1, rfl, rfl, HA, HK1, HO_5, HO_291001, HO_292001, BK290, BK291, BK292, HB⟩ := hrel
   cases gk with
   | zero => exact absurd HA.out (by simp [parquetref01_Num_Plus.l0])
   | succ k1 =>
    have H := HA.out
    clear HA
    simp only [parquetref01_Num_Plus.l0] at H
    have HC12 := Aside0.mk H
    clear H
    go_upto_region 5 with (fail)
    repeat (go_quiet (fail); go_upto_region 5 with (fail))
    go_cut [33] (fun v33 wc => ∃ (kq : Nat) (x33_11 : Bool), v33 = .bool x33_11 ∧ Aside0 (parquetref01_Num_Plus.j1 kq x5_1 x6_1 x7_1 x33_11 a0_0 l0_1 a1_0 l1_1 = some (r1, r2)) ∧ Aside0 (kq ≤ k1) ∧ Aside0 (Kd.R (Kd.int .i64) 3 wc w.heap.size (fun k_ => (w.heap.size ≤ k_)) u5 x5_1) ∧ Aside0 (Kd.V (Kd.int .i64) 3 wc w.heap.size (fun k_ => ((P0_1_ k_ ∨ P1_1_ k_) ∨ w.heap.size ≤ k_) ∧ some k_ ≠ (u5 : Value).ownBlock ∧ k_ ≠ gb290 ∧ k_ ≠ gb291 ∧ k_ ≠ gb292) (.slice A0_1 l0_1.length c0_1) l0_1) ∧ Aside0 (Kd.V (Kd.int .i64) 3 wc w.heap.size (fun k_ => ((P0_1_ k_ ∨ P1_1_ k_) ∨ w.heap.size ≤ k_) ∧ some k_ ≠ (u5 : Value).ownBlock ∧ k_ ≠ gb290 ∧ k_ ≠ gb291 ∧ k_ ≠ gb292) (.slice A1_1 l1_1.length c1_1) l1_1) ∧ Aside0 (wc.heap[gb290]? = some (.cells #[.bool a0_0, (.slice A0_1 l0_1.length c0_1)] 38 (0, 0))) ∧ Aside0 (wc.heap[gb291]? = some (.cells #[.bool a1_0, (.slice A1_1 l1_1.length c1_1)] 38 (0, 0))) ∧ Aside0 (wc.heap[gb292]? = some (.cells #[.bool false, (.slice none 0 0)] 38 (0, 0))) ∧ Aside0 (Below w.heap.size w wc))
    case first =>
     have H := HC12.out
     clear HC12
     by_cases c13 : x7_1 < (l0_1.length : Int)
     ·rw [if_pos c13] at H
      have c13b0 : decide (x7_1 < (l0_1.length : Int)) = true := decide_eq_true c13
      clear c13
      (first | rw [c13b0] | (simp only [i64_w, i32_w]; rw [c13b0]) | skip)
      have H' := Aside0.mk H
      clear H
      have hnb14 := NB290_291.out
      have hnc14 := NB291_290.out
      have hnb15 := NB290_292.out
      have hnc15 := NB292_290.out
      obtain ⟨hcz16_0, hcz16_1⟩ := cl2 BK290.out
      obtain ⟨hfz16_0, hfz16_1⟩ := fr2 BK290.out
      go_wp2
      repeat (go_quiet (fail); try go_wp2)
      go_meet
      case rel => exact ⟨_, (true), (by first | rfl | (simp; done) | (simp [*]; done)), H', ⟨by have := HK1.out; first | omega | exact Nat.le_refl _⟩, ⟨by (with_reducible repeat (first | apply Kd.R_alloc | apply Kd.R_drewN | apply Kd.R_drew)); exact HO_5.out⟩, ⟨by (with_reducible repeat (first | apply Kd.V_alloc | apply Kd.V_drewN | apply Kd.V_drew)); exact HO_291001.out⟩, ⟨by (with_reducible repeat (first | apply Kd.V_alloc | apply Kd.V_drewN | apply Kd.V_drew)); exact HO_292001.out⟩, ⟨by (with_reducible repeat (first | refine cn ?_ _ | refine cd ?_ | refine ca ?_ _)); exact BK290.out⟩, ⟨by (with_reducible repeat (first | refine cn ?_ _ | refine cd ?_ | refine ca ?_ _)); exact BK291.out⟩, ⟨by (with_reducible repeat (first | refine cn ?_ _ | refine cd ?_ | refine ca ?_ _)); exact BK292.out⟩, ⟨by repeat (first | (with_reducible first | exact HB.out | apply qa | apply qn | apply qd | refine qs ?_ GE290.out | refine qs ?_ GE291.out | refine qs ?_ GE292.out) | exact HB.out)⟩⟩
     rw [if_neg c13] at H
     have c13b0 : decide (x7_1 < (l0_1.length : Int)) = false := decide_eq_false c13
     clear c13
     (first | rw [c13b0] | (simp only [i64_w, i32_w]; rw [c13b0]) | skip)
     by_cases c17 : x7_1 < (l1_1.length : Int)
     ·rw [if_pos c17] at H
      have c17b0 : decide (x7_1 < (l1_1.length : Int)) = true := decide_eq_true c17
      clear c17
      have H' := Aside0.mk H
      clear H
      have hnb18 := NB290_291.out
      have hnc18 := NB291_290.out
      have hnb19 := NB290_292.out
      have hnc19 := NB292_290.out
      obtain ⟨hcz20_0, hcz20_1⟩ := cl2 BK290.out
      obtain ⟨hfz20_0, hfz20_1⟩ := fr2 BK290.out
      have hnb21 := NB291_292.out
      have hnc21 := NB292_291.out
      obtain ⟨hcz22_0, hcz22_1⟩ := cl2 BK291.out
      obtain ⟨hfz22_0, hfz22_1⟩ := fr2 BK291.out
      go_wp2
      repeat (go_quiet (fail); try go_wp2)
      go_meet
      case rel => exact ⟨_, (true), (by first | rfl | (simp; done) | (simp [*]; done)), H', ⟨by have := HK1.out; first | omega | exact Nat.le_refl _⟩, ⟨by (with_reducible repeat (first | apply Kd.R_alloc | apply Kd.R_drewN | apply Kd.R_drew)); exact HO_5.out⟩, ⟨by (with_reducible repeat (first | apply Kd.V_alloc | apply Kd.V_drewN | apply Kd.V_drew)); exact HO_291001.out⟩, ⟨by (with_reducible repeat (first | apply Kd.V_alloc | apply Kd.V_drewN | apply Kd.V_drew)); exact HO_292001.out⟩, ⟨by (with_reducible repeat (first | refine cn ?_ _ | refine cd ?_ | refine ca ?_ _)); exact BK290.out⟩, ⟨by (with_reducible repeat (first | refine cn ?_ _ | refine cd ?_ | refine ca ?_ _)); exact BK291.out⟩, ⟨by (with_reducible repeat (first | refine cn ?_ _ | refine cd ?_ | refine ca ?_ _)); exact BK292.out⟩, ⟨by repeat (first | (with_reducible first | exact HB.out | apply qa | apply qn | apply qd | refine qs ?_ GE290.out | refine qs ?_ GE291.out | refine qs ?_ GE292.out) | exact HB.out)⟩⟩
     rw [if_neg c17] at H
     have c17b0 : decide (x7_1 < (l1_1.length : Int)) = false := decide_eq_false c17
     clear c17
     have H' := Aside0.mk H
     clear H
     have hnb23 := NB290_291.out
     have hnc23 := NB291_290.out
     have hnb24 := NB290_292.out
     have hnc24 := NB292_290.out
     obtain ⟨hcz25_0, hcz25_1⟩ := cl2 BK290.out
     obtain ⟨hfz25_0, hfz25_1⟩ := fr2 BK290.out
     have hnb26 := NB291_292.out
     have hnc26 := NB292_291.out
     obtain ⟨hcz27_0, hcz27_1⟩ := cl2 BK291.out
     obtain ⟨hfz27_0, hfz27_1⟩ := fr2 BK291.out
     go_wp2
     repeat (go_quiet (fail); try go_wp2)
     go_meet
     case rel => exact ⟨_, (decide (x6_1 > 0)), (by first | rfl | (simp; done) | (simp [*]; done)), H', ⟨by have := HK1.out; first | omega | exact Nat.le_refl _⟩, ⟨by (with_reducible repeat (first | apply Kd.R_alloc | apply Kd.R_drewN | apply Kd.R_drew)); exact HO_5.out⟩, ⟨by (with_reducible repeat (first | apply Kd.V_alloc | apply Kd.V_drewN | apply Kd.V_drew)); exact HO_291001.out⟩, ⟨by (with_reducible repeat (first | apply Kd.V_alloc | apply Kd.V_drewN | apply Kd.V_drew)); exact HO_292001.out⟩, ⟨by (with_reducible repeat (first | refine cn ?_ _ | refine cd ?_ | refine ca ?_ _)); exact BK290.out⟩, ⟨by (with_reducible repeat (first | refine cn ?_ _ | refine cd ?_ | refine ca ?_ _)); exact BK291.out⟩, ⟨by (with_reducible repeat (first | refine cn ?_ _ | refine cd ?_ | refine ca ?_ _)); exact BK292.out⟩, ⟨by repeat (first | (with_reducible first | exact HB.out | apply qa | apply qn | apply qd | refine qs ?_ GE290.out | refine qs ?_ GE291.out | refine qs ?_ GE292.out) | exact HB.out)⟩⟩
    case rest =>
     clear HC12
     try clear c1
     try clear c2
     try clear p2
     try clear c3
     try clear c3b0
     try clear c3b1
     try clear c3b2
     try clear c7
     try clear c8
     try clear c10
     try clear c13
     try clear c13b0
     try clear c14
     try clear c15
     try clear c17
     try clear c17b0
     try clear c18
     try clear c19
     try clear c21
     try clear c23
     try clear c24
     try clear c26
     try clear hcz11_0
     try clear hcz11_1
     try clear hcz16_0
     try clear hcz16_1
     try clear hcz20_0
     try clear hcz20_1
     try clear hcz22_0
     try clear hcz22_1
     try clear hcz25_0
     try clear hcz25_1
     try clear hcz27_0
     try clear hcz27_1
     try clear hcz9_0
     try clear hcz9_1
     try clear hfz11_0
     try clear hfz11_1
     try clear hfz16_0
     try clear hfz16_1
     try clear hfz20_0
     try clear hfz20_1
     try clear hfz22_0
     try clear hfz22_1
     try clear hfz25_0
     try clear hfz25_1
     try clear hfz27_0
     try clear hfz27_1
     try clear hfz9_0
     try clear hfz9_1
     try clear p2
     obtain ⟨kq, x33_11, rfl, HA, HJ11, HO_5, HO_291001, HO_292001, BK290, BK291, BK292, HB⟩ := hcut
     cases kq with
     | zero => exact absurd HA.out (by simp [parquetref01_Num_Plus.j1])
     | succ kj11 =>
      have H := HA.out
      clear HA
      simp only [parquetref01_Num_Plus.j1] at H
      by_cases c28 : x33_11 = true
      rotate_left
      ·replace c28 := Bool.eq_false_iff.mpr c28
       subst c28
       have H1 : ((parquetref01_trim.f kj11 a0_0 x5_1).bind fun bt298 => (some (bt298.1, bt298.2))) = some (r1, r2) := by rw [if_neg (show ¬ (false = true) by decide)] at H; exact H
       clear H
       have H := H1
       clear H1
       replace H := Option.bind_eq_some_iff.mp H
       obtain ⟨⟨t298, t299⟩, A380, H⟩ := H
       replace H : (some (t298, t299)) = some (r1, r2) := H
       have A38 := Aside0.mk A380
       clear A380
       simp only [Option.some.injEq, Prod.mk.injEq] at H
       obtain ⟨rfl, rfl⟩ := H
       have hnb39 := NB290_291.out
       have hnc39 := NB291_290.out
       have hnb40 := NB290_292.out
       have hnc40 := NB292_290.out
       obtain ⟨hcz41_0, hcz41_1⟩ := cl2 BK290.out
       obtain ⟨hfz41_0, hfz41_1⟩ := fr2 BK290.out
       obtain ⟨Ao42, co42, eo42⟩ := Kd.R_slice HO_5.out
       subst eo42
       go_wp2_with (first | (go_at_call 73; (with_reducible refine (parquetref01_trim.calls kj11 a0_0 (fun k_ => some k_ = (.slice Ao42 x5_1.length co42 : Value).ownBlock) _ _ x5_1 t298 t299 _ ?side1 A38.out).mono ?_); (case side1 => exact Kd.R_V (Kd.R_tight rfl (Kd.R_types (Kd.R_types (Kd.R_types (HO_5.out) BK290.out (by decide)) BK291.out (by decide)) BK292.out (by decide)))); rintro e w43 ⟨v300, rfl, ho0, hb⟩; have n0_ := Aside0.mk (Kd.R_below (by (with_reducible repeat (first | apply Kd.R_alloc | apply Kd.R_drewN | apply Kd.R_drew)); exact HO_5.out) hb); have n1_ := Aside0.mk (Kd.V_below (by (with_reducible repeat (first | apply Kd.V_alloc | apply Kd.V_drewN | apply Kd.V_drew)); exact HO_291001.out) hb); have n2_ := Aside0.mk (Kd.V_below (by (with_reducible repeat (first | apply Kd.V_alloc | apply Kd.V_drewN | apply Kd.V_drew)); exact HO_292001.out) hb); have n3_ := Aside0.mk (Kd.V_lower (Kd.V_mono (ok' := fun k_ => ((P0_1_ k_ ∨ P1_1_ k_) ∨ w.heap.size ≤ k_) ∧ k_ ≠ gb290 ∧ k_ ≠ gb291 ∧ k_ ≠ gb292) ho0 (fun k_ hk_ => ⟨Or.elim hk_ (fun hs_ => (.inr (((Kd.R_types (Kd.R_types (Kd.R_types (HO_5.out) BK290.out (by decide)) BK291.out (by decide)) BK292.out (by decide)).1 k_ hs_.symm).1.1.1))) (fun hn_ => (.inr (Nat.le_trans (below_size (by repeat (first | (with_reducible first | exact HB.out | apply qa | apply qn | apply qd | refine qs ?_ GE290.out | refine qs ?_ GE291.out | refine qs ?_ GE292.out) | exact HB.out))) hn_))), Or.elim hk_ (fun hs_ => ((Kd.R_types (Kd.R_types (Kd.R_types (HO_5.out) BK290.out (by decide)) BK291.out (by decide)) BK292.out (by decide)).1 k_ hs_.symm).1.1.2) (fun hn_ => (Kd.freshB (g := gb290) (o := .cells #[.bool a0_0, .slice A0_1 l0_1.length c0_1] 38 (0, 0)) (by exact lb BK290.out) k_ hn_)), Or.elim hk_ (fun hs_ => ((Kd.R_types (Kd.R_types (Kd.R_types (HO_5.out) BK290.out (by decide)) BK291.out (by decide)) BK292.out (by decide)).1 k_ hs_.symm).1.2) (fun hn_ => (Kd.freshB (g := gb291) (o := .cells #[.bool a1_0, .slice A1_1 l1_1.length c1_1] 38 (0, 0)) (by exact lb BK291.out) k_ hn_)), Or.elim hk_ (fun hs_ => ((Kd.R_types (Kd.R_types (Kd.R_types (HO_5.out) BK290.out (by decide)) BK291.out (by decide)) BK292.out (by decide)).1 k_ hs_.symm).2) (fun hn_ => (Kd.freshB (g := gb292) (o := .cells #[.bool false, .slice none 0 0] 38 (0, 0)) (by exact lb BK292.out) k_ hn_))⟩)) (below_size (by repeat (first | (with_reducible first | exact HB.out | apply qa | apply qn | apply qd | refine qs ?_ GE290.out | refine qs ?_ GE291.out | refine qs ?_ GE292.out) | exact HB.out)))); have n4_ := bb BK290 hb; have n5_ := bb BK291 hb; have n6_ := bb BK292 hb; have n7_ := Aside0.mk (below_step (by repeat (first | (with_reducible first | exact HB.out | apply qa | apply qn | apply qd | refine qs ?_ GE290.out | refine qs ?_ GE291.out | refine qs ?_ GE292.out) | exact HB.out)) hb); clear HO_5; clear HO_291001; clear HO_292001; clear BK290; clear BK291; clear BK292; clear HB; have HO_5 := n0_; have HO_291001 := n1_; have HO_292001 := n2_; have HO301 := n3_; have BK290 := n4_; have BK291 := n5_; have BK292 := n6_; have HB := n7_; clear n0_ n1_ n2_ n3_ n4_ n5_ n6_ n7_; (try clear hb); (try clear hb2); (try clear hk); (try clear hi); (try clear ho0); have hnb44 := NB292_291.out; have hnc44 := NB291_292.out; obtain ⟨hcz45_0, hcz45_1⟩ := cl2 BK292.out; obtain ⟨hfz45_0, hfz45_1⟩ := fr2 BK292.out; obtain ⟨Ao46, co46, eo46⟩ := Kd.V_slice HO301.out; subst eo46))
       repeat (go_quiet (fail); try go_wp2_with (fail))
       refine bodyPost_ret (results_cell_row rfl _ _ gb292 38 #[.bool t298, .slice Ao46 t299.length co46] (0, 0) _ rfl (by (with_reducible repeat (first | refine cn ?_ _ | refine cd ?_ | refine ca ?_ _)); refine blk_put (cs := #[.bool t298, .slice none 0 0]) ?_ 1 _ rfl; (with_reducible repeat (first | refine cn ?_ _ | refine cd ?_ | refine ca ?_ _)); refine blk_put (cs := #[.bool false, .slice none 0 0]) ?_ 0 _ rfl; (with_reducible repeat (first | refine cn ?_ _ | refine cd ?_ | refine ca ?_ _)); exact BK292.out) Try.underlying38 rfl (by kernel_rfl)) rfl ?_
       exact ⟨_, by first | rfl | (simp [errW_none, errW_some] <;> rfl) | (simp [*, errW_none, errW_some] <;> rfl), by (with_reducible repeat (first | apply Kd.V_alloc | apply Kd.V_drewN | apply Kd.V_drew)); exact Kd.V_mono (Kd.V_far (p := ⟨gb292, 1, none⟩) (Kd.V_far (p := ⟨gb292, 0, none⟩) (Kd.V_mono HO301.out (fun k_ hk => (⟨hk, hk.2.2.2⟩ : _ ∧ k_ ≠ gb292))) (fun _ hk => hk.2) (.bool t298)) (fun _ hk => hk.2) (.slice Ao46 t299.length co46)) (fun _ hk => hk.1.1), by repeat (first | (with_reducible first | exact HB.out | apply qa | apply qn | apply qd | refine qs ?_ GE290.out | refine qs ?_ GE291.out | refine qs ?_ GE292.out) | exact HB.out)⟩
      subst c28
      have H1 : ((parquetref01_digit.f l0_1 x7_1).bind fun t293 => ((parquetref01_digit.f l1_1 x7_1).bind fun t294 => (if x5_1.length < 17592186044416 then (parquetref01_Num_Plus.l0 kj11 (x5_1 ++ [Int.tmod (wrap64 ((wrap64 (t293 + t294)) + x6_1)) 65536]) (wrap64 (Int.tdiv (wrap64 ((wrap64 (t293 + t294)) + x6_1)) 65536)) (wrap64 (x7_1 + 1)) a0_0 l0_1 a1_0 l1_1) else (none)))) = some (r1, r2) := by rw [if_pos rfl] at H; exact H
      clear H
      have H := H1
      clear H1
      replace H := Option.bind_eq_some_iff.mp H
      obtain ⟨t293, A290, H⟩ := H
      replace H : ((parquetref01_digit.f l1_1 x7_1).bind fun t294 => (if x5_1.length < 17592186044416 then (parquetref01_Num_Plus.l0 kj11 (x5_1 ++ [Int.tmod (wrap64 ((wrap64 (t293 + t294)) + x6_1)) 65536]) (wrap64 (Int.tdiv (wrap64 ((wrap64 (t293 + t294)) + x6_1)) 65536)) (wrap64 (x7_1 + 1)) a0_0 l0_1 a1_0 l1_1) else (none))) = some (r1, r2) := H
      have A29 := Aside0.mk A290
      clear A290
      replace H := Option.bind_eq_some_iff.mp H
      obtain ⟨t294, A300, H⟩ := H
      replace H : (if x5_1.length < 17592186044416 then (parquetref01_Num_Plus.l0 kj11 (x5_1 ++ [Int.tmod (wrap64 ((wrap64 (t293 + t294)) + x6_1)) 65536]) (wrap64 (Int.tdiv (wrap64 ((wrap64 (t293 + t294)) + x6_1)) 65536)) (wrap64 (x7_1 + 1)) a0_0 l0_1 a1_0 l1_1) else (none)) = some (r1, r2) := H
      have A30 := Aside0.mk A300
      clear A300
      by_cases c31 : x5_1.length < 17592186044416
      rotate_left
      ·rw [if_neg c31] at H
       exact absurd H (by simp)
      rw [if_pos c31] at H
      have LMc31 := Aside0.mk c31
      clear c31
      obtain ⟨y295, hy295⟩ : ∃ y_ : List Int, y_ = (x5_1 ++ [Int.tmod (wrap64 ((wrap64 (t293 + t294)) + x6_1)) 65536]) := ⟨_, rfl⟩
      replace H : (parquetref01_Num_Plus.l0 kj11 y295 (wrap64 (Int.tdiv (wrap64 ((wrap64 (t293 + t294)) + x6_1)) 65536)) (wrap64 (x7_1 + 1)) a0_0 l0_1 a1_0 l1_1) = some (r1, r2) := by first | (rw [hy295]; with_reducible exact H) | (have H2_ := (Option.bind_some _ _).symm.trans H; rw [hy295]; with_reducible exact H2_) | (have H2_ := (Option.bind_some _ _).symm.trans H; with_reducible exact H2_) | with_reducible exact H | (rw [hy295]; exact H) | exact H
      have Ny295 := Aside0.mk hy295
      clear hy295
      have H' := Aside0.mk H
      clear H
      have hnb32 := NB290_291.out
      have hnc32 := NB291_290.out
      have hnb33 := NB290_292.out
      have hnc33 := NB292_290.out
      obtain ⟨hcz34_0, hcz34_1⟩ := cl2 BK290.out
      obtain ⟨hfz34_0, hfz34_1⟩ := fr2 BK290.out
      go_wp2_with (fail)
      repeat (go_quiet (first | (go_at_call 74; (with_reducible refine (parquetref01_digit.calls _ _ l0_1 x7_1 t293 _ ?side1 ?side2 A29.out).mono ?_); (case side1 => repeat (first | exact (Kd.V_reads' HO_291001.out).2.2 | (with_reducible refine Kd.C_alloc ?_ _) | (with_reducible refine Kd.C_drewN ?_ _) | (with_reducible refine Kd.C_drew ?_))); (case side2 => exact (Kd.V_reads' HO_291001.out).2.1); rintro e w' ⟨rfl, ⟨nd, rfl⟩⟩; (try first | exact ⟨rfl, _, World.drewN_drewN _ _ _⟩ | exact ⟨rfl, _, Eq.trans (World.drewN_drewN _ _ _) (congrArg (World.drewN _) (Nat.add_assoc _ _ _))⟩); have hnb35 := NB291_292.out; have hnc35 := NB292_291.out; obtain ⟨hcz36_0, hcz36_1⟩ := cl2 BK291.out; obtain ⟨hfz36_0, hfz36_1⟩ := fr2 BK291.out) | (go_at_call 74; (with_reducible refine (parquetref01_digit.calls _ _ l1_1 x7_1 t294 _ ?side1 ?side2 A30.out).mono ?_); (case side1 => repeat (first | exact (Kd.V_reads' HO_292001.out).2.2 | (with_reducible refine Kd.C_alloc ?_ _) | (with_reducible refine Kd.C_drewN ?_ _) | (with_reducible refine Kd.C_drew ?_))); (case side2 => exact (Kd.V_reads' HO_292001.out).2.1); rintro e w' ⟨rfl, ⟨nd, rfl⟩⟩; (try first | exact ⟨rfl, _, World.drewN_drewN _ _ _⟩ | exact ⟨rfl, _, Eq.trans (World.drewN_drewN _ _ _) (congrArg (World.drewN _) (Nat.add_assoc _ _ _))⟩))); try go_wp2_with (first | ((with_reducible refine gate_builtin (b := .append) (xs := #[.tmp 47, .tmp 50]) rfl ?_); (try (refine gate_guard (by rfl) ?_; dsimp only)); at_builtin; refine Kd.R_append (Kd.int .i64) (w0 := w) w.heap.size rfl (.tmp 47) (.tmp 50) 36 3 (.int .i64 0) 8 rfl Try.underlying36 info3 rfl (by decide) (by omega) u5 x5_1 (Int.tmod (wrap64 ((wrap64 (t293 + t294)) + x6_1)) 65536) [.int .i64 (Int.tmod (wrap64 ((wrap64 (t293 + t294)) + x6_1)) 65536)] (fun k_ => (w.heap.size ≤ k_)) (fun _ => False) rfl rfl ?aP (fun _ hk => hk.elim) ?aF ?aO ?aB ?aS ?aL ?_; (case aP => exact rfl); (case aB => exact (by repeat (first | (with_reducible first | exact HB.out | apply qa | apply qn | apply qd | refine qs ?_ GE290.out | refine qs ?_ GE291.out | refine qs ?_ GE292.out) | exact HB.out))); (case aF => exact (fun k_ hk => (Nat.le_trans (below_size (by repeat (first | (with_reducible first | exact HB.out | apply qa | apply qn | apply qd | refine qs ?_ GE290.out | refine qs ?_ GE291.out | refine qs ?_ GE292.out) | exact HB.out))) hk))); (case aO => exact (by (with_reducible repeat (first | apply Kd.R_alloc | apply Kd.R_drewN | apply Kd.R_drew)); exact HO_5.out)); (case aS => exact (below_size (by repeat (first | (with_reducible first | exact HB.out | apply qa | apply qn | apply qd | refine qs ?_ GE290.out | refine qs ?_ GE291.out | refine qs ?_ GE292.out) | exact HB.out)))); (case aL => have := LMc31.out; omega); intro v296 w37 ho hb hg hat; rw [← Ny295.out] at ho; have n0_ := Aside0.mk (Kd.V_afterv (ok := (fun k_ => ((P0_1_ k_ ∨ P1_1_ k_) ∨ w.heap.size ≤ k_) ∧ k_ ≠ gb290 ∧ k_ ≠ gb291 ∧ k_ ≠ gb292)) (by (with_reducible repeat (first | apply Kd.V_alloc | apply Kd.V_drewN | apply Kd.V_drew)); exact Kd.V_mono HO_291001.out (fun _ hk => ⟨⟨hk.1, ⟨hk.2.2.1, ⟨hk.2.2.2.1, hk.2.2.2.2⟩⟩⟩, hk.2.1⟩)) hg hat); have n1_ := Aside0.mk (Kd.V_afterv (ok := (fun k_ => ((P0_1_ k_ ∨ P1_1_ k_) ∨ w.heap.size ≤ k_) ∧ k_ ≠ gb290 ∧ k_ ≠ gb291 ∧ k_ ≠ gb292)) (by (with_reducible repeat (first | apply Kd.V_alloc | apply Kd.V_drewN | apply Kd.V_drew)); exact Kd.V_mono HO_292001.out (fun _ hk => ⟨⟨hk.1, ⟨hk.2.2.1, ⟨hk.2.2.2.1, hk.2.2.2.2⟩⟩⟩, hk.2.1⟩)) hg hat); have n2_ := Aside0.mk (blk_grown (g := gb290) (o := .cells #[.bool a0_0, .slice A0_1 l0_1.length c0_1] 38 (0, 0)) (by exact lb BK290.out) hg (Kd.R_ne HO_5.out BK290.out (by decide))); have n3_ := Aside0.mk (blk_grown (g := gb291) (o := .cells #[.bool a1_0, .slice A1_1 l1_1.length c1_1] 38 (0, 0)) (by exact lb BK291.out) hg (Kd.R_ne HO_5.out BK291.out (by decide))); have n4_ := Aside0.mk (blk_grown (g := gb292) (o := .cells #[.bool false, .slice none 0 0] 38 (0, 0)) (by exact lb BK292.out) hg (Kd.R_ne HO_5.out BK292.out (by decide))); have n5_ := Aside0.mk (hb); have n6_ := Aside0.mk (ho); clear HO_291001; clear HO_292001; clear BK290; clear BK291; clear BK292; clear HB; clear HO_5; have HO_291001 := n0_; have HO_292001 := n1_; have BK290 := n2_; have BK291 := n3_; have BK292 := n4_; have HB := n5_; have HO297 := n6_; clear n0_ n1_ n2_ n3_ n4_ n5_ n6_; clear ho hb hg hat)))
      go_roundg kj11
      case measure => have := HK1.out; have := HJ11.out; omega
      case rel => exact ⟨(y295), (wrap64 (Int.tdiv (wrap64 ((wrap64 (t293 + t294)) + x6_1)) 65536)), (wrap64 (x7_1 + 1)), (by first | rfl | (simp; done) | (simp [*]; done)), (by first | rfl | (simp; done) | (simp [*]; done)), H', ⟨by have := HK1.out; have := HJ11.out; omega⟩, ⟨by (with_reducible repeat (first | apply Kd.R_alloc | apply Kd.R_drewN | apply Kd.R_drew)); exact HO297.out⟩, ⟨by (with_reducible repeat (first | apply Kd.V_alloc | apply Kd.V_drewN | apply Kd.V_drew)); exact Kd.V_mono HO_291001.out (fun _ hk => ⟨hk.1.1, ⟨hk.2, ⟨hk.1.2.1, ⟨hk.1.2.2.1, hk.1.2.2.2⟩⟩⟩⟩)⟩, ⟨by (with_reducible repeat (first | apply Kd.V_alloc | apply Kd.V_drewN | apply Kd.V_drew)); exact Kd.V_mono HO_292001.out (fun _ hk => ⟨hk.1.1, ⟨hk.2, ⟨hk.1.2.1, ⟨hk.1.2.2.1, hk.1.2.2.2⟩⟩⟩⟩)⟩, ⟨by (with_reducible repeat (first | refine cn ?_ _ | refine cd ?_ | refine ca ?_ _)); exact BK290.out⟩, ⟨by (with_reducible repeat (first | refine cn ?_ _ | refine cd ?_ | refine ca ?_ _)); exact BK291.out⟩, ⟨by (with_reducible repeat (first | refine cn ?_ _ | refine cd ?_ | refine ca ?_ _)); exact BK292.out⟩, ⟨by repeat (first | (with_reducible first | exact HB.out | apply qa | apply qn | apply qd | refine qs ?_ GE290.out | refine qs ?_ GE291.out | refine qs ?_ GE292.out) | exact HB.out)⟩⟩
 rw [if_neg c3] at H
 have c3b0 : (a0_0 == a1_0) = false := by simpa using c3
 (try (have c3b1 : decide (a0_0 = a1_0) = false := by simpa using c3))
 (try (have c3b2 : (a0_0 == a1_0) = false := by simpa using c3))
 (try (have c3b3 : ¬ (a0_0 = a1_0) := by simpa using c3))
 clear c3
 replace H := Option.bind_eq_some_iff.mp H
 obtain ⟨t304, A470, H⟩ := H
 replace H : (if t304 < 0 then (parquetref01_Num_Plus.j2 k ([] : List Int) 0 a1_0 l1_1 a0_0 l0_1) else (parquetref01_Num_Plus.j2 k ([] : List Int) 0 a0_0 l0_1 a1_0 l1_1)) = some (r1, r2) := H
 have A47 := Aside0.mk A470
 clear A470
 have HC48 := Aside0.mk H
 clear H
 go_enter Try.func30, Try.ntmps30
 go_upto_if 65 with (first | ((with_reducible refine gate_dst (N := 2) rfl ?_); (try (refine gate_guard (by rfl) ?_; dsimp only)); refine box_event ?hg (N := 2) ?hd (cs := #[.bool a0_0, .slice A0_1 l0_1.length c0_1]) (t := 38) ?hr ?_; (case hd => rfl); (case hg => rfl); (case hr => first | (go_simp; done) | (go_simp; rfl)); intro gb290 hg w49 hbox hb; have n0_ := Aside0.mk (Kd.V_below (Kd.V_elderB (by (with_reducible repeat (first | apply Kd.V_alloc | apply Kd.V_drewN | apply Kd.V_drew)); exact HO0_1.out) gb290 (Nat.le_of_eq hg.symm)) hb); have n1_ := Aside0.mk (Kd.V_below (Kd.V_elderB (by (with_reducible repeat (first | apply Kd.V_alloc | apply Kd.V_drewN | apply Kd.V_drew)); exact HO1_1.out) gb290 (Nat.le_of_eq hg.symm)) hb); have n2_ := Aside0.mk (below_step (by repeat (first | (with_reducible first | exact HB.out | apply qa | apply qn | apply qd) | exact HB.out)) hb); have n3_ := Aside0.mk (hbox); have n4_ := bgw HB hg; have n5_ := bgw HB hg; clear HO0_1; clear HO1_1; clear HB; have HO0_1 := n0_; have HO1_1 := n1_; have HB := n2_; have BK290 := n3_; have GW290 := n4_; have GE290 := n5_; clear n0_ n1_ n2_ n3_ n4_ n5_; clear hb hbox hg) | ((with_reducible refine gate_dst (N := 3) rfl ?_); (try (refine gate_guard (by rfl) ?_; dsimp only)); refine box_event ?hg (N := 3) ?hd (cs := #[.bool a1_0, .slice A1_1 l1_1.length c1_1]) (t := 38) ?hr ?_; (case hd => rfl); (case hg => rfl); (case hr => first | (go_simp; done) | (go_simp; rfl)); intro gb291 hg w50 hbox hb; have n0_ := Aside0.mk (Kd.V_below (Kd.V_elderB (by (with_reducible repeat (first | apply Kd.V_alloc | apply Kd.V_drewN | apply Kd.V_drew)); exact HO0_1.out) gb291 (Nat.le_of_eq hg.symm)) hb); have n1_ := Aside0.mk (Kd.V_below (Kd.V_elderB (by (with_reducible repeat (first | apply Kd.V_alloc | apply Kd.V_drewN | apply Kd.V_drew)); exact HO1_1.out) gb291 (Nat.le_of_eq hg.symm)) hb); have n2_ := bb BK290 hb; have n3_ := Aside0.mk (below_step (by repeat (first | (with_reducible first | exact HB.out | apply qa | apply qn | apply qd | refine qs ?_ GE290.out) | exact HB.out)) hb); have n4_ := Aside0.mk (hbox); have n5_ := bgw HB hg; have n6_ := bgw HB hg; have n7_ := bnl BK290 hg; have n8_ := bng BK290 hg; clear HO0_1; clear HO1_1; clear BK290; clear HB; have HO0_1 := n0_; have HO1_1 := n1_; have BK290 := n2_; have HB := n3_; have BK291 := n4_; have GW291 := n5_; have GE291 := n6_; have NB290_291 := n7_; have NB291_290 := n8_; clear n0_ n1_ n2_ n3_ n4_ n5_ n6_ n7_ n8_; clear hb hbox hg) | ((with_reducible refine gate_dst (N := 4) rfl ?_); (try (refine gate_guard (by rfl) ?_; dsimp only)); refine box_event ?hg (N := 4) ?hd (cs := #[.bool false, .slice none 0 0]) (t := 38) ?hr ?_; (case hd => rfl); (case hg => rfl); (case hr => first | (go_simp; done) | (go_simp; rfl)); intro gb292 hg w51 hbox hb; have n0_ := Aside0.mk (Kd.V_below (Kd.V_elderB (by (with_reducible repeat (first | apply Kd.V_alloc | apply Kd.V_drewN | apply Kd.V_drew)); exact HO0_1.out) gb292 (Nat.le_of_eq hg.symm)) hb); have n1_ := Aside0.mk (Kd.V_below (Kd.V_elderB (by (with_reducible repeat (first | apply Kd.V_alloc | apply Kd.V_drewN | apply Kd.V_drew)); exact HO1_1.out) gb292 (Nat.le_of_eq hg.symm)) hb); have n2_ := bb BK290 hb; have n3_ := bb BK291 hb; have n4_ := Aside0.mk (below_step (by repeat (first | (with_reducible first | exact HB.out | apply qa | apply qn | apply qd | refine qs ?_ GE290.out | refine qs ?_ GE291.out) | exact HB.out)) hb); have n5_ := Aside0.mk (hbox); have n6_ := bgw HB hg; have n7_ := bgw HB hg; have n8_ := bnl BK290 hg; have n9_ := bng BK290 hg; have n10_ := bnl BK291 hg; have n11_ := bng BK291 hg; clear HO0_1; clear HO1_1; clear BK290; clear BK291; clear HB; have HO0_1 := n0_; have HO1_1 := n1_; have BK290 := n2_; have BK291 := n3_; have HB := n4_; have BK292 := n5_; have GW292 := n6_; have GE292 := n7_; have NB290_292 := n8_; have NB292_290 := n9_; have NB291_292 := n10_; have NB292_291 := n11_; clear n0_ n1_ n2_ n3_ n4_ n5_ n6_ n7_ n8_ n9_ n10_ n11_; clear hb hbox hg; have hnb52 := NB290_291.out; have hnc52 := NB291_290.out; have hnb53 := NB290_292.out; have hnc53 := NB292_290.out; obtain ⟨hcz54_0, hcz54_1⟩ := cl2 BK290.out; obtain ⟨hfz54_0, hfz54_1⟩ := fr2 BK290.out; have hnb55 := NB291_292.out; have hnc55 := NB292_291.out; obtain ⟨hcz56_0, hcz56_1⟩ := cl2 BK291.out; obtain ⟨hfz56_0, hfz56_1⟩ := fr2 BK291.out) | ((with_reducible refine gate_dst (N := 9) rfl ?_); (try (refine gate_guard (by rfl) ?_; dsimp only)); refine box_event ?hg (N := 9) ?hd (cs := #[.bool false, .slice none 0 0]) (t := 38) ?hr ?_; (case hd => rfl); (case hg => rfl); (case hr => first | (go_simp; done) | (go_simp; rfl)); intro gb302 hg w57 hbox hb; have n0_ := Aside0.mk (Kd.V_below (Kd.V_elderB (by (with_reducible repeat (first | apply Kd.V_alloc | apply Kd.V_drewN | apply Kd.V_drew)); exact HO0_1.out) gb302 (Nat.le_of_eq hg.symm)) hb); have n1_ := Aside0.mk (Kd.V_below (Kd.V_elderB (by (with_reducible repeat (first | apply Kd.V_alloc | apply Kd.V_drewN | apply Kd.V_drew)); exact HO1_1.out) gb302 (Nat.le_of_eq hg.symm)) hb); have n2_ := bb BK290 hb; have n3_ := bb BK291 hb; have n4_ := bb BK292 hb; have n5_ := Aside0.mk (below_step (by repeat (first | (with_reducible first | exact HB.out | apply qa | apply qn | apply qd | refine qs ?_ GE290.out | refine qs ?_ GE291.out | refine qs ?_ GE292.out) | exact HB.out)) hb); have n6_ := Aside0.mk (hbox); have n7_ := bgw HB hg; have n8_ := bgw HB hg; have n9_ := bnl BK290 hg; have n10_ := bng BK290 hg; have n11_ := bnl BK291 hg; have n12_ := bng BK291 hg; have n13_ := bnl BK292 hg; have n14_ := bng BK292 hg; clear HO0_1; clear HO1_1; clear BK290; clear BK291; clear BK292; clear HB; have HO0_1 := n0_; have HO1_1 := n1_; have BK290 := n2_; have BK291 := n3_; have BK292 := n4_; have HB := n5_; have BK302 := n6_; have GW302 := n7_; have GE302 := n8_; have NB290_302 := n9_; have NB302_290 := n10_; have NB291_302 := n11_; have NB302_291 := n12_; have NB292_302 := n13_; have NB302_292 := n14_; clear n0_ n1_ n2_ n3_ n4_ n5_ n6_ n7_ n8_ n9_ n10_ n11_ n12_ n13_ n14_; clear hb hbox hg; have hnb58 := NB302_290.out; have hnc58 := NB290_302.out; have hnb59 := NB302_291.out; have hnc59 := NB291_302.out; have hnb60 := NB302_292.out; have hnc60 := NB292_302.out; obtain ⟨hcz61_0, hcz61_1⟩ := cl2 BK302.out; obtain ⟨hfz61_0, hfz61_1⟩ := fr2 BK302.out; obtain ⟨hcz62_0, hcz62_1⟩ := cl2 BK291.out; obtain ⟨hfz62_0, hfz62_1⟩ := fr2 BK291.out) | ((with_reducible refine gate_dst (N := 10) rfl ?_); (try (refine gate_guard (by rfl) ?_; dsimp only)); refine box_event ?hg (N := 10) ?hd (cs := #[.bool false, .slice none 0 0]) (t := 38) ?hr ?_; (case hd => rfl); (case hg => rfl); (case hr => first | (go_simp; done) | (go_simp; rfl)); intro gb303 hg w63 hbox hb; have n0_ := Aside0.mk (Kd.V_below (Kd.V_elderB (by (with_reducible repeat (first | apply Kd.V_alloc | apply Kd.V_drewN | apply Kd.V_drew)); exact (Kd.V_mono (Kd.V_far (p := ⟨gb302, 1, none⟩) (Kd.V_far (p := ⟨gb302, 0, none⟩) (Kd.V_mono HO0_1.out (fun k_ hk => (⟨hk, hk.2⟩ : _ ∧ k_ ≠ gb302))) (fun _ hk => hk.2) (.bool a0_0)) (fun _ hk => hk.2) (.slice A0_1 l0_1.length c0_1)) (fun _ h_ => h_.1))) gb303 (Nat.le_of_eq hg.symm)) hb); have n1_ := Aside0.mk (Kd.V_below (Kd.V_elderB (by (with_reducible repeat (first | apply Kd.V_alloc | apply Kd.V_drewN | apply Kd.V_drew)); exact (Kd.V_mono (Kd.V_far (p := ⟨gb302, 1, none⟩) (Kd.V_far (p := ⟨gb302, 0, none⟩) (Kd.V_mono HO1_1.out (fun k_ hk => (⟨hk, hk.2⟩ : _ ∧ k_ ≠ gb302))) (fun _ hk => hk.2) (.bool a0_0)) (fun _ hk => hk.2) (.slice A0_1 l0_1.length c0_1)) (fun _ h_ => h_.1))) gb303 (Nat.le_of_eq hg.symm)) hb); have n2_ := Aside0.mk (blk_below (g := gb290) (o := .cells #[.bool a0_0, .slice A0_1 l0_1.length c0_1] 38 (0, 0)) (by repeat (with_reducible first | exact lb BK290.out | refine blk_far ?_ NB290_302.out _ | refine cn ?_ _ | refine cd ?_ | refine ca ?_ _)) hb); have n3_ := Aside0.mk (blk_below (g := gb291) (o := .cells #[.bool a1_0, .slice A1_1 l1_1.length c1_1] 38 (0, 0)) (by repeat (with_reducible first | exact lb BK291.out | refine blk_far ?_ NB291_302.out _ | refine cn ?_ _ | refine cd ?_ | refine ca ?_ _)) hb); have n4_ := Aside0.mk (blk_below (g := gb292) (o := .cells #[.bool false, .slice none 0 0] 38 (0, 0)) (by repeat (with_reducible first | exact lb BK292.out | refine blk_far ?_ NB292_302.out _ | refine cn ?_ _ | refine cd ?_ | refine ca ?_ _)) hb); have n5_ := Aside0.mk (blk_below (g := gb302) (o := .cells #[.bool a0_0, .slice A0_1 l0_1.length c0_1] 38 (0, 0)) (by (with_reducible repeat (first | refine cn ?_ _ | refine cd ?_ | refine ca ?_ _)); refine blk_put (cs := #[.bool a0_0, .slice none 0 0]) ?_ 1 _ rfl; (with_reducible repeat (first | refine cn ?_ _ | refine cd ?_ | refine ca ?_ _)); refine blk_put (cs := #[.bool false, .slice none 0 0]) ?_ 0 _ rfl; (with_reducible repeat (first | refine cn ?_ _ | refine cd ?_ | refine ca ?_ _)); exact BK302.out) hb); have n6_ := Aside0.mk (below_step (by repeat (first | (with_reducible first | exact HB.out | apply qa | apply qn | apply qd | refine qs ?_ GE290.out | refine qs ?_ GE291.out | refine qs ?_ GE292.out | refine qs ?_ GE302.out) | exact HB.out)) hb); have n7_ := Aside0.mk (hbox); have n8_ := bgw HB hg; have n9_ := bgw HB hg; have n10_ := Aside0.mk ((by rw [hg]; exact Nat.ne_of_lt (blk_lt (g := gb290) (o := .cells #[.bool a0_0, .slice A0_1 l0_1.length c0_1] 38 (0, 0)) (by repeat (with_reducible first | exact lb BK290.out | refine blk_far ?_ NB290_302.out _ | refine cn ?_ _ | refine cd ?_ | refine ca ?_ _))) : gb290 ≠ gb303)); have n11_ := Aside0.mk ((by rw [hg]; exact Nat.ne_of_gt (blk_lt (g := gb290) (o := .cells #[.bool a0_0, .slice A0_1 l0_1.length c0_1] 38 (0, 0)) (by repeat (with_reducible first | exact lb BK290.out | refine blk_far ?_ NB290_302.out _ | refine cn ?_ _ | refine cd ?_ | refine ca ?_ _))) : gb303 ≠ gb290)); have n12_ := Aside0.mk ((by rw [hg]; exact Nat.ne_of_lt (blk_lt (g := gb291) (o := .cells #[.bool a1_0, .slice A1_1 l1_1.length c1_1] 38 (0, 0)) (by repeat (with_reducible first | exact lb BK291.out | refine blk_far ?_ NB291_302.out _ | refine cn ?_ _ | refine cd ?_ | refine ca ?_ _))) : gb291 ≠ gb303)); have n13_ := Aside0.mk ((by rw [hg]; exact Nat.ne_of_gt (blk_lt (g := gb291) (o := .cells #[.bool a1_0, .slice A1_1 l1_1.length c1_1] 38 (0, 0)) (by repeat (with_reducible first | exact lb BK291.out | refine blk_far ?_ NB291_302.out _ | refine cn ?_ _ | refine cd ?_ | refine ca ?_ _))) : gb303 ≠ gb291)); have n14_ := Aside0.mk ((by rw [hg]; exact Nat.ne_of_lt (blk_lt (g := gb292) (o := .cells #[.bool false, .slice none 0 0] 38 (0, 0)) (by repeat (with_reducible first | exact lb BK292.out | refine blk_far ?_ NB292_302.out _ | refine cn ?_ _ | refine cd ?_ | refine ca ?_ _))) : gb292 ≠ gb303)); have n15_ := Aside0.mk ((by rw [hg]; exact Nat.ne_of_gt (blk_lt (g := gb292) (o := .cells #[.bool false, .slice none 0 0] 38 (0, 0)) (by repeat (with_reducible first | exact lb BK292.out | refine blk_far ?_ NB292_302.out _ | refine cn ?_ _ | refine cd ?_ | refine ca ?_ _))) : gb303 ≠ gb292)); have n16_ := Aside0.mk ((by rw [hg]; exact Nat.ne_of_lt (blk_lt (g := gb302) (o := .cells #[.bool a0_0, .slice A0_1 l0_1.length c0_1] 38 (0, 0)) (by (with_reducible repeat (first | refine cn ?_ _ | refine cd ?_ | refine ca ?_ _)); refine blk_put (cs := #[.bool a0_0, .slice none 0 0]) ?_ 1 _ rfl; (with_reducible repeat (first | refine cn ?_ _ | refine cd ?_ | refine ca ?_ _)); refine blk_put (cs := #[.bool false, .slice none 0 0]) ?_ 0 _ rfl; (with_reducible repeat (first | refine cn ?_ _ | refine cd ?_ | refine ca ?_ _)); exact BK302.out)) : gb302 ≠ gb303)); have n17_ := Aside0.mk ((by rw [hg]; exact Nat.ne_of_gt (blk_lt (g := gb302) (o := .cells #[.bool a0_0, .slice A0_1 l0_1.length c0_1] 38 (0, 0)) (by (with_reducible repeat (first | refine cn ?_ _ | refine cd ?_ | refine ca ?_ _)); refine blk_put (cs := #[.bool a0_0, .slice none 0 0]) ?_ 1 _ rfl; (with_reducible repeat (first | refine cn ?_ _ | refine cd ?_ | refine ca ?_ _)); refine blk_put (cs := #[.bool false, .slice none 0 0]) ?_ 0 _ rfl; (with_reducible repeat (first | refine cn ?_ _ | refine cd ?_ | refine ca ?_ _)); exact BK302.out)) : gb303 ≠ gb302)); clear HO0_1; clear HO1_1; clear BK290; clear BK291; clear BK292; clear BK302; clear HB; have HO0_1 := n0_; have HO1_1 := n1_; have BK290 := n2_; have BK291 := n3_; have BK292 := n4_; have BK302 := n5_; have HB := n6_; have BK303 := n7_; have GW303 := n8_; have GE303 := n9_; have NB290_303 := n10_; have NB303_290 := n11_; have NB291_303 := n12_; have NB303_291 := n13_; have NB292_303 := n14_; have NB303_292 := n15_; have NB302_303 := n16_; have NB303_302 := n17_; clear n0_ n1_ n2_ n3_ n4_ n5_ n6_ n7_ n8_ n9_ n10_ n11_ n12_ n13_ n14_ n15_ n16_ n17_; clear hb hbox hg; have hnb64 := NB303_290.out; have hnc64 := NB290_303.out; have hnb65 := NB303_291.out; have hnc65 := NB291_303.out; have hnb66 := NB303_292.out; have hnc66 := NB292_303.out; have hnb67 := NB303_302.out; have hnc67 := NB302_303.out; obtain ⟨hcz68_0, hcz68_1⟩ := cl2 BK303.out; obtain ⟨hfz68_0, hfz68_1⟩ := fr2 BK303.out; obtain ⟨hcz69_0, hcz69_1⟩ := cl2 BK290.out; obtain ⟨hfz69_0, hfz69_1⟩ := fr2 BK290.out; obtain ⟨hcz70_0, hcz70_1⟩ := cl2 BK291.out; obtain ⟨hfz70_0, hfz70_1⟩ := fr2 BK291.out) | (go_at_call 75; (with_reducible refine (parquetref01_size.calls k _ _ l0_1 _ _ l1_1 t304 _ ?side1 ?side2 ?side3 ?side4 A47.out).mono ?_); (case side1 => refine (Kd.V_reads' (e := 3) (base := w.heap.size) (ok := fun k_ => (((((((P0_1_ k_ ∨ P1_1_ k_) ∨ w.heap.size ≤ k_) ∧ k_ ≠ gb290) ∧ k_ ≠ gb291) ∧ k_ ≠ gb292) ∧ k_ ≠ gb302) ∧ k_ ≠ gb303)) (n := l0_1.length) (c := c0_1) ?_).2.2; exact (by (with_reducible repeat (first | apply Kd.V_alloc | apply Kd.V_drewN | apply Kd.V_drew)); exact (Kd.V_mono (Kd.V_far (p := ⟨gb303, 1, none⟩) (Kd.V_far (p := ⟨gb303, 0, none⟩) (Kd.V_mono HO0_1.out (fun k_ hk => (⟨hk, hk.2⟩ : _ ∧ k_ ≠ gb303))) (fun _ hk => hk.2) (.bool a1_0)) (fun _ hk => hk.2) (.slice A1_1 l1_1.length c1_1)) (fun _ h_ => h_.1)))); (case side2 => exact (Kd.V_reads' HO0_1.out).2.1); (case side3 => refine (Kd.V_reads' (e := 3) (base := w.heap.size) (ok := fun k_ => (((((((P0_1_ k_ ∨ P1_1_ k_) ∨ w.heap.size ≤ k_) ∧ k_ ≠ gb290) ∧ k_ ≠ gb291) ∧ k_ ≠ gb292) ∧ k_ ≠ gb302) ∧ k_ ≠ gb303)) (n := l1_1.length) (c := c1_1) ?_).2.2; exact (by (with_reducible repeat (first | apply Kd.V_alloc | apply Kd.V_drewN | apply Kd.V_drew)); exact (Kd.V_mono (Kd.V_far (p := ⟨gb303, 1, none⟩) (Kd.V_far (p := ⟨gb303, 0, none⟩) (Kd.V_mono HO1_1.out (fun k_ hk => (⟨hk, hk.2⟩ : _ ∧ k_ ≠ gb303))) (fun _ hk => hk.2) (.bool a1_0)) (fun _ hk => hk.2) (.slice A1_1 l1_1.length c1_1)) (fun _ h_ => h_.1)))); (case side4 => exact (Kd.V_reads' HO1_1.out).2.1); rintro e w' ⟨rfl, ⟨nd, rfl⟩⟩; (try first | exact ⟨rfl, _, World.drewN_drewN _ _ _⟩ | exact ⟨rfl, _, Eq.trans (World.drewN_drewN _ _ _) (congrArg (World.drewN _) (Nat.add_assoc _ _ _))⟩)))
 repeat (go_quiet (fail); go_upto_if 65 with (fail))
 (try simp only [Act.put, List.setIfInBounds_toArray, List.set_cons_zero, List.set_cons_succ])
 go_cut [] (fun wc => ∃ (kq : Nat) (x303000_47 : Bool) (x303001_47 : List Int) (x304000_47 : Bool) (x304001_47 : List Int) (u303001 : Value) (u304001 : Value), Aside0 (parquetref01_Num_Plus.j2 kq ([] : List Int) 0 x303000_47 x303001_47 x304000_47 x304001_47 = some (r1, r2)) ∧ Aside0 (kq ≤ k) ∧ Aside0 (Kd.R (Kd.int .i64) 3 wc w.heap.size (fun k_ => (w.heap.size ≤ k_)) (.slice none 0 0) ([] : List Int)) ∧ Aside0 (Kd.V (Kd.int .i64) 3 wc w.heap.size (fun k_ => ((P0_1_ k_ ∨ P1_1_ k_) ∨ w.heap.size ≤ k_) ∧ some k_ ≠ ((.slice none 0 0) : Value).ownBlock ∧ k_ ≠ gb290 ∧ k_ ≠ gb291 ∧ k_ ≠ gb292 ∧ k_ ≠ gb302 ∧ k_ ≠ gb303) (.slice A0_1 l0_1.length c0_1) l0_1) ∧ Aside0 (Kd.V (Kd.int .i64) 3 wc w.heap.size (fun k_ => ((P0_1_ k_ ∨ P1_1_ k_) ∨ w.heap.size ≤ k_) ∧ some k_ ≠ ((.slice none 0 0) : Value).ownBlock ∧ k_ ≠ gb290 ∧ k_ ≠ gb291 ∧ k_ ≠ gb292 ∧ k_ ≠ gb302 ∧ k_ ≠ gb303) (.slice A1_1 l1_1.length c1_1) l1_1) ∧ Aside0 (Kd.V (Kd.int .i64) 3 wc w.heap.size (fun k_ => ((P0_1_ k_ ∨ P1_1_ k_) ∨ w.heap.size ≤ k_) ∧ some k_ ≠ ((.slice none 0 0) : Value).ownBlock ∧ k_ ≠ gb290 ∧ k_ ≠ gb291 ∧ k_ ≠ gb292 ∧ k_ ≠ gb302 ∧ k_ ≠ gb303) u303001 x303001_47) ∧ Aside0 (Kd.V (Kd.int .i64) 3 wc w.heap.size (fun k_ => ((P0_1_ k_ ∨ P1_1_ k_) ∨ w.heap.size ≤ k_) ∧ some k_ ≠ ((.slice none 0 0) : Value).ownBlock ∧ k_ ≠ gb290 ∧ k_ ≠ gb291 ∧ k_ ≠ gb292 ∧ k_ ≠ gb302 ∧ k_ ≠ gb303) u304001 x304001_47) ∧ Aside0 (wc.heap[gb290]? = some (.cells #[.bool a0_0, (.slice A0_1 l0_1.length c0_1)] 38 (0, 0))) ∧ Aside0 (wc.heap[gb291]? = some (.cells #[.bool a1_0, (.slice A1_1 l1_1.length c1_1)] 38 (0, 0))) ∧ Aside0 (wc.heap[gb292]? = some (.cells #[.bool false, (.slice none 0 0)] 38 (0, 0))) ∧ Aside0 (wc.heap[gb302]? = some (.cells #[.bool x303000_47, u303001] 38 (0, 0))) ∧ Aside0 (wc.heap[gb303]? = some (.cells #[.bool x304000_47, u304001] 38 (0, 0))) ∧ Aside0 (Below w.heap.size w wc))
 case first =>
  have H := HC48.out
  clear HC48
  by_cases c71 : t304 < 0
  rotate_left
  ·rw [if_neg c71] at H
   have c71b0 : decide (t304 < 0) = false := decide_eq_false c71
   clear c71
   (first | rw [c71b0] | (simp only [i64_w, i32_w]; rw [c71b0]) | skip)
   have H' := Aside0.mk H
   clear H
   go_wp2
   repeat (go_quiet (fail); try go_wp2)
   go_meet
   case rel => exact ⟨_, (a0_0), (l0_1), (a1_0), (l1_1), (.slice A0_1 l0_1.length c0_1), (.slice A1_1 l1_1.length c1_1), H', ⟨by first | omega | exact Nat.le_refl _⟩, ⟨by first | exact Kd.R_nil _ _ _ _ _ | exact Kd.N_nil _ _ _ _ _ | exact Kd.V_nil _ _ _ _ _ | exact Kd.Q_nil _ _ _ _ _ | exact Kd.S_nil _ _ _ _ _⟩, ⟨by (with_reducible repeat (first | apply Kd.V_alloc | apply Kd.V_drewN | apply Kd.V_drew)); exact Kd.V_mono (Kd.V_far (p := ⟨gb303, 1, none⟩) (Kd.V_far (p := ⟨gb303, 0, none⟩) (Kd.V_mono HO0_1.out (fun k_ hk => (⟨hk, hk.2⟩ : _ ∧ k_ ≠ gb303))) (fun _ hk => hk.2) (.bool a1_0)) (fun _ hk => hk.2) (.slice A1_1 l1_1.length c1_1)) (fun _ hk => ⟨hk.1.1.1.1.1.1, ⟨(by simp [Value.ownBlock]), ⟨hk.1.1.1.1.1.2, ⟨hk.1.1.1.1.2, ⟨hk.1.1.1.2, ⟨hk.1.1.2, hk.1.2⟩⟩⟩⟩⟩⟩)⟩, ⟨by (with_reducible repeat (first | apply Kd.V_alloc | apply Kd.V_drewN | apply Kd.V_drew)); exact Kd.V_mono (Kd.V_far (p := ⟨gb303, 1, none⟩) (Kd.V_far (p := ⟨gb303, 0, none⟩) (Kd.V_mono HO1_1.out (fun k_ hk => (⟨hk, hk.2⟩ : _ ∧ k_ ≠ gb303))) (fun _ hk => hk.2) (.bool a1_0)) (fun _ hk => hk.2) (.slice A1_1 l1_1.length c1_1)) (fun _ hk => ⟨hk.1.1.1.1.1.1, ⟨(by simp [Value.ownBlock]), ⟨hk.1.1.1.1.1.2, ⟨hk.1.1.1.1.2, ⟨hk.1.1.1.2, ⟨hk.1.1.2, hk.1.2⟩⟩⟩⟩⟩⟩)⟩, ⟨by (with_reducible repeat (first | apply Kd.V_alloc | apply Kd.V_drewN | apply Kd.V_drew)); exact Kd.V_mono (Kd.V_far (p := ⟨gb303, 1, none⟩) (Kd.V_far (p := ⟨gb303, 0, none⟩) (Kd.V_mono HO0_1.out (fun k_ hk => (⟨hk, hk.2⟩ : _ ∧ k_ ≠ gb303))) (fun _ hk => hk.2) (.bool a1_0)) (fun _ hk => hk.2) (.slice A1_1 l1_1.length c1_1)) (fun _ hk => ⟨hk.1.1.1.1.1.1, ⟨(by simp [Value.ownBlock]), ⟨hk.1.1.1.1.1.2, ⟨hk.1.1.1.1.2, ⟨hk.1.1.1.2, ⟨hk.1.1.2, hk.1.2⟩⟩⟩⟩⟩⟩)⟩, ⟨by (with_reducible repeat (first | apply Kd.V_alloc | apply Kd.V_drewN | apply Kd.V_drew)); exact Kd.V_mono (Kd.V_far (p := ⟨gb303, 1, none⟩) (Kd.V_far (p := ⟨gb303, 0, none⟩) (Kd.V_mono HO1_1.out (fun k_ hk => (⟨hk, hk.2⟩ : _ ∧ k_ ≠ gb303))) (fun _ hk => hk.2) (.bool a1_0)) (fun _ hk => hk.2) (.slice A1_1 l1_1.length c1_1)) (fun _ hk => ⟨hk.1.1.1.1.1.1, ⟨(by simp [Value.ownBlock]), ⟨hk.1.1.1.1.1.2, ⟨hk.1.1.1.1.2, ⟨hk.1.1.1.2, ⟨hk.1.1.2, hk.1.2⟩⟩⟩⟩⟩⟩)⟩, ⟨by repeat (with_reducible first | exact lb BK290.out | refine blk_far ?_ NB290_303.out _ | refine cn ?_ _ | refine cd ?_ | refine ca ?_ _)⟩, ⟨by repeat (with_reducible first | exact lb BK291.out | refine blk_far ?_ NB291_303.out _ | refine cn ?_ _ | refine cd ?_ | refine ca ?_ _)⟩, ⟨by repeat (with_reducible first | exact lb BK292.out | refine blk_far ?_ NB292_303.out _ | refine cn ?_ _ | refine cd ?_ | refine ca ?_ _)⟩, ⟨by repeat (with_reducible first | exact lb BK302.out | refine blk_far ?_ NB302_303.out _ | refine cn ?_ _ | refine cd ?_ | refine ca ?_ _)⟩, ⟨by (with_reducible repeat (first | refine cn ?_ _ | refine cd ?_ | refine ca ?_ _)); refine blk_put (cs := #[.bool a1_0, .slice none 0 0]) ?_ 1 _ rfl; (with_reducible repeat (first | refine cn ?_ _ | refine cd ?_ | refine ca ?_ _)); refine blk_put (cs := #[.bool false, .slice none 0 0]) ?_ 0 _ rfl; (with_reducible repeat (first | refine cn ?_ _ | refine cd ?_ | refine ca ?_ _)); exact BK303.out⟩, ⟨by repeat (first | (with_reducible first | exact HB.out | apply qa | apply qn | apply qd | refine qs ?_ GE290.out | refine qs ?_ GE291.out | refine qs ?_ GE292.out | refine qs ?_ GE302.out | refine qs ?_ GE303.out) | exact HB.out)⟩⟩
  rw [if_pos c71] at H
  have c71b0 : decide (t304 < 0) = true := decide_eq_true c71
  clear c71
  (first | rw [c71b0] | (simp only [i64_w, i32_w]; rw [c71b0]) | skip)
  have H' := Aside0.mk H
  clear H
  have hnb72 := NB291_290.out
  have hnc72 := NB290_291.out
  have hnb73 := NB291_292.out
  have hnc73 := NB292_291.out
  have hnb74 := NB291_302.out
  have hnc74 := NB302_291.out
  have hnb75 := NB291_303.out
  have hnc75 := NB303_291.out
  obtain ⟨hcz76_0, hcz76_1⟩ := cl2 BK291.out
  obtain ⟨hfz76_0, hfz76_1⟩ := fr2 BK291.out
  have hnb77 := NB302_290.out
  have hnc77 := NB290_302.out
  have hnb78 := NB302_292.out
  have hnc78 := NB292_302.out
  have hnb79 := NB302_303.out
  have hnc79 := NB303_302.out
  obtain ⟨hcz80_0, hcz80_1⟩ := cl2 BK302.out
  obtain ⟨hfz80_0, hfz80_1⟩ := fr2 BK302.out
  have hnb81 := NB290_292.out
  have hnc81 := NB292_290.out
  have hnb82 := NB290_303.out
  have hnc82 := NB303_290.out
  obtain ⟨hcz83_0, hcz83_1⟩ := cl2 BK290.out
  obtain ⟨hfz83_0, hfz83_1⟩ := fr2 BK290.out
  have hnb84 := NB303_292.out
  have hnc84 := NB292_303.out
  obtain ⟨hcz85_0, hcz85_1⟩ := cl2 BK303.out
  obtain ⟨hfz85_0, hfz85_1⟩ := fr2 BK303.out
  go_wp2
  repeat (go_quiet (fail); try go_wp2)
  go_meet
  case rel => exact ⟨_, (a1_0), (l1_1), (a0_0), (l0_1), (.slice A1_1 l1_1.length c1_1), (.slice A0_1 l0_1.length c0_1), H', ⟨by first | omega | exact Nat.le_refl _⟩, ⟨by first | exact Kd.R_nil _ _ _ _ _ | exact Kd.N_nil _ _ _ _ _ | exact Kd.V_nil _ _ _ _ _ | exact Kd.Q_nil _ _ _ _ _ | exact Kd.S_nil _ _ _ _ _⟩, ⟨by (with_reducible repeat (first | apply Kd.V_alloc | apply Kd.V_drewN | apply Kd.V_drew)); exact Kd.V_mono (Kd.V_far (p := ⟨gb303, 1, none⟩) (Kd.V_far (p := ⟨gb303, 0, none⟩) (Kd.V_far (p := ⟨gb302, 1, none⟩) (Kd.V_far (p := ⟨gb302, 0, none⟩) (Kd.V_far (p := ⟨gb303, 1, none⟩) (Kd.V_far (p := ⟨gb303, 0, none⟩) (Kd.V_mono (Kd.V_mono HO0_1.out (fun k_ hk => (⟨hk, hk.2⟩ : _ ∧ k_ ≠ gb303))) (fun k_ hk => (⟨hk, hk.1.1.2⟩ : _ ∧ k_ ≠ gb302))) (fun _ hk => hk.1.2) (.bool a1_0)) (fun _ hk => hk.1.2) (.slice A1_1 l1_1.length c1_1)) (fun _ hk => hk.2) (.bool a1_0)) (fun _ hk => hk.2) (.slice A1_1 l1_1.length c1_1)) (fun _ hk => hk.1.2) (.bool a0_0)) (fun _ hk => hk.1.2) (.slice A0_1 l0_1.length c0_1)) (fun _ hk => ⟨hk.1.1.1.1.1.1.1, ⟨(by simp [Value.ownBlock]), ⟨hk.1.1.1.1.1.1.2, ⟨hk.1.1.1.1.1.2, ⟨hk.1.1.1.1.2, ⟨hk.1.1.1.2, hk.1.1.2⟩⟩⟩⟩⟩⟩)⟩, ⟨by (with_reducible repeat (first | apply Kd.V_alloc | apply Kd.V_drewN | apply Kd.V_drew)); exact Kd.V_mono (Kd.V_far (p := ⟨gb303, 1, none⟩) (Kd.V_far (p := ⟨gb303, 0, none⟩) (Kd.V_far (p := ⟨gb302, 1, none⟩) (Kd.V_far (p := ⟨gb302, 0, none⟩) (Kd.V_far (p := ⟨gb303, 1, none⟩) (Kd.V_far (p := ⟨gb303, 0, none⟩) (Kd.V_mono (Kd.V_mono HO1_1.out (fun k_ hk => (⟨hk, hk.2⟩ : _ ∧ k_ ≠ gb303))) (fun k_ hk => (⟨hk, hk.1.1.2⟩ : _ ∧ k_ ≠ gb302))) (fun _ hk => hk.1.2) (.bool a1_0)) (fun _ hk => hk.1.2) (.slice A1_1 l1_1.length c1_1)) (fun _ hk => hk.2) (.bool a1_0)) (fun _ hk => hk.2) (.slice A1_1 l1_1.length c1_1)) (fun _ hk => hk.1.2) (.bool a0_0)) (fun _ hk => hk.1.2) (.slice A0_1 l0_1.length c0_1)) (fun _ hk => ⟨hk.1.1.1.1.1.1.1, ⟨(by simp [Value.ownBlock]), ⟨hk.1.1.1.1.1.1.2, ⟨hk.1.1.1.1.1.2, ⟨hk.1.1.1.1.2, ⟨hk.1.1.1.2, hk.1.1.2⟩⟩⟩⟩⟩⟩)⟩, ⟨by (with_reducible repeat (first | apply Kd.V_alloc | apply Kd.V_drewN | apply Kd.V_drew)); exact Kd.V_mono (Kd.V_far (p := ⟨gb303, 1, none⟩) (Kd.V_far (p := ⟨gb303, 0, none⟩) (Kd.V_far (p := ⟨gb302, 1, none⟩) (Kd.V_far (p := ⟨gb302, 0, none⟩) (Kd.V_far (p := ⟨gb303, 1, none⟩) (Kd.V_far (p := ⟨gb303, 0, none⟩) (Kd.V_mono (Kd.V_mono HO1_1.out (fun k_ hk => (⟨hk, hk.2⟩ : _ ∧ k_ ≠ gb303))) (fun k_ hk => (⟨hk, hk.1.1.2⟩ : _ ∧ k_ ≠ gb302))) (fun _ hk => hk.1.2) (.bool a1_0)) (fun _ hk => hk.1.2) (.slice A1_1 l1_1.length c1_1)) (fun _ hk => hk.2) (.bool a1_0)) (fun _ hk => hk.2) (.slice A1_1 l1_1.length c1_1)) (fun _ hk => hk.1.2) (.bool a0_0)) (fun _ hk => hk.1.2) (.slice A0_1 l0_1.length c0_1)) (fun _ hk => ⟨hk.1.1.1.1.1.1.1, ⟨(by simp [Value.ownBlock]), ⟨hk.1.1.1.1.1.1.2, ⟨hk.1.1.1.1.1.2, ⟨hk.1.1.1.1.2, ⟨hk.1.1.1.2, hk.1.1.2⟩⟩⟩⟩⟩⟩)⟩, ⟨by (with_reducible repeat (first | apply Kd.V_alloc | apply Kd.V_drewN | apply Kd.V_drew)); exact Kd.V_mono (Kd.V_far (p := ⟨gb303, 1, none⟩) (Kd.V_far (p := ⟨gb303, 0, none⟩) (Kd.V_far (p := ⟨gb302, 1, none⟩) (Kd.V_far (p := ⟨gb302, 0, none⟩) (Kd.V_far (p := ⟨gb303, 1, none⟩) (Kd.V_far (p := ⟨gb303, 0, none⟩) (Kd.V_mono (Kd.V_mono HO0_1.out (fun k_ hk => (⟨hk, hk.2⟩ : _ ∧ k_ ≠ gb303))) (fun k_ hk => (⟨hk, hk.1.1.2⟩ : _ ∧ k_ ≠ gb302))) (fun _ hk => hk.1.2) (.bool a1_0)) (fun _ hk => hk.1.2) (.slice A1_1 l1_1.length c1_1)) (fun _ hk => hk.2) (.bool a1_0)) (fun _ hk => hk.2) (.slice A1_1 l1_1.length c1_1)) (fun _ hk => hk.1.2) (.bool a0_0)) (fun _ hk => hk.1.2) (.slice A0_1 l0_1.length c0_1)) (fun _ hk => ⟨hk.1.1.1.1.1.1.1, ⟨(by simp [Value.ownBlock]), ⟨hk.1.1.1.1.1.1.2, ⟨hk.1.1.1.1.1.2, ⟨hk.1.1.1.1.2, ⟨hk.1.1.1.2, hk.1.1.2⟩⟩⟩⟩⟩⟩)⟩, ⟨by repeat (with_reducible first | exact lb BK290.out | refine blk_far ?_ NB290_303.out _ | refine blk_far ?_ NB290_302.out _ | refine cn ?_ _ | refine cd ?_ | refine ca ?_ _)⟩, ⟨by repeat (with_reducible first | exact lb BK291.out | refine blk_far ?_ NB291_303.out _ | refine blk_far ?_ NB291_302.out _ | refine cn ?_ _ | refine cd ?_ | refine ca ?_ _)⟩, ⟨by repeat (with_reducible first | exact lb BK292.out | refine blk_far ?_ NB292_303.out _ | refine blk_far ?_ NB292_302.out _ | refine cn ?_ _ | refine cd ?_ | refine ca ?_ _)⟩, ⟨by (with_reducible repeat (first | refine cn ?_ _ | refine cd ?_ | refine ca ?_ _)); refine blk_far ?_ NB302_303.out _; (with_reducible repeat (first | refine cn ?_ _ | refine cd ?_ | refine ca ?_ _)); refine blk_far ?_ NB302_303.out _; (with_reducible repeat (first | refine cn ?_ _ | refine cd ?_ | refine ca ?_ _)); refine blk_put (cs := #[.bool a1_0, .slice A0_1 l0_1.length c0_1]) ?_ 1 _ rfl; (with_reducible repeat (first | refine cn ?_ _ | refine cd ?_ | refine ca ?_ _)); refine blk_put (cs := #[.bool a0_0, .slice A0_1 l0_1.length c0_1]) ?_ 0 _ rfl; (with_reducible repeat (first | refine cn ?_ _ | refine cd ?_ | refine ca ?_ _)); refine blk_far ?_ NB302_303.out _; (with_reducible repeat (first | refine cn ?_ _ | refine cd ?_ | refine ca ?_ _)); refine blk_far ?_ NB302_303.out _; (with_reducible repeat (first | refine cn ?_ _ | refine cd ?_ | refine ca ?_ _)); exact BK302.out⟩, ⟨by (with_reducible repeat (first | refine cn ?_ _ | refine cd ?_ | refine ca ?_ _)); refine blk_put (cs := #[.bool a0_0, .slice A1_1 l1_1.length c1_1]) ?_ 1 _ rfl; (with_reducible repeat (first | refine cn ?_ _ | refine cd ?_ | refine ca ?_ _)); refine blk_put (cs := #[.bool a1_0, .slice A1_1 l1_1.length c1_1]) ?_ 0 _ rfl; (with_reducible repeat (first | refine cn ?_ _ | refine cd ?_ | refine ca ?_ _)); refine blk_far ?_ NB303_302.out _; (with_reducible repeat (first | refine cn ?_ _ | refine cd ?_ | refine ca ?_ _)); refine blk_far ?_ NB303_302.out _; (with_reducible repeat (first | refine cn ?_ _ | refine cd ?_ | refine ca ?_ _)); refine blk_put (cs := #[.bool a1_0, .slice none 0 0]) ?_ 1 _ rfl; (with_reducible repeat (first | refine cn ?_ _ | refine cd ?_ | refine ca ?_ _)); refine blk_put (cs := #[.bool false, .slice none 0 0]) ?_ 0 _ rfl; (with_reducible repeat (first | refine cn ?_ _ | refine cd ?_ | refine ca ?_ _)); exact BK303.out⟩, ⟨by repeat (first | (with_reducible first | exact HB.out | apply qa | apply qn | apply qd | refine qs ?_ GE290.out | refine qs ?_ GE291.out | refine qs ?_ GE292.out | refine qs ?_ GE302.out | refine qs ?_ GE303.out) | exact HB.out)⟩⟩
 case rest =>
  clear HC48
  try clear c1
  try clear c2
  try clear p2
  try clear c3
  try clear c3b0
  try clear c3b1
  try clear c3b2
  try clear c4
  try clear c5
  try clear c6
  try clear p6
  try clear c7
  try clear c8
  try clear c10
  try clear c13
  try clear c13b0
  try clear c14
  try clear c15
  try clear c17
  try clear c17b0
  try clear c18
  try clear c19
  try clear c21
  try clear c23
  try clear c24
  try clear c26
  try clear c28
  try clear c30
  try clear c31
  try clear c32
  try clear c33
  try clear c35
  try clear c39
  try clear c40
  try clear c44
  try clear c52
  try clear c53
  try clear c55
  try clear c58
  try clear c59
  try clear c60
  try clear c64
  try clear p64
  try clear c65
  try clear c66
  try clear c67
  try clear c71
  try clear c71b0
  try clear c72
  try clear c73
  try clear c74
  try clear c75
  try clear c77
  try clear c78
  try clear c79
  try clear c81
  try clear c82
  try clear c84
  try clear hcz11_0
  try clear hcz11_1
  try clear hcz16_0
  try clear hcz16_1
  try clear hcz20_0
  try clear hcz20_1
  try clear hcz22_0
  try clear hcz22_1
  try clear hcz25_0
  try clear hcz25_1
  try clear hcz27_0
  try clear hcz27_1
  try clear hcz34_0
  try clear hcz34_1
  try clear hcz36_0
  try clear hcz36_1
  try clear hcz41_0
  try clear hcz41_1
  try clear hcz45_0
  try clear hcz45_1
  try clear hcz54_0
  try clear hcz54_1
  try clear hcz56_0
  try clear hcz56_1
  try clear hcz61_0
  try clear hcz61_1
  try clear hcz62_0
  try clear hcz62_1
  try clear hcz68_0
  try clear hcz68_1
  try clear hcz69_0
  try clear hcz69_1
  try clear hcz70_0
  try clear hcz70_1
  try clear hcz76_0
  try clear hcz76_1
  try clear hcz80_0
  try clear hcz80_1
  try clear hcz83_0
  try clear hcz83_1
  try clear hcz85_0
  try clear hcz85_1
  try clear hcz9_0
  try clear hcz9_1
  try clear hfz11_0
  try clear hfz11_1
  try clear hfz16_0
  try clear hfz16_1
  try clear hfz20_0
  try clear hfz20_1
  try clear hfz22_0
  try clear hfz22_1
  try clear hfz25_0
  try clear hfz25_1
  try clear hfz27_0
  try clear hfz27_1
  try clear hfz34_0
  try clear hfz34_1
  try clear hfz36_0
  try clear hfz36_1
  try clear hfz41_0
  try clear hfz41_1
  try clear hfz45_0
  try clear hfz45_1
  try clear hfz54_0
  try clear hfz54_1
  try clear hfz56_0
  try clear hfz56_1
  try clear hfz61_0
  try clear hfz61_1
  try clear hfz62_0
  try clear hfz62_1
  try clear hfz68_0
  try clear hfz68_1
  try clear hfz69_0
  try clear hfz69_1
  try clear hfz70_0
  try clear hfz70_1
  try clear hfz76_0
  try clear hfz76_1
  try clear hfz80_0
  try clear hfz80_1
  try clear hfz83_0
  try clear hfz83_1
  try clear hfz85_0
  try clear hfz85_1
  try clear hfz9_0
  try clear hfz9_1
  try clear p2
  obtain ⟨kq, x303000_47, x303001_47, x304000_47, x304001_47, u303001, u304001, HA, HJ47, HO_5, HO_291001, HO_292001, HO_303001, HO_304001, BK290, BK291, BK292, BK302, BK303, HB⟩ := hcut
  cases kq with
  | zero => exact absurd HA.out (by simp [parquetref01_Num_Plus.j2])
  | succ kj47 =>
   have H := HA.out
   clear HA
   simp only [parquetref01_Num_Plus.j2] at H
   have H' := Aside0.mk H
   clear H
   go_wp2
   repeat (go_quiet (fail); try go_wp2)
   go_loopg [5, 6, 11] kj47 (fun kq v5 v6 v11 w' => ∃ (x5_2 : List Int) (x6_2 : Int) (x11_2 : Int), v6 = .int .i64 x6_2 ∧ v11 = .int .i64 x11_2 ∧ Aside0 (parquetref01_Num_Plus.l1 kq x5_2 x6_2 x11_2 x303000_47 x303001_47 x304000_47 x304001_47 = some (r1, r2)) ∧ Aside0 (kq ≤ kj47) ∧ Aside0 (Kd.R (Kd.int .i64) 3 w' w.heap.size (fun k_ => (w.heap.size ≤ k_)) v5 x5_2) ∧ Aside0 (Kd.V (Kd.int .i64) 3 w' w.heap.size (fun k_ => ((P0_1_ k_ ∨ P1_1_ k_) ∨ w.heap.size ≤ k_) ∧ some k_ ≠ (v5 : Value).ownBlock ∧ k_ ≠ gb290 ∧ k_ ≠ gb291 ∧ k_ ≠ gb292 ∧ k_ ≠ gb302 ∧ k_ ≠ gb303) (.slice A0_1 l0_1.length c0_1) l0_1) ∧ Aside0 (Kd.V (Kd.int .i64) 3 w' w.heap.size (fun k_ => ((P0_1_ k_ ∨ P1_1_ k_) ∨ w.heap.size ≤ k_) ∧ some k_ ≠ (v5 : Value).ownBlock ∧ k_ ≠ gb290 ∧ k_ ≠ gb291 ∧ k_ ≠ gb292 ∧ k_ ≠ gb302 ∧ k_ ≠ gb303) (.slice A1_1 l1_1.length c1_1) l1_1) ∧ Aside0 (Kd.V (Kd.int .i64) 3 w' w.heap.size (fun k_ => ((P0_1_ k_ ∨ P1_1_ k_) ∨ w.heap.size ≤ k_) ∧ some k_ ≠ (v5 : Value).ownBlock ∧ k_ ≠ gb290 ∧ k_ ≠ gb291 ∧ k_ ≠ gb292 ∧ k_ ≠ gb302 ∧ k_ ≠ gb303) u303001 x303001_47) ∧ Aside0 (Kd.V (Kd.int .i64) 3 w' w.heap.size (fun k_ => ((P0_1_ k_ ∨ P1_1_ k_) ∨ w.heap.size ≤ k_) ∧ some k_ ≠ (v5 : Value).ownBlock ∧ k_ ≠ gb290 ∧ k_ ≠ gb291 ∧ k_ ≠ gb292 ∧ k_ ≠ gb302 ∧ k_ ≠ gb303) u304001 x304001_47) ∧ Aside0 (w'.heap[gb290]? = some (.cells #[.bool a0_0, (.slice A0_1 l0_1.length c0_1)] 38 (0, 0))) ∧ Aside0 (w'.heap[gb291]? = some (.cells #[.bool a1_0, (.slice A1_1 l1_1.length c1_1)] 38 (0, 0))) ∧ Aside0 (w'.heap[gb292]? = some (.cells #[.bool false, (.slice none 0 0)] 38 (0, 0))) ∧ Aside0 (w'.heap[gb302]? = some (.cells #[.bool x303000_47, u303001] 38 (0, 0))) ∧ Aside0 (w'.heap[gb303]? = some (.cells #[.bool x304000_47, u304001] 38 (0, 0))) ∧ Aside0 (Below w.heap.size w w'))
   case atStart => exact ⟨(([] : List Int)), (0), (0), (by first | rfl | (simp; done) | (simp [*]; done)), (by first | rfl | (simp; done) | (simp [*]; done)), H', ⟨Nat.le_refl _⟩, ⟨by (with_reducible repeat (first | apply Kd.R_alloc | apply Kd.R_drewN | apply Kd.R_drew)); exact HO_5.out⟩, ⟨by (with_reducible repeat (first | apply Kd.V_alloc | apply Kd.V_drewN | apply Kd.V_drew)); exact HO_291001.out⟩, ⟨by (with_reducible repeat (first | apply Kd.V_alloc | apply Kd.V_drewN | apply Kd.V_drew)); exact HO_292001.out⟩, ⟨by (with_reducible repeat (first | apply Kd.V_alloc | apply Kd.V_drewN | apply Kd.V_drew)); exact HO_303001.out⟩, ⟨by (with_reducible repeat (first | apply Kd.V_alloc | apply Kd.V_drewN | apply Kd.V_drew)); exact HO_304001.out⟩, ⟨by (with_reducible repeat (first | refine cn ?_ _ | refine cd ?_ | refine ca ?_ _)); exact BK290.out⟩, ⟨by (with_reducible repeat (first | refine cn ?_ _ | refine cd ?_ | refine ca ?_ _)); exact BK291.out⟩, ⟨by (with_reducible repeat (first | refine cn ?_ _ | refine cd ?_ | refine ca ?_ _)); exact BK292.out⟩, ⟨by (with_reducible repeat (first | refine cn ?_ _ | refine cd ?_ | refine ca ?_ _)); exact BK302.out⟩, ⟨by (with_reducible repeat (first | refine cn ?_ _ | refine cd ?_ | refine ca ?_ _)); exact BK303.out⟩, ⟨by repeat (first | (with_reducible first | exact HB.out | apply qa | apply qn | apply qd | refine qs ?_ GE290.out | refine qs ?_ GE291.out | refine qs ?_ GE292.out | refine qs ?_ GE302.out | refine qs ?_ GE303.out) | exact HB.out)⟩⟩
   case round =>
    clear H'
    try clear c1
    try clear c2
    try clear p2
    try clear c3
    try clear c3b0
    try clear c3b1
    try clear c3b2
    try clear c4
    try clear c5
    try clear c6
    try clear p6
    try clear c7
    try clear c8
    try clear c10
    try clear c13
    try clear c13b0
    try clear c14
    try clear c15
    try clear c17
    try clear c17b0
    try clear c18
    try clear c19
    try clear c21
    try clear c23
    try clear c24
    try clear c26
    try clear c28
    try clear c30
    try clear c31
    try clear c32
    try clear c33
    try clear c35
    try clear c39
    try clear c40
    try clear c44
    try clear c52
    try clear c53
    try clear c55
    try clear c58
    try clear c59
    try clear c60
    try clear c64
    try clear p64
    try clear c65
    try clear c66
    try clear c67
    try clear c71
    try clear c71b0
    try clear c72
    try clear c73
    try clear c74
    try clear c75
    try clear c77
    try clear c78
    try clear c79
    try clear c81
    try clear c82
    try clear c84
    try clear hcz11_0
    try clear hcz11_1
    try clear hcz16_0
    try clear hcz16_1
    try clear hcz20_0
    try clear hcz20_1
    try clear hcz22_0
    try clear hcz22_1
    try clear hcz25_0
    try clear hcz25_1
    try clear hcz27_0
    try clear hcz27_1
    try clear hcz34_0
    try clear hcz34_1
    try clear hcz36_0
    try clear hcz36_1
    try clear hcz41_0
    try clear hcz41_1
    try clear hcz45_0
    try clear hcz45_1
    try clear hcz54_0
    try clear hcz54_1
    try clear hcz56_0
    try clear hcz56_1
    try clear hcz61_0
    try clear hcz61_1
    try clear hcz62_0
    try clear hcz62_1
    try clear hcz68_0
    try clear hcz68_1
    try clear hcz69_0
    try clear hcz69_1
    try clear hcz70_0
    try clear hcz70_1
    try clear hcz76_0
    try clear hcz76_1
    try clear hcz80_0
    try clear hcz80_1
    try clear hcz83_0
    try clear hcz83_1
    try clear hcz85_0
    try clear hcz85_1
    try clear hcz9_0
    try clear hcz9_1
    try clear hfz11_0
    try clear hfz11_1
    try clear hfz16_0
    try clear hfz16_1
    try clear hfz20_0
    try clear hfz20_1
    try clear hfz22_0
    try clear hfz22_1
    try clear hfz25_0
    try clear hfz25_1
    try clear hfz27_0
    try clear hfz27_1
    try clear hfz34_0
    try clear hfz34_1
    try clear hfz36_0
    try clear hfz36_1
    try clear hfz41_0
    try clear hfz41_1
    try clear hfz45_0
    try clear hfz45_1
    try clear hfz54_0
    try clear hfz54_1
    try clear hfz56_0
    try clear hfz56_1
    try clear hfz61_0
    try clear hfz61_1
    try clear hfz62_0
    try clear hfz62_1
    try clear hfz68_0
    try clear hfz68_1
    try clear hfz69_0
    try clear hfz69_1
    try clear hfz70_0
    try clear hfz70_1
    try clear hfz76_0
    try clear hfz76_1
    try clear hfz80_0
    try clear hfz80_1
    try clear hfz83_0
    try clear hfz83_1
    try clear hfz85_0
    try clear hfz85_1
    try clear hfz9_0
    try clear hfz9_1
    try clear p2
    try clear p6
    try clear p64
    obtain ⟨x5_2, x6_2, x11_2, rfl, rfl, HA, HK2, HO_5, HO_291001, HO_292001, HO_303001, HO_304001, BK290, BK291, BK292, BK302, BK303, HB⟩ := hrel
    cases gk with
    | zero => exact absurd HA.out (by simp [parquetref01_Num_Plus.l1])
    | succ k2 =>
     have H := HA.out
     clear HA
     simp only [parquetref01_Num_Plus.l1] at H
     by_cases c86 : x11_2 < (x303001_47.length : Int)
     rotate_left
     ·rw [if_neg c86] at H
      have c86b0 : decide (x11_2 < (x303001_47.length : Int)) = false := decide_eq_false c86
      clear c86
      replace H := Option.bind_eq_some_iff.mp H
      obtain ⟨⟨t313, t314⟩, A1160, H⟩ := H
      replace H : (some (t313, t314)) = some (r1, r2) := H
      have A116 := Aside0.mk A1160
      clear A1160
      simp only [Option.some.injEq, Prod.mk.injEq] at H
      obtain ⟨rfl, rfl⟩ := H
      have hnb117 := NB302_290.out
      have hnc117 := NB290_302.out
      have hnb118 := NB302_291.out
      have hnc118 := NB291_302.out
      have hnb119 := NB302_292.out
      have hnc119 := NB292_302.out
      have hnb120 := NB302_303.out
      have hnc120 := NB303_302.out
      obtain ⟨hcz121_0, hcz121_1⟩ := cl2 BK302.out
      obtain ⟨hfz121_0, hfz121_1⟩ := fr2 BK302.out
      obtain ⟨Ao122, co122, eo122⟩ := Kd.V_slice HO_303001.out
      subst eo122
      obtain ⟨Ao123, co123, eo123⟩ := Kd.R_slice HO_5.out
      subst eo123
      go_wp2_with (first | (go_at_call 73; (with_reducible refine (parquetref01_trim.calls k2 x303000_47 (fun k_ => some k_ = (.slice Ao123 x5_2.length co123 : Value).ownBlock) _ _ x5_2 t313 t314 _ ?side1 A116.out).mono ?_); (case side1 => exact Kd.R_V (Kd.R_tight rfl (Kd.R_types (Kd.R_types (Kd.R_types (Kd.R_types (Kd.R_types (HO_5.out) BK290.out (by decide)) BK291.out (by decide)) BK292.out (by decide)) BK302.out (by decide)) BK303.out (by decide)))); rintro e w124 ⟨v315, rfl, ho0, hb⟩; have n0_ := Aside0.mk (Kd.R_below (by (with_reducible repeat (first | apply Kd.R_alloc | apply Kd.R_drewN | apply Kd.R_drew)); exact HO_5.out) hb); have n1_ := Aside0.mk (Kd.V_below (by (with_reducible repeat (first | apply Kd.V_alloc | apply Kd.V_drewN | apply Kd.V_drew)); exact HO_291001.out) hb); have n2_ := Aside0.mk (Kd.V_below (by (with_reducible repeat (first | apply Kd.V_alloc | apply Kd.V_drewN | apply Kd.V_drew)); exact HO_292001.out) hb); have n3_ := Aside0.mk (Kd.V_below (by (with_reducible repeat (first | apply Kd.V_alloc | apply Kd.V_drewN | apply Kd.V_drew)); exact HO_303001.out) hb); have n4_ := Aside0.mk (Kd.V_below (by (with_reducible repeat (first | apply Kd.V_alloc | apply Kd.V_drewN | apply Kd.V_drew)); exact HO_304001.out) hb); have n5_ := Aside0.mk (Kd.V_lower (Kd.V_mono (ok' := fun k_ => ((P0_1_ k_ ∨ P1_1_ k_) ∨ w.heap.size ≤ k_) ∧ k_ ≠ gb290 ∧ k_ ≠ gb291 ∧ k_ ≠ gb292 ∧ k_ ≠ gb302 ∧ k_ ≠ gb303) ho0 (fun k_ hk_ => ⟨Or.elim hk_ (fun hs_ => (.inr (((Kd.R_types (Kd.R_types (Kd.R_types (Kd.R_types (Kd.R_types (HO_5.out) BK290.out (by decide)) BK291.out (by decide)) BK292.out (by decide)) BK302.out (by decide)) BK303.out (by decide)).1 k_ hs_.symm).1.1.1.1.1))) (fun hn_ => (.inr (Nat.le_trans (below_size (by repeat (first | (with_reducible first | exact HB.out | apply qa | apply qn | apply qd | refine qs ?_ GE290.out | refine qs ?_ GE291.out | refine qs ?_ GE292.out | refine qs ?_ GE302.out | refine qs ?_ GE303.out) | exact HB.out))) hn_))), Or.elim hk_ (fun hs_ => ((Kd.R_types (Kd.R_types (Kd.R_types (Kd.R_types (Kd.R_types (HO_5.out) BK290.out (by decide)) BK291.out (by decide)) BK292.out (by decide)) BK302.out (by decide)) BK303.out (by decide)).1 k_ hs_.symm).1.1.1.1.2) (fun hn_ => (Kd.freshB (g := gb290) (o := .cells #[.bool a0_0, .slice A0_1 l0_1.length c0_1] 38 (0, 0)) (by exact lb BK290.out) k_ hn_)), Or.elim hk_ (fun hs_ => ((Kd.R_types (Kd.R_types (Kd.R_types (Kd.R_types (Kd.R_types (HO_5.out) BK290.out (by decide)) BK291.out (by decide)) BK292.out (by decide)) BK302.out (by decide)) BK303.out (by decide)).1 k_ hs_.symm).1.1.1.2) (fun hn_ => (Kd.freshB (g := gb291) (o := .cells #[.bool a1_0, .slice A1_1 l1_1.length c1_1] 38 (0, 0)) (by exact lb BK291.out) k_ hn_)), Or.elim hk_ (fun hs_ => ((Kd.R_types (Kd.R_types (Kd.R_types (Kd.R_types (Kd.R_types (HO_5.out) BK290.out (by decide)) BK291.out (by decide)) BK292.out (by decide)) BK302.out (by decide)) BK303.out (by decide)).1 k_ hs_.symm).1.1.2) (fun hn_ => (Kd.freshB (g := gb292) (o := .cells #[.bool false, .slice none 0 0] 38 (0, 0)) (by exact lb BK292.out) k_ hn_)), Or.elim hk_ (fun hs_ => ((Kd.R_types (Kd.R_types (Kd.R_types (Kd.R_types (Kd.R_types (HO_5.out) BK290.out (by decide)) BK291.out (by decide)) BK292.out (by decide)) BK302.out (by decide)) BK303.out (by decide)).1 k_ hs_.symm).1.2) (fun hn_ => (Kd.freshB (g := gb302) (o := .cells #[.bool x303000_47, .slice Ao122 x303001_47.length co122] 38 (0, 0)) (by exact lb BK302.out) k_ hn_)), Or.elim hk_ (fun hs_ => ((Kd.R_types (Kd.R_types (Kd.R_types (Kd.R_types (Kd.R_types (HO_5.out) BK290.out (by decide)) BK291.out (by decide)) BK292.out (by decide)) BK302.out (by decide)) BK303.out (by decide)).1 k_ hs_.symm).2) (fun hn_ => (Kd.freshB (g := gb303) (o := .cells #[.bool x304000_47, u304001] 38 (0, 0)) (by exact lb BK303.out) k_ hn_))⟩)) (below_size (by repeat (first | (with_reducible first | exact HB.out | apply qa | apply qn | apply qd | refine qs ?_ GE290.out | refine qs ?_ GE291.out | refine qs ?_ GE292.out | refine qs ?_ GE302.out | refine qs ?_ GE303.out) | exact HB.out)))); have n6_ := bb BK290 hb; have n7_ := bb BK291 hb; have n8_ := bb BK292 hb; have n9_ := bb BK302 hb; have n10_ := bb BK303 hb; have n11_ := Aside0.mk (below_step (by repeat (first | (with_reducible first | exact HB.out | apply qa | apply qn | apply qd | refine qs ?_ GE290.out | refine qs ?_ GE291.out | refine qs ?_ GE292.out | refine qs ?_ GE302.out | refine qs ?_ GE303.out) | exact HB.out)) hb); clear HO_5; clear HO_291001; clear HO_292001; clear HO_303001; clear HO_304001; clear BK290; clear BK291; clear BK292; clear BK302; clear BK303; clear HB; have HO_5 := n0_; have HO_291001 := n1_; have HO_292001 := n2_; have HO_303001 := n3_; have HO_304001 := n4_; have HO316 := n5_; have BK290 := n6_; have BK291 := n7_; have BK292 := n8_; have BK302 := n9_; have BK303 := n10_; have HB := n11_; clear n0_ n1_ n2_ n3_ n4_ n5_ n6_ n7_ n8_ n9_ n10_ n11_; (try clear hb); (try clear hb2); (try clear hk); (try clear hi); (try clear ho0); have hnb125 := NB292_290.out; have hnc125 := NB290_292.out; have hnb126 := NB292_291.out; have hnc126 := NB291_292.out; have hnb127 := NB292_303.out; have hnc127 := NB303_292.out; obtain ⟨hcz128_0, hcz128_1⟩ := cl2 BK292.out; obtain ⟨hfz128_0, hfz128_1⟩ := fr2 BK292.out; obtain ⟨Ao129, co129, eo129⟩ := Kd.V_slice HO316.out; subst eo129))
      repeat (go_quiet (fail); try go_wp2_with (fail))
      refine bodyPost_ret (results_cell_row rfl _ _ gb292 38 #[.bool t313, .slice Ao129 t314.length co129] (0, 0) _ rfl (by (with_reducible repeat (first | refine cn ?_ _ | refine cd ?_ | refine ca ?_ _)); refine blk_put (cs := #[.bool t313, .slice none 0 0]) ?_ 1 _ rfl; (with_reducible repeat (first | refine cn ?_ _ | refine cd ?_ | refine ca ?_ _)); refine blk_put (cs := #[.bool false, .slice none 0 0]) ?_ 0 _ rfl; (with_reducible repeat (first | refine cn ?_ _ | refine cd ?_ | refine ca ?_ _)); exact BK292.out) Try.underlying38 rfl (by kernel_rfl)) rfl ?_
      exact ⟨_, by first | rfl | (simp [errW_none, errW_some] <;> rfl) | (simp [*, errW_none, errW_some] <;> rfl), by (with_reducible repeat (first | apply Kd.V_alloc | apply Kd.V_drewN | apply Kd.V_drew)); exact Kd.V_mono (Kd.V_far (p := ⟨gb292, 1, none⟩) (Kd.V_far (p := ⟨gb292, 0, none⟩) (Kd.V_mono HO316.out (fun k_ hk => (⟨hk, hk.2.2.2.1⟩ : _ ∧ k_ ≠ gb292))) (fun _ hk => hk.2) (.bool t313)) (fun _ hk => hk.2) (.slice Ao129 t314.length co129)) (fun _ hk => hk.1.1), by repeat (first | (with_reducible first | exact HB.out | apply qa | apply qn | apply qd | refine qs ?_ GE290.out | refine qs ?_ GE291.out | refine qs ?_ GE292.out | refine qs ?_ GE302.out | refine qs ?_ GE303.out) | exact HB.out)⟩
     rw [if_pos c86] at H
     have c86b0 : decide (x11_2 < (x303001_47.length : Int)) = true := decide_eq_true c86
     clear c86
     by_cases c87 : 0 ≤ x11_2
     rotate_left
     ·rw [if_neg c87] at H
      exact absurd H (by simp)
     rw [if_pos c87] at H
     have c87b0 : decide (0 ≤ x11_2) = true := decide_eq_true c87
     clear c87
     replace H := Option.bind_eq_some_iff.mp H
     obtain ⟨t306, A880, H⟩ := H
     replace H : (if (wrap64 ((wrap64 ((rd x303001_47 x11_2) - t306)) - x6_2)) < 0 then (if x5_2.length < 17592186044416 then (parquetref01_Num_Plus.l1 k2 (x5_2 ++ [wrap64 ((wrap64 ((wrap64 ((rd x303001_47 x11_2) - t306)) - x6_2)) + 65536)]) 1 (wrap64 (x11_2 + 1)) x303000_47 x303001_47 x304000_47 x304001_47) else (none)) else (if x5_2.length < 17592186044416 then (parquetref01_Num_Plus.l1 k2 (x5_2 ++ [wrap64 ((wrap64 ((rd x303001_47 x11_2) - t306)) - x6_2)]) 0 (wrap64 (x11_2 + 1)) x303000_47 x303001_47 x304000_47 x304001_47) else (none))) = some (r1, r2) := H
     have A88 := Aside0.mk A880
     clear A880
     by_cases c89 : (wrap64 ((wrap64 ((rd x303001_47 x11_2) - t306)) - x6_2)) < 0
     rotate_left
     ·rw [if_neg c89] at H
      have c89b0 : decide ((wrap64 ((wrap64 ((rd x303001_47 x11_2) - t306)) - x6_2)) < 0) = false := decide_eq_false c89
      clear c89
      by_cases c103 : x5_2.length < 17592186044416
      rotate_left
      ·rw [if_neg c103] at H
       exact absurd H (by simp)
      rw [if_pos c103] at H
      have LMc103 := Aside0.mk c103
      clear c103
      obtain ⟨y310, hy310⟩ : ∃ y_ : List Int, y_ = (x5_2 ++ [wrap64 ((wrap64 ((rd x303001_47 x11_2) - t306)) - x6_2)]) := ⟨_, rfl⟩
      replace H : (parquetref01_Num_Plus.l1 k2 y310 0 (wrap64 (x11_2 + 1)) x303000_47 x303001_47 x304000_47 x304001_47) = some (r1, r2) := by first | (rw [hy310]; with_reducible exact H) | (have H2_ := (Option.bind_some _ _).symm.trans H; rw [hy310]; with_reducible exact H2_) | (have H2_ := (Option.bind_some _ _).symm.trans H; with_reducible exact H2_) | with_reducible exact H | (rw [hy310]; exact H) | exact H
      have Ny310 := Aside0.mk hy310
      clear hy310
      have H' := Aside0.mk H
      clear H
      have hnb104 := NB302_290.out
      have hnc104 := NB290_302.out
      have hnb105 := NB302_291.out
      have hnc105 := NB291_302.out
      have hnb106 := NB302_292.out
      have hnc106 := NB292_302.out
      have hnb107 := NB302_303.out
      have hnc107 := NB303_302.out
      obtain ⟨hcz108_0, hcz108_1⟩ := cl2 BK302.out
      obtain ⟨hfz108_0, hfz108_1⟩ := fr2 BK302.out
      obtain ⟨Ao109, co109, eo109⟩ := Kd.V_slice HO_303001.out
      subst eo109
      have p305 : 0 ≤ (x11_2 : Int) := of_decide_eq_true (by first | (with_reducible assumption) | assumption)
      have q305 : x11_2 < (x303001_47.length : Int) := of_decide_eq_true (by first | (with_reducible assumption) | assumption)
      obtain ⟨ad305, e305, hx305_0⟩ := Kd.at_int (Kd.V_reads' HO_303001.out).2.2 x11_2 p305 q305
      cases e305
      replace p305 := eq_true p305
      replace q305 := eq_true q305
      have hnb110 := NB303_290.out
      have hnc110 := NB290_303.out
      have hnb111 := NB303_291.out
      have hnc111 := NB291_303.out
      have hnb112 := NB303_292.out
      have hnc112 := NB292_303.out
      obtain ⟨hcz113_0, hcz113_1⟩ := cl2 BK303.out
      obtain ⟨hfz113_0, hfz113_1⟩ := fr2 BK303.out
      obtain ⟨Ao114, co114, eo114⟩ := Kd.V_slice HO_304001.out
      subst eo114
      go_wp2_with (fail)
      repeat (go_quiet (first | (go_at_call 74; (with_reducible refine (parquetref01_digit.calls _ _ x304001_47 x11_2 t306 _ ?side1 ?side2 A88.out).mono ?_); (case side1 => repeat (first | exact (Kd.V_reads' HO_304001.out).2.2 | (with_reducible refine Kd.C_alloc ?_ _) | (with_reducible refine Kd.C_drewN ?_ _) | (with_reducible refine Kd.C_drew ?_))); (case side2 => exact (Kd.V_reads' HO_304001.out).2.1); rintro e w' ⟨rfl, ⟨nd, rfl⟩⟩; (try first | exact ⟨rfl, _, World.drewN_drewN _ _ _⟩ | exact ⟨rfl, _, Eq.trans (World.drewN_drewN _ _ _) (congrArg (World.drewN _) (Nat.add_assoc _ _ _))⟩))); try go_wp2_with (first | ((with_reducible refine gate_builtin (b := .append) (xs := #[.tmp 91, .tmp 93]) rfl ?_); (try (refine gate_guard (by rfl) ?_; dsimp only)); at_builtin; refine Kd.R_append (Kd.int .i64) (w0 := w) w.heap.size rfl (.tmp 91) (.tmp 93) 36 3 (.int .i64 0) 8 rfl Try.underlying36 info3 rfl (by decide) (by omega) u5 x5_2 (wrap64 ((wrap64 ((rd x303001_47 x11_2) - t306)) - x6_2)) [.int .i64 (wrap64 ((wrap64 ((rd x303001_47 x11_2) - t306)) - x6_2))] (fun k_ => (w.heap.size ≤ k_)) (fun _ => False) rfl rfl ?aP (fun _ hk => hk.elim) ?aF ?aO ?aB ?aS ?aL ?_; (case aP => exact rfl); (case aB => exact (by repeat (first | (with_reducible first | exact HB.out | apply qa | apply qn | apply qd | refine qs ?_ GE290.out | refine qs ?_ GE291.out | refine qs ?_ GE292.out | refine qs ?_ GE302.out | refine qs ?_ GE303.out) | exact HB.out))); (case aF => exact (fun k_ hk => (Nat.le_trans (below_size (by repeat (first | (with_reducible first | exact HB.out | apply qa | apply qn | apply qd | refine qs ?_ GE290.out | refine qs ?_ GE291.out | refine qs ?_ GE292.out | refine qs ?_ GE302.out | refine qs ?_ GE303.out) | exact HB.out))) hk))); (case aO => exact (by (with_reducible repeat (first | apply Kd.R_alloc | apply Kd.R_drewN | apply Kd.R_drew)); exact HO_5.out)); (case aS => exact (below_size (by repeat (first | (with_reducible first | exact HB.out | apply qa | apply qn | apply qd | refine qs ?_ GE290.out | refine qs ?_ GE291.out | refine qs ?_ GE292.out | refine qs ?_ GE302.out | refine qs ?_ GE303.out) | exact HB.out)))); (case aL => have := LMc103.out; omega); intro v311 w115 ho hb hg hat; rw [← Ny310.out] at ho; have n0_ := Aside0.mk (Kd.V_afterv (ok := (fun k_ => ((P0_1_ k_ ∨ P1_1_ k_) ∨ w.heap.size ≤ k_) ∧ k_ ≠ gb290 ∧ k_ ≠ gb291 ∧ k_ ≠ gb292 ∧ k_ ≠ gb302 ∧ k_ ≠ gb303)) (by (with_reducible repeat (first | apply Kd.V_alloc | apply Kd.V_drewN | apply Kd.V_drew)); exact Kd.V_mono HO_291001.out (fun _ hk => ⟨⟨hk.1, ⟨hk.2.2.1, ⟨hk.2.2.2.1, ⟨hk.2.2.2.2.1, ⟨hk.2.2.2.2.2.1, hk.2.2.2.2.2.2⟩⟩⟩⟩⟩, hk.2.1⟩)) hg hat); have n1_ := Aside0.mk (Kd.V_afterv (ok := (fun k_ => ((P0_1_ k_ ∨ P1_1_ k_) ∨ w.heap.size ≤ k_) ∧ k_ ≠ gb290 ∧ k_ ≠ gb291 ∧ k_ ≠ gb292 ∧ k_ ≠ gb302 ∧ k_ ≠ gb303)) (by (with_reducible repeat (first | apply Kd.V_alloc | apply Kd.V_drewN | apply Kd.V_drew)); exact Kd.V_mono HO_292001.out (fun _ hk => ⟨⟨hk.1, ⟨hk.2.2.1, ⟨hk.2.2.2.1, ⟨hk.2.2.2.2.1, ⟨hk.2.2.2.2.2.1, hk.2.2.2.2.2.2⟩⟩⟩⟩⟩, hk.2.1⟩)) hg hat); have n2_ := Aside0.mk (Kd.V_afterv (ok := (fun k_ => ((P0_1_ k_ ∨ P1_1_ k_) ∨ w.heap.size ≤ k_) ∧ k_ ≠ gb290 ∧ k_ ≠ gb291 ∧ k_ ≠ gb292 ∧ k_ ≠ gb302 ∧ k_ ≠ gb303)) (by (with_reducible repeat (first | apply Kd.V_alloc | apply Kd.V_drewN | apply Kd.V_drew)); exact Kd.V_mono HO_303001.out (fun _ hk => ⟨⟨hk.1, ⟨hk.2.2.1, ⟨hk.2.2.2.1, ⟨hk.2.2.2.2.1, ⟨hk.2.2.2.2.2.1, hk.2.2.2.2.2.2⟩⟩⟩⟩⟩, hk.2.1⟩)) hg hat); have n3_ := Aside0.mk (Kd.V_afterv (ok := (fun k_ => ((P0_1_ k_ ∨ P1_1_ k_) ∨ w.heap.size ≤ k_) ∧ k_ ≠ gb290 ∧ k_ ≠ gb291 ∧ k_ ≠ gb292 ∧ k_ ≠ gb302 ∧ k_ ≠ gb303)) (by (with_reducible repeat (first | apply Kd.V_alloc | apply Kd.V_drewN | apply Kd.V_drew)); exact Kd.V_mono HO_304001.out (fun _ hk => ⟨⟨hk.1, ⟨hk.2.2.1, ⟨hk.2.2.2.1, ⟨hk.2.2.2.2.1, ⟨hk.2.2.2.2.2.1, hk.2.2.2.2.2.2⟩⟩⟩⟩⟩, hk.2.1⟩)) hg hat); have n4_ := Aside0.mk (blk_grown (g := gb290) (o := .cells #[.bool a0_0, .slice A0_1 l0_1.length c0_1] 38 (0, 0)) (by exact lb BK290.out) hg (Kd.R_ne HO_5.out BK290.out (by decide))); have n5_ := Aside0.mk (blk_grown (g := gb291) (o := .cells #[.bool a1_0, .slice A1_1 l1_1.length c1_1] 38 (0, 0)) (by exact lb BK291.out) hg (Kd.R_ne HO_5.out BK291.out (by decide))); have n6_ := Aside0.mk (blk_grown (g := gb292) (o := .cells #[.bool false, .slice none 0 0] 38 (0, 0)) (by exact lb BK292.out) hg (Kd.R_ne HO_5.out BK292.out (by decide))); have n7_ := Aside0.mk (blk_grown (g := gb302) (o := .cells #[.bool x303000_47, .slice (some ad305) x303001_47.length co109] 38 (0, 0)) (by exact lb BK302.out) hg (Kd.R_ne HO_5.out BK302.out (by decide))); have n8_ := Aside0.mk (blk_grown (g := gb303) (o := .cells #[.bool x304000_47, .slice Ao114 x304001_47.length co114] 38 (0, 0)) (by exact lb BK303.out) hg (Kd.R_ne HO_5.out BK303.out (by decide))); have n9_ := Aside0.mk (hb); have n10_ := Aside0.mk (ho); clear HO_291001; clear HO_292001; clear HO_303001; clear HO_304001; clear BK290; clear BK291; clear BK292; clear BK302; clear BK303; clear HB; clear HO_5; have HO_291001 := n0_; have HO_292001 := n1_; have HO_303001 := n2_; have HO_304001 := n3_; have BK290 := n4_; have BK291 := n5_; have BK292 := n6_; have BK302 := n7_; have BK303 := n8_; have HB := n9_; have HO312 := n10_; clear n0_ n1_ n2_ n3_ n4_ n5_ n6_ n7_ n8_ n9_ n10_; clear ho hb hg hat)))
      go_roundg k2
      case measure => have := HJ47.out; have := HK2.out; omega
      case rel => exact ⟨(y310), (0), (wrap64 (x11_2 + 1)), (by first | rfl | (simp; done) | (simp [*]; done)), (by first | rfl | (simp; done) | (simp [*]; done)), H', ⟨by have := HJ47.out; have := HK2.out; omega⟩, ⟨by (with_reducible repeat (first | apply Kd.R_alloc | apply Kd.R_drewN | apply Kd.R_drew)); exact HO312.out⟩, ⟨by (with_reducible repeat (first | apply Kd.V_alloc | apply Kd.V_drewN | apply Kd.V_drew)); exact Kd.V_mono HO_291001.out (fun _ hk => ⟨hk.1.1, ⟨hk.2, ⟨hk.1.2.1, ⟨hk.1.2.2.1, ⟨hk.1.2.2.2.1, ⟨hk.1.2.2.2.2.1, hk.1.2.2.2.2.2⟩⟩⟩⟩⟩⟩)⟩, ⟨by (with_reducible repeat (first | apply Kd.V_alloc | apply Kd.V_drewN | apply Kd.V_drew)); exact Kd.V_mono HO_292001.out (fun _ hk => ⟨hk.1.1, ⟨hk.2, ⟨hk.1.2.1, ⟨hk.1.2.2.1, ⟨hk.1.2.2.2.1, ⟨hk.1.2.2.2.2.1, hk.1.2.2.2.2.2⟩⟩⟩⟩⟩⟩)⟩, ⟨by (with_reducible repeat (first | apply Kd.V_alloc | apply Kd.V_drewN | apply Kd.V_drew)); exact Kd.V_mono HO_303001.out (fun _ hk => ⟨hk.1.1, ⟨hk.2, ⟨hk.1.2.1, ⟨hk.1.2.2.1, ⟨hk.1.2.2.2.1, ⟨hk.1.2.2.2.2.1, hk.1.2.2.2.2.2⟩⟩⟩⟩⟩⟩)⟩, ⟨by (with_reducible repeat (first | apply Kd.V_alloc | apply Kd.V_drewN | apply Kd.V_drew)); exact Kd.V_mono HO_304001.out (fun _ hk => ⟨hk.1.1, ⟨hk.2, ⟨hk.1.2.1, ⟨hk.1.2.2.1, ⟨hk.1.2.2.2.1, ⟨hk.1.2.2.2.2.1, hk.1.2.2.2.2.2⟩⟩⟩⟩⟩⟩)⟩, ⟨by (with_reducible repeat (first | refine cn ?_ _ | refine cd ?_ | refine ca ?_ _)); exact BK290.out⟩, ⟨by (with_reducible repeat (first | refine cn ?_ _ | refine cd ?_ | refine ca ?_ _)); exact BK291.out⟩, ⟨by (with_reducible repeat (first | refine cn ?_ _ | refine cd ?_ | refine ca ?_ _)); exact BK292.out⟩, ⟨by (with_reducible repeat (first | refine cn ?_ _ | refine cd ?_ | refine ca ?_ _)); exact BK302.out⟩, ⟨by (with_reducible repeat (first | refine cn ?_ _ | refine cd ?_ | refine ca ?_ _)); exact BK303.out⟩, ⟨by repeat (first | (with_reducible first | exact HB.out | apply qa | apply qn | apply qd | refine qs ?_ GE290.out | refine qs ?_ GE291.out | refine qs ?_ GE292.out | refine qs ?_ GE302.out | refine qs ?_ GE303.out) | exact HB.out)⟩⟩
     rw [if_pos c89] at H
     have c89b0 : decide ((wrap64 ((wrap64 ((rd x303001_47 x11_2) - t306)) - x6_2)) < 0) = true := decide_eq_true c89
     clear c89
     by_cases c90 : x5_2.length < 17592186044416
     rotate_left
     ·rw [if_neg c90] at H
      exact absurd H (by simp)
     rw [if_pos c90] at H
     have LMc90 := Aside0.mk c90
     clear c90
     obtain ⟨y307, hy307⟩ : ∃ y_ : List Int, y_ = (x5_2 ++ [wrap64 ((wrap64 ((wrap64 ((rd x303001_47 x11_2) - t306)) - x6_2)) + 65536)]) := ⟨_, rfl⟩
     replace H : (parquetref01_Num_Plus.l1 k2 y307 1 (wrap64 (x11_2 + 1)) x303000_47 x303001_47 x304000_47 x304001_47) = some (r1, r2) := by first | (rw [hy307]; with_reducible exact H) | (have H2_ := (Option.bind_some _ _).symm.trans H; rw [hy307]; with_reducible exact H2_) | (have H2_ := (Option.bind_some _ _).symm.trans H; with_reducible exact H2_) | with_reducible exact H | (rw [hy307]; exact H) | exact H
     have Ny307 := Aside0.mk hy307
     clear hy307
     have H' := Aside0.mk H
     clear H
     have hnb91 := NB302_290.out
     have hnc91 := NB290_302.out
     have hnb92 := NB302_291.out
     have hnc92 := NB291_302.out
     have hnb93 := NB302_292.out
     have hnc93 := NB292_302.out
     have hnb94 := NB302_303.out
     have hnc94 := NB303_302.out
     obtain ⟨hcz95_0, hcz95_1⟩ := cl2 BK302.out
     obtain ⟨hfz95_0, hfz95_1⟩ := fr2 BK302.out
     obtain ⟨Ao96, co96, eo96⟩ := Kd.V_slice HO_303001.out
     subst eo96
     have p305 : 0 ≤ (x11_2 : Int) := of_decide_eq_true (by first | (with_reducible assumption) | assumption)
     have q305 : x11_2 < (x303001_47.length : Int) := of_decide_eq_true (by first | (with_reducible assumption) | assumption)
     obtain ⟨ad305, e305, hx305_0⟩ := Kd.at_int (Kd.V_reads' HO_303001.out).2.2 x11_2 p305 q305
     cases e305
     replace p305 := eq_true p305
     replace q305 := eq_true q305
     have hnb97 := NB303_290.out
     have hnc97 := NB290_303.out
     have hnb98 := NB303_291.out
     have hnc98 := NB291_303.out
     have hnb99 := NB303_292.out
     have hnc99 := NB292_303.out
     obtain ⟨hcz100_0, hcz100_1⟩ := cl2 BK303.out
     obtain ⟨hfz100_0, hfz100_1⟩ := fr2 BK303.out
     obtain ⟨Ao101, co101, eo101⟩ := Kd.V_slice HO_304001.out
     subst eo101
     go_wp2_with (fail)
     repeat (go_quiet (first | (go_at_call 74; (with_reducible refine (parquetref01_digit.calls _ _ x304001_47 x11_2 t306 _ ?side1 ?side2 A88.out).mono ?_); (case side1 => repeat (first | exact (Kd.V_reads' HO_304001.out).2.2 | (with_reducible refine Kd.C_alloc ?_ _) | (with_reducible refine Kd.C_drewN ?_ _) | (with_reducible refine Kd.C_drew ?_))); (case side2 => exact (Kd.V_reads' HO_304001.out).2.1); rintro e w' ⟨rfl, ⟨nd, rfl⟩⟩; (try first | exact ⟨rfl, _, World.drewN_drewN _ _ _⟩ | exact ⟨rfl, _, Eq.trans (World.drewN_drewN _ _ _) (congrArg (World.drewN _) (Nat.add_assoc _ _ _))⟩))); try go_wp2_with (first | ((with_reducible refine gate_builtin (b := .append) (xs := #[.tmp 91, .tmp 93]) rfl ?_); (try (refine gate_guard (by rfl) ?_; dsimp only)); at_builtin; refine Kd.R_append (Kd.int .i64) (w0 := w) w.heap.size rfl (.tmp 91) (.tmp 93) 36 3 (.int .i64 0) 8 rfl Try.underlying36 info3 rfl (by decide) (by omega) u5 x5_2 (wrap64 ((wrap64 ((wrap64 ((rd x303001_47 x11_2) - t306)) - x6_2)) + 65536)) [.int .i64 (wrap64 ((wrap64 ((wrap64 ((rd x303001_47 x11_2) - t306)) - x6_2)) + 65536))] (fun k_ => (w.heap.size ≤ k_)) (fun _ => False) rfl rfl ?aP (fun _ hk => hk.elim) ?aF ?aO ?aB ?aS ?aL ?_; (case aP => exact rfl); (case aB => exact (by repeat (first | (with_reducible first | exact HB.out | apply qa | apply qn | apply qd | refine qs ?_ GE290.out | refine qs ?_ GE291.out | refine qs ?_ GE292.out | refine qs ?_ GE302.out | refine qs ?_ GE303.out) | exact HB.out))); (case aF => exact (fun k_ hk => (Nat.le_trans (below_size (by repeat (first | (with_reducible first | exact HB.out | apply qa | apply qn | apply qd | refine qs ?_ GE290.out | refine qs ?_ GE291.out | refine qs ?_ GE292.out | refine qs ?_ GE302.out | refine qs ?_ GE303.out) | exact HB.out))) hk))); (case aO => exact (by (with_reducible repeat (first | apply Kd.R_alloc | apply Kd.R_drewN | apply Kd.R_drew)); exact HO_5.out)); (case aS => exact (below_size (by repeat (first | (with_reducible first | exact HB.out | apply qa | apply qn | apply qd | refine qs ?_ GE290.out | refine qs ?_ GE291.out | refine qs ?_ GE292.out | refine qs ?_ GE302.out | refine qs ?_ GE303.out) | exact HB.out)))); (case aL => have := LMc90.out; omega); intro v308 w102 ho hb hg hat; rw [← Ny307.out] at ho; have n0_ := Aside0.mk (Kd.V_afterv (ok := (fun k_ => ((P0_1_ k_ ∨ P1_1_ k_) ∨ w.heap.size ≤ k_) ∧ k_ ≠ gb290 ∧ k_ ≠ gb291 ∧ k_ ≠ gb292 ∧ k_ ≠ gb302 ∧ k_ ≠ gb303)) (by (with_reducible repeat (first | apply Kd.V_alloc | apply Kd.V_drewN | apply Kd.V_drew)); exact Kd.V_mono HO_291001.out (fun _ hk => ⟨⟨hk.1, ⟨hk.2.2.1, ⟨hk.2.2.2.1, ⟨hk.2.2.2.2.1, ⟨hk.2.2.2.2.2.1, hk.2.2.2.2.2.2⟩⟩⟩⟩⟩, hk.2.1⟩)) hg hat); have n1_ := Aside0.mk (Kd.V_afterv (ok := (fun k_ => ((P0_1_ k_ ∨ P1_1_ k_) ∨ w.heap.size ≤ k_) ∧ k_ ≠ gb290 ∧ k_ ≠ gb291 ∧ k_ ≠ gb292 ∧ k_ ≠ gb302 ∧ k_ ≠ gb303)) (by (with_reducible repeat (first | apply Kd.V_alloc | apply Kd.V_drewN | apply Kd.V_drew)); exact Kd.V_mono HO_292001.out (fun _ hk => ⟨⟨hk.1, ⟨hk.2.2.1, ⟨hk.2.2.2.1, ⟨hk.2.2.2.2.1, ⟨hk.2.2.2.2.2.1, hk.2.2.2.2.2.2⟩⟩⟩⟩⟩, hk.2.1⟩)) hg hat); have n2_ := Aside0.mk (Kd.V_afterv (ok := (fun k_ => ((P0_1_ k_ ∨ P1_1_ k_) ∨ w.heap.size ≤ k_) ∧ k_ ≠ gb290 ∧ k_ ≠ gb291 ∧ k_ ≠ gb292 ∧ k_ ≠ gb302 ∧ k_ ≠ gb303)) (by (with_reducible repeat (first | apply Kd.V_alloc | apply Kd.V_drewN | apply Kd.V_drew)); exact Kd.V_mono HO_303001.out (fun _ hk => ⟨⟨hk.1, ⟨hk.2.2.1, ⟨hk.2.2.2.1, ⟨hk.2.2.2.2.1, ⟨hk.2.2.2.2.2.1, hk.2.2.2.2.2.2⟩⟩⟩⟩⟩, hk.2.1⟩)) hg hat); have n3_ := Aside0.mk (Kd.V_afterv (ok := (fun k_ => ((P0_1_ k_ ∨ P1_1_ k_) ∨ w.heap.size ≤ k_) ∧ k_ ≠ gb290 ∧ k_ ≠ gb291 ∧ k_ ≠ gb292 ∧ k_ ≠ gb302 ∧ k_ ≠ gb303)) (by (with_reducible repeat (first | apply Kd.V_alloc | apply Kd.V_drewN | apply Kd.V_drew)); exact Kd.V_mono HO_304001.out (fun _ hk => ⟨⟨hk.1, ⟨hk.2.2.1, ⟨hk.2.2.2.1, ⟨hk.2.2.2.2.1, ⟨hk.2.2.2.2.2.1, hk.2.2.2.2.2.2⟩⟩⟩⟩⟩, hk.2.1⟩)) hg hat); have n4_ := Aside0.mk (blk_grown (g := gb290) (o := .cells #[.bool a0_0, .slice A0_1 l0_1.length c0_1] 38 (0, 0)) (by exact lb BK290.out) hg (Kd.R_ne HO_5.out BK290.out (by decide))); have n5_ := Aside0.mk (blk_grown (g := gb291) (o := .cells #[.bool a1_0, .slice A1_1 l1_1.length c1_1] 38 (0, 0)) (by exact lb BK291.out) hg (Kd.R_ne HO_5.out BK291.out (by decide))); have n6_ := Aside0.mk (blk_grown (g := gb292) (o := .cells #[.bool false, .slice none 0 0] 38 (0, 0)) (by exact lb BK292.out) hg (Kd.R_ne HO_5.out BK292.out (by decide))); have n7_ := Aside0.mk (blk_grown (g := gb302) (o := .cells #[.bool x303000_47, .slice (some ad305) x303001_47.length co96] 38 (0, 0)) (by exact lb BK302.out) hg (Kd.R_ne HO_5.out BK302.out (by decide))); have n8_ := Aside0.mk (blk_grown (g := gb303) (o := .cells #[.bool x304000_47, .slice Ao101 x304001_47.length co101] 38 (0, 0)) (by exact lb BK303.out) hg (Kd.R_ne HO_5.out BK303.out (by decide))); have n9_ := Aside0.mk (hb); have n10_ := Aside0.mk (ho); clear HO_291001; clear HO_292001; clear HO_303001; clear HO_304001; clear BK290; clear BK291; clear BK292; clear BK302; clear BK303; clear HB; clear HO_5; have HO_291001 := n0_; have HO_292001 := n1_; have HO_303001 := n2_; have HO_304001 := n3_; have BK290 := n4_; have BK291 := n5_; have BK292 := n6_; have BK302 := n7_; have BK303 := n8_; have HB := n9_; have HO309 := n10_; clear n0_ n1_ n2_ n3_ n4_ n5_ n6_ n7_ n8_ n9_ n10_; clear ho hb hg hat)))
     go_roundg k2
     case measure => have := HJ47.out; have := HK2.out; omega
     case rel => exact ⟨(y307), (1), (wrap64 (x11_2 + 1)), (by first | rfl | (simp; done) | (simp [*]; done)), (by first | rfl | (simp; done) | (simp [*]; done)), H', ⟨by have := HJ47.out; have := HK2.out; omega⟩, ⟨by (with_reducible repeat (first | apply Kd.R_alloc | apply Kd.R_drewN | apply Kd.R_drew)); exact HO309.out⟩, ⟨by (with_reducible repeat (first | apply Kd.V_alloc | apply Kd.V_drewN | apply Kd.V_drew)); exact Kd.V_mono HO_291001.out (fun _ hk => ⟨hk.1.1, ⟨hk.2, ⟨hk.1.2.1, ⟨hk.1.2.2.1, ⟨hk.1.2.2.2.1, ⟨hk.1.2.2.2.2.1, hk.1.2.2.2.2.2⟩⟩⟩⟩⟩⟩)⟩, ⟨by (with_reducible repeat (first | apply Kd.V_alloc | apply Kd.V_drewN | apply Kd.V_drew)); exact Kd.V_mono HO_292001.out (fun _ hk => ⟨hk.1.1, ⟨hk.2, ⟨hk.1.2.1, ⟨hk.1.2.2.1, ⟨hk.1.2.2.2.1, ⟨hk.1.2.2.2.2.1, hk.1.2.2.2.2.2⟩⟩⟩⟩⟩⟩)⟩, ⟨by (with_reducible repeat (first | apply Kd.V_alloc | apply Kd.V_drewN | apply Kd.V_drew)); exact Kd.V_mono HO_303001.out (fun _ hk => ⟨hk.1.1, ⟨hk.2, ⟨hk.1.2.1, ⟨hk.1.2.2.1, ⟨hk.1.2.2.2.1, ⟨hk.1.2.2.2.2.1, hk.1.2.2.2.2.2⟩⟩⟩⟩⟩⟩)⟩, ⟨by (with_reducible repeat (first | apply Kd.V_alloc | apply Kd.V_drewN | apply Kd.V_drew)); exact Kd.V_mono HO_304001.out (fun _ hk => ⟨hk.1.1, ⟨hk.2, ⟨hk.1.2.1, ⟨hk.1.2.2.1, ⟨hk.1.2.2.2.1, ⟨hk.1.2.2.2.2.1, hk.1.2.2.2.2.2⟩⟩⟩⟩⟩⟩)⟩, ⟨by (with_reducible repeat (first | refine cn ?_ _ | refine cd ?_ | refine ca ?_ _)); exact BK290.out⟩, ⟨by (with_reducible repeat (first | refine cn ?_ _ | refine cd ?_ | refine ca ?_ _)); exact BK291.out⟩, ⟨by (with_reducible repeat (first | refine cn ?_ _ | refine cd ?_ | refine ca ?_ _)); exact BK292.out⟩, ⟨by (with_reducible repeat (first | refine cn ?_ _ | refine cd ?_ | refine ca ?_ _)); exact BK302.out⟩, ⟨by (with_reducible repeat (first | refine cn ?_ _ | refine cd ?_ | refine ca ?_ _)); exact BK303.out⟩, ⟨by repeat (first | (with_reducible first | exact HB.out | apply qa | apply qn | apply qd | refine qs ?_ GE290.out | refine qs ?_ GE291.out | refine qs ?_ GE292.out | refine qs ?_ GE302.out | refine qs ?_ GE303.out) | exact HB.out)⟩⟩
end Go.Proofs.Ytmpbbodafenonaa.MT

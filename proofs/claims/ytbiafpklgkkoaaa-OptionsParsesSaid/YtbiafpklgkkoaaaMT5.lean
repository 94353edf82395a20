/- The functions of the given program told as Lean functions, each with its contract proved; no condition. -/
import Derived.Test.YtbiafpklgkkoaaaMT0
import Derived.Test.YtbiafpklgkkoaaaMT3
import Derived.Test.YtbiafpklgkkoaaaMT4
namespace Go.Proofs.Ytbiafpklgkkoaaa.MT
open Go.RowKit Go.Proofs.YtbiafpklgkkoaaaW.PrintWords Go.Proofs.YtbiafpklgkkoaaaW.PrintLast Go.Proofs.YtbiafpklgkkoaaaW.PrintMore
attribute [local go_sem] max2_int min2_int max_two min_two max_three min_three max_four min_four   -- for this text's walks alone
set_option linter.unusedVariables false
set_option linter.unusedSimpArgs false

/-! ### parquetref01_Num_Plus: function 37 -/
mutual
def parquetref01_Num_Plus.l0 : Nat → List Int → Int → Int → Bool → List Int → Bool → List Int → Option (Bool × List Int)
 | 0, _, _, _, _, _, _, _ => none
 | k + 1, x5, x6, x7, x163000, x163001, x164000, x164001 => if x7 < (x163001.length : Int) then (parquetref01_Num_Plus.j1 k x5 x6 x7 true x163000 x163001 x164000 x164001) else (if x7 < (x164001.length : Int) then (parquetref01_Num_Plus.j1 k x5 x6 x7 true x163000 x163001 x164000 x164001) else (parquetref01_Num_Plus.j1 k x5 x6 x7 (decide (x6 > 0)) x163000 x163001 x164000 x164001))
def parquetref01_Num_Plus.j1 : Nat → List Int → Int → Int → Bool → Bool → List Int → Bool → List Int → Option (Bool × List Int)
 | 0, _, _, _, _, _, _, _, _ => none
 | k + 1, x5, x6, x7, x33, x163000, x163001, x164000, x164001 => if x33 = true then ((parquetref01_digit.f x163001 x7).bind fun t165 => ((parquetref01_digit.f x164001 x7).bind fun t166 => (if x5.length < 17592186044416 then (parquetref01_Num_Plus.l0 k (x5 ++ [Int.tmod (wrap64 ((wrap64 (t165 + t166)) + x6)) 65536]) (wrap64 (Int.tdiv (wrap64 ((wrap64 (t165 + t166)) + x6)) 65536)) (wrap64 (x7 + 1)) x163000 x163001 x164000 x164001) else (none)))) else ((parquetref01_trim.f k x163000 x5).bind fun bt170 => (some (bt170.1, bt170.2)))
def parquetref01_Num_Plus.j2 : Nat → List Int → Int → Bool → List Int → Bool → List Int → Option (Bool × List Int)
 | 0, _, _, _, _, _, _ => none
 | k + 1, x5, x6, x175000, x175001, x176000, x176001 => parquetref01_Num_Plus.l1 k x5 x6 0 x175000 x175001 x176000 x176001
def parquetref01_Num_Plus.l1 : Nat → List Int → Int → Int → Bool → List Int → Bool → List Int → Option (Bool × List Int)
 | 0, _, _, _, _, _, _, _ => none
 | k + 1, x5, x6, x11, x175000, x175001, x176000, x176001 => if x11 < (x175001.length : Int) then (if 0 ≤ x11 then ((parquetref01_digit.f x176001 x11).bind fun t178 => (if (wrap64 ((wrap64 ((rd x175001 x11) - t178)) - x6)) < 0 then (if x5.length < 17592186044416 then (parquetref01_Num_Plus.l1 k (x5 ++ [wrap64 ((wrap64 ((wrap64 ((rd x175001 x11) - t178)) - x6)) + 65536)]) 1 (wrap64 (x11 + 1)) x175000 x175001 x176000 x176001) else (none)) else (if x5.length < 17592186044416 then (parquetref01_Num_Plus.l1 k (x5 ++ [wrap64 ((wrap64 ((rd x175001 x11) - t178)) - x6)]) 0 (wrap64 (x11 + 1)) x175000 x175001 x176000 x176001) else (none)))) else (none)) else ((parquetref01_trim.f k x175000 x5).bind fun bt185 => (some (bt185.1, bt185.2)))
end
def parquetref01_Num_Plus.f (k : Nat) (a0_0 : Bool) (l0_1 : List Int) (a1_0 : Bool) (l1_1 : List Int) : Option (Bool × List Int) := if (a0_0 == a1_0) = true then (parquetref01_Num_Plus.l0 k ([] : List Int) 0 0 a0_0 l0_1 a1_0 l1_1) else ((parquetref01_size.f k l0_1 l1_1).bind fun t176 => (if t176 < 0 then (parquetref01_Num_Plus.j2 k ([] : List Int) 0 a1_0 l1_1 a0_0 l0_1) else (parquetref01_Num_Plus.j2 k ([] : List Int) 0 a0_0 l0_1 a1_0 l1_1)))
theorem parquetref01_Num_Plus.mono_l : ∀ k, (∀ y0 y1 y2 y3 y4 y5 y6, LeO (parquetref01_Num_Plus.l0 k y0 y1 y2 y3 y4 y5 y6) (parquetref01_Num_Plus.l0 (k + 1) y0 y1 y2 y3 y4 y5 y6)) ∧ (∀ y0 y1 y2 y3 y4 y5 y6 y7, LeO (parquetref01_Num_Plus.j1 k y0 y1 y2 y3 y4 y5 y6 y7) (parquetref01_Num_Plus.j1 (k + 1) y0 y1 y2 y3 y4 y5 y6 y7)) ∧ (∀ y0 y1 y2 y3 y4 y5, LeO (parquetref01_Num_Plus.j2 k y0 y1 y2 y3 y4 y5) (parquetref01_Num_Plus.j2 (k + 1) y0 y1 y2 y3 y4 y5)) ∧ (∀ y0 y1 y2 y3 y4 y5 y6, LeO (parquetref01_Num_Plus.l1 k y0 y1 y2 y3 y4 y5 y6) (parquetref01_Num_Plus.l1 (k + 1) y0 y1 y2 y3 y4 y5 y6))
 | 0 => ⟨fun _ _ _ _ _ _ _ r h => by simp [parquetref01_Num_Plus.l0] at h, fun _ _ _ _ _ _ _ _ r h => by simp [parquetref01_Num_Plus.j1] at h, fun _ _ _ _ _ _ r h => by simp [parquetref01_Num_Plus.j2] at h, fun _ _ _ _ _ _ _ r h => by simp [parquetref01_Num_Plus.l1] at h⟩
 | k + 1 => by
  obtain ⟨ih0, ih1, ih2, ih3⟩ := parquetref01_Num_Plus.mono_l k
  refine ⟨?_, ?_, ?_, ?_⟩
  ·intro y0 y1 y2 y3 y4 y5 y6
   unfold parquetref01_Num_Plus.l0
   repeat' first
   | (with_reducible exact ih0 _ _ _ _ _ _ _)
   | (with_reducible exact ih1 _ _ _ _ _ _ _ _)
   | (with_reducible exact ih2 _ _ _ _ _ _)
   | (with_reducible exact ih3 _ _ _ _ _ _ _)
   | (with_reducible exact parquetref01_size.mono _ _ _)
   | (with_reducible exact parquetref01_trim.mono _ _ _)
   | (with_reducible exact LeO.refl _)
   | (with_reducible exact LeO.none _)
   | (with_reducible refine LeO.ite ?_ ?_)
   | (with_reducible refine LeO.bind ?_ (fun _ => ?_))
   | exact ih0 _ _ _ _ _ _ _
   | exact ih1 _ _ _ _ _ _ _ _
   | exact ih2 _ _ _ _ _ _
   | exact ih3 _ _ _ _ _ _ _
   | exact parquetref01_size.mono _ _ _
   | exact parquetref01_trim.mono _ _ _
   | exact LeO.none _
   | refine LeO.ite ?_ ?_
   | refine LeO.bind ?_ (fun _ => ?_)
  ·intro y0 y1 y2 y3 y4 y5 y6 y7
   unfold parquetref01_Num_Plus.j1
   repeat' first
   | (with_reducible exact ih0 _ _ _ _ _ _ _)
   | (with_reducible exact ih1 _ _ _ _ _ _ _ _)
   | (with_reducible exact ih2 _ _ _ _ _ _)
   | (with_reducible exact ih3 _ _ _ _ _ _ _)
   | (with_reducible exact parquetref01_size.mono _ _ _)
   | (with_reducible exact parquetref01_trim.mono _ _ _)
   | (with_reducible exact LeO.refl _)
   | (with_reducible exact LeO.none _)
   | (with_reducible refine LeO.ite ?_ ?_)
   | (with_reducible refine LeO.bind ?_ (fun _ => ?_))
   | exact ih0 _ _ _ _ _ _ _
   | exact ih1 _ _ _ _ _ _ _ _
   | exact ih2 _ _ _ _ _ _
   | exact ih3 _ _ _ _ _ _ _
   | exact parquetref01_size.mono _ _ _
   | exact parquetref01_trim.mono _ _ _
   | exact LeO.none _
   | refine LeO.ite ?_ ?_
   | refine LeO.bind ?_ (fun _ => ?_)
  ·intro y0 y1 y2 y3 y4 y5
   unfold parquetref01_Num_Plus.j2
   repeat' first
   | (with_reducible exact ih0 _ _ _ _ _ _ _)
   | (with_reducible exact ih1 _ _ _ _ _ _ _ _)
   | (with_reducible exact ih2 _ _ _ _ _ _)
   | (with_reducible exact ih3 _ _ _ _ _ _ _)
   | (with_reducible exact parquetref01_size.mono _ _ _)
   | (with_reducible exact parquetref01_trim.mono _ _ _)
   | (with_reducible exact LeO.refl _)
   | (with_reducible exact LeO.none _)
   | (with_reducible refine LeO.ite ?_ ?_)
   | (with_reducible refine LeO.bind ?_ (fun _ => ?_))
   | exact ih0 _ _ _ _ _ _ _
   | exact ih1 _ _ _ _ _ _ _ _
   | exact ih2 _ _ _ _ _ _
   | exact ih3 _ _ _ _ _ _ _
   | exact parquetref01_size.mono _ _ _
   | exact parquetref01_trim.mono _ _ _
   | exact LeO.none _
   | refine LeO.ite ?_ ?_
   | refine LeO.bind ?_ (fun _ => ?_)
  ·intro y0 y1 y2 y3 y4 y5 y6
   unfold parquetref01_Num_Plus.l1
   repeat' first
   | (with_reducible exact ih0 _ _ _ _ _ _ _)
   | (with_reducible exact ih1 _ _ _ _ _ _ _ _)
   | (with_reducible exact ih2 _ _ _ _ _ _)
   | (with_reducible exact ih3 _ _ _ _ _ _ _)
   | (with_reducible exact parquetref01_size.mono _ _ _)
   | (with_reducible exact parquetref01_trim.mono _ _ _)
   | (with_reducible exact LeO.refl _)
   | (with_reducible exact LeO.none _)
   | (with_reducible refine LeO.ite ?_ ?_)
   | (with_reducible refine LeO.bind ?_ (fun _ => ?_))
   | exact ih0 _ _ _ _ _ _ _
   | exact ih1 _ _ _ _ _ _ _ _
   | exact ih2 _ _ _ _ _ _
   | exact ih3 _ _ _ _ _ _ _
   | exact parquetref01_size.mono _ _ _
   | exact parquetref01_trim.mono _ _ _
   | exact LeO.none _
   | refine LeO.ite ?_ ?_
   | refine LeO.bind ?_ (fun _ => ?_)
theorem parquetref01_Num_Plus.mono : ∀ a0 a1 a2 a3 k, LeO (parquetref01_Num_Plus.f k a0 a1 a2 a3) (parquetref01_Num_Plus.f (k + 1) a0 a1 a2 a3) := by
 intro a0 a1 a2 a3 k
 obtain ⟨ih0, ih1, ih2, ih3⟩ := parquetref01_Num_Plus.mono_l k
 unfold parquetref01_Num_Plus.f
 repeat' first
   | (with_reducible exact ih0 _ _ _ _ _ _ _)
   | (with_reducible exact ih1 _ _ _ _ _ _ _ _)
   | (with_reducible exact ih2 _ _ _ _ _ _)
   | (with_reducible exact ih3 _ _ _ _ _ _ _)
   | (with_reducible exact parquetref01_size.mono _ _ _)
   | (with_reducible exact parquetref01_trim.mono _ _ _)
   | (with_reducible exact LeO.refl _)
   | (with_reducible exact LeO.none _)
   | (with_reducible refine LeO.ite ?_ ?_)
   | (with_reducible refine LeO.bind ?_ (fun _ => ?_))
   | exact ih0 _ _ _ _ _ _ _
   | exact ih1 _ _ _ _ _ _ _ _
   | exact ih2 _ _ _ _ _ _
   | exact ih3 _ _ _ _ _ _ _
   | exact parquetref01_size.mono _ _ _
   | exact parquetref01_trim.mono _ _ _
   | exact LeO.none _
   | refine LeO.ite ?_ ?_
   | refine LeO.bind ?_ (fun _ => ?_)
set_option maxHeartbeats 8000000 in
set_option maxRecDepth 100000 in
theorem parquetref01_Num_Plus.calls (k : Nat) (a0_0 : Bool) (P0_1_ : Nat → Prop) (A0_1 : Option Addr) (c0_1 : Nat) (l0_1 : List Int) (a1_0 : Bool) (P1_1_ : Nat → Prop) (A1_1 : Option Addr) (c1_1 : Nat) (l1_1 : List Int) (r1 : Bool) (r2 : List Int) (w : World) (hs0_1 : Kd.V (Kd.int .i64) 3 w w.heap.size (fun k_ => P0_1_ k_) (.slice A0_1 l0_1.length c0_1) l0_1) (hs1_1 : Kd.V (Kd.int .i64) 3 w w.heap.size (fun k_ => P1_1_ k_) (.slice A1_1 l1_1.length c1_1) l1_1) (h : parquetref01_Num_Plus.f k a0_0 l0_1 a1_0 l1_1 = some (r1, r2)) :
  Calls Try.prog 37 #[.agg #[.bool a0_0, .slice A0_1 l0_1.length c0_1], .agg #[.bool a1_0, .slice A1_1 l1_1.length c1_1]] w fun e w' => ∃ v1_ : Value, e = .returned (.agg #[.bool r1, v1_]) ∧ Kd.V (Kd.int .i64) 3 w' w.heap.size (fun k_ => ((P0_1_ k_ ∨ P1_1_ k_) ∨ w.heap.size ≤ k_)) v1_ r2 ∧ Below w.heap.size w w' := by
 have hu73 := Try.underlying73
 have HO0_1 := Aside0.mk (show Kd.V (Kd.int .i64) 3 w w.heap.size (fun k_ => ((P0_1_ k_ ∨ P1_1_ k_) ∨ w.heap.size ≤ k_)) (.slice A0_1 l0_1.length c0_1) l0_1 from Kd.V_mono hs0_1 (fun k_ hk => .inl (.inl hk)))
 have HO1_1 := Aside0.mk (show Kd.V (Kd.int .i64) 3 w w.heap.size (fun k_ => ((P0_1_ k_ ∨ P1_1_ k_) ∨ w.heap.size ≤ k_)) (.slice A1_1 l1_1.length c1_1) l1_1 from Kd.V_mono hs1_1 (fun k_ hk => .inl (.inr hk)))
 have HB := Aside0.mk (Below.refl w.heap.size w)
 have H : (if (a0_0 == a1_0) = true then (parquetref01_Num_Plus.l0 k ([] : List Int) 0 0 a0_0 l0_1 a1_0 l1_1) else ((parquetref01_size.f k l0_1 l1_1).bind fun t176 => (if t176 < 0 then (parquetref01_Num_Plus.j2 k ([] : List Int) 0 a1_0 l1_1 a0_0 l0_1) else (parquetref01_Num_Plus.j2 k ([] : List Int) 0 a0_0 l0_1 a1_0 l1_1)))) = some (r1, r2) := h
 clear h
 by_cases c3 : (a0_0 == a1_0) = true
 ·rw [if_pos c3] at H
  have c3b0 : (a0_0 == a1_0) = true := c3
  (try (have c3b1 : decide (a0_0 = a1_0) = true := by simpa using c3))
  (try (have c3b2 : (a0_0 == a1_0) = true := by simpa using c3))
  clear c3
  have H' := Aside0.mk H
  clear H
  go_enter Try.func37, Try.ntmps37
  go_wp2_with (first | ((with_reducible refine gate_dst (N := 2) rfl ?_); (try (refine gate_guard (by rfl) ?_; dsimp only)); refine box_event ?hg (N := 2) ?hd (cs := #[.bool a0_0, .slice A0_1 l0_1.length c0_1]) (t := 73) ?hr ?_; (case hd => rfl); (case hg => rfl); (case hr => first | (go_simp; done) | (go_simp; rfl)); intro gb162 hg w4 hbox hb; have n0_ := Aside0.mk (Kd.V_below (Kd.V_elderB (by (with_reducible repeat (first | apply Kd.V_alloc | apply Kd.V_drewN | apply Kd.V_drew)); exact HO0_1.out) gb162 (Nat.le_of_eq hg.symm)) hb); have n1_ := Aside0.mk (Kd.V_below (Kd.V_elderB (by (with_reducible repeat (first | apply Kd.V_alloc | apply Kd.V_drewN | apply Kd.V_drew)); exact HO1_1.out) gb162 (Nat.le_of_eq hg.symm)) hb); have n2_ := Aside0.mk (below_step (by repeat (first | (with_reducible first | exact HB.out | apply qa | apply qn | apply qd) | exact HB.out)) hb); have n3_ := Aside0.mk (hbox); have n4_ := bgw HB hg; have n5_ := bgw HB hg; clear HO0_1; clear HO1_1; clear HB; have HO0_1 := n0_; have HO1_1 := n1_; have HB := n2_; have BK162 := n3_; have GW162 := n4_; have GE162 := n5_; clear n0_ n1_ n2_ n3_ n4_ n5_; clear hb hbox hg) | ((with_reducible refine gate_dst (N := 3) rfl ?_); (try (refine gate_guard (by rfl) ?_; dsimp only)); refine box_event ?hg (N := 3) ?hd (cs := #[.bool a1_0, .slice A1_1 l1_1.length c1_1]) (t := 73) ?hr ?_; (case hd => rfl); (case hg => rfl); (case hr => first | (go_simp; done) | (go_simp; rfl)); intro gb163 hg w5 hbox hb; have n0_ := Aside0.mk (Kd.V_below (Kd.V_elderB (by (with_reducible repeat (first | apply Kd.V_alloc | apply Kd.V_drewN | apply Kd.V_drew)); exact HO0_1.out) gb163 (Nat.le_of_eq hg.symm)) hb); have n1_ := Aside0.mk (Kd.V_below (Kd.V_elderB (by (with_reducible repeat (first | apply Kd.V_alloc | apply Kd.V_drewN | apply Kd.V_drew)); exact HO1_1.out) gb163 (Nat.le_of_eq hg.symm)) hb); have n2_ := bb BK162 hb; have n3_ := Aside0.mk (below_step (by repeat (first | (with_reducible first | exact HB.out | apply qa | apply qn | apply qd | refine qs ?_ GE162.out) | exact HB.out)) hb); have n4_ := Aside0.mk (hbox); have n5_ := bgw HB hg; have n6_ := bgw HB hg; have n7_ := bnl BK162 hg; have n8_ := bng BK162 hg; clear HO0_1; clear HO1_1; clear BK162; clear HB; have HO0_1 := n0_; have HO1_1 := n1_; have BK162 := n2_; have HB := n3_; have BK163 := n4_; have GW163 := n5_; have GE163 := n6_; have NB162_163 := n7_; have NB163_162 := n8_; clear n0_ n1_ n2_ n3_ n4_ n5_ n6_ n7_ n8_; clear hb hbox hg) | ((with_reducible refine gate_dst (N := 4) rfl ?_); (try (refine gate_guard (by rfl) ?_; dsimp only)); refine box_event ?hg (N := 4) ?hd (cs := #[.bool false, .slice none 0 0]) (t := 73) ?hr ?_; (case hd => rfl); (case hg => rfl); (case hr => first | (go_simp; done) | (go_simp; rfl)); intro gb164 hg w6 hbox hb; have n0_ := Aside0.mk (Kd.V_below (Kd.V_elderB (by (with_reducible repeat (first | apply Kd.V_alloc | apply Kd.V_drewN | apply Kd.V_drew)); exact HO0_1.out) gb164 (Nat.le_of_eq hg.symm)) hb); have n1_ := Aside0.mk (Kd.V_below (Kd.V_elderB (by (with_reducible repeat (first | apply Kd.V_alloc | apply Kd.V_drewN | apply Kd.V_drew)); exact HO1_1.out) gb164 (Nat.le_of_eq hg.symm)) hb); have n2_ := bb BK162 hb; have n3_ := bb BK163 hb; have n4_ := Aside0.mk (below_step (by repeat (first | (with_reducible first | exact HB.out | apply qa | apply qn | apply qd | refine qs ?_ GE162.out | refine qs ?_ GE163.out) | exact HB.out)) hb); have n5_ := Aside0.mk (hbox); have n6_ := bgw HB hg; have n7_ := bgw HB hg; have n8_ := bnl BK162 hg; have n9_ := bng BK162 hg; have n10_ := bnl BK163 hg; have n11_ := bng BK163 hg; clear HO0_1; clear HO1_1; clear BK162; clear BK163; clear HB; have HO0_1 := n0_; have HO1_1 := n1_; have BK162 := n2_; have BK163 := n3_; have HB := n4_; have BK164 := n5_; have GW164 := n6_; have GE164 := n7_; have NB162_164 := n8_; have NB164_162 := n9_; have NB163_164 := n10_; have NB164_163 := n11_; clear n0_ n1_ n2_ n3_ n4_ n5_ n6_ n7_ n8_ n9_ n10_ n11_; clear hb hbox hg; have hnb7 := NB162_163.out; have hnc7 := NB163_162.out; have hnb8 := NB162_164.out; have hnc8 := NB164_162.out; obtain ⟨hcz9_0, hcz9_1⟩ := cl2 BK162.out; obtain ⟨hfz9_0, hfz9_1⟩ := fr2 BK162.out; have hnb10 := NB163_164.out; have hnc10 := NB164_163.out; obtain ⟨hcz11_0, hcz11_1⟩ := cl2 BK163.out; obtain ⟨hfz11_0, hfz11_1⟩ := fr2 BK163.out))
  repeat (go_quiet (fail); try go_wp2_with (fail))
  go_loopg [5, 6, 7] k (fun kq v5 v6 v7 w' => ∃ (x5_1 : List Int) (x6_1 : Int) (x7_1 : Int), v6 = .int .i64 x6_1 ∧ v7 = .int .i64 x7_1 ∧ Aside0 (parquetref01_Num_Plus.l0 kq x5_1 x6_1 x7_1 a0_0 l0_1 a1_0 l1_1 = some (r1, r2)) ∧ Aside0 (kq ≤ k) ∧ Aside0 (Kd.R (Kd.int .i64) 3 w' w.heap.size (fun k_ => (w.heap.size ≤ k_)) v5 x5_1) ∧ Aside0 (Kd.V (Kd.int .i64) 3 w' w.heap.size (fun k_ => ((P0_1_ k_ ∨ P1_1_ k_) ∨ w.heap.size ≤ k_) ∧ some k_ ≠ (v5 : Value).ownBlock ∧ k_ ≠ gb162 ∧ k_ ≠ gb163 ∧ k_ ≠ gb164) (.slice A0_1 l0_1.length c0_1) l0_1) ∧ Aside0 (Kd.V (Kd.int .i64) 3 w' w.heap.size (fun k_ => ((P0_1_ k_ ∨ P1_1_ k_) ∨ w.heap.size ≤ k_) ∧ some k_ ≠ (v5 : Value).ownBlock ∧ k_ ≠ gb162 ∧ k_ ≠ gb163 ∧ k_ ≠ gb164) (.slice A1_1 l1_1.length c1_1) l1_1) ∧ Aside0 (w'.heap[gb162]? = some (.cells #[.bool a0_0, (.slice A0_1 l0_1.length c0_1)] 73 (0, 0))) ∧ Aside0 (w'.heap[gb163]? = some (.cells #[.bool a1_0, (.slice A1_1 l1_1.length c1_1)] 73 (0, 0))) ∧ Aside0 (w'.heap[gb164]? = some (.cells #[.bool false, (.slice none 0 0)] 73 (0, 0))) ∧ Aside0 (Below w.heap.size w w'))
  case atStart => exact ⟨(([] : List Int)), (0), (0), (by first | rfl | (simp; done) | (simp [*]; done)), (by first | rfl | (simp; done) | (simp [*]; done)), H', ⟨Nat.le_refl _⟩, ⟨by first | exact Kd.R_nil _ _ _ _ _ | exact Kd.N_nil _ _ _ _ _ | exact Kd.V_nil _ _ _ _ _ | exact Kd.Q_nil _ _ _ _ _ | exact Kd.S_nil _ _ _ _ _⟩, ⟨by (with_reducible repeat (first | apply Kd.V_alloc | apply Kd.V_drewN | apply Kd.V_drew)); exact Kd.V_mono HO0_1.out (fun _ hk => ⟨hk.1.1.1, ⟨(by simp [Value.ownBlock]), ⟨hk.1.1.2, ⟨hk.1.2, hk.2⟩⟩⟩⟩)⟩, ⟨by (with_reducible repeat (first | apply Kd.V_alloc | apply Kd.V_drewN | apply Kd.V_drew)); exact Kd.V_mono HO1_1.out (fun _ hk => ⟨hk.1.1.1, ⟨(by simp [Value.ownBlock]), ⟨hk.1.1.2, ⟨hk.1.2, hk.2⟩⟩⟩⟩)⟩, ⟨by (with_reducible repeat (first | refine cn ?_ _ | refine cd ?_ | refine ca ?_ _)); exact BK162.out⟩, ⟨by (with_reducible repeat (first | refine cn ?_ _ | refine cd ?_ | refine ca ?_ _)); exact BK163.out⟩, ⟨by (with_reducible repeat (first | refine cn ?_ _ | refine cd ?_ | refine ca ?_ _)); exact BK164.out⟩, ⟨by repeat (first | (with_reducible first | exact HB.out | apply qa | apply qn | apply qd | refine qs ?_ GE162.out | refine qs ?_ GE163.out | refine qs ?_ GE164.out) | exact HB.out)⟩⟩
  case round =>
   clear H'
   try clear c1
   try clear p2
   try clear c3
   try clear c3b0
   try clear c3b1
   try clear c3b2
   try clear c7
   try clear c8
   try clear c10
   try clear hcz11_0
   try clear hcz11_1
   try clear hcz9_0
   try clear hcz9_1
   try clear hfz11_0
   try clear hfz11_1
   try clear hfz9_0
   try clear hfz9_1
   obtain ⟨x5_1, x6_1, x7_1, rfl, rfl, HA, HK1, HO_5, HO_163001, HO_164001, BK162, BK163, BK164, HB⟩ := hrel
   cases gk with
   | zero => exact absurd HA.out (by simp [parquetref01_Num_Plus.l0])
   | succ k1 =>
    have H := HA.out
    clear HA
    simp only [parquetref01_Num_Plus.l0] at H
    have HC12 := Aside0.mk H
    clear H
    go_upto_region 5 with (fail)
    repeat (go_quiet (fail); go_upto_region 5 with (fail))
    go_cut [33] (fun v33 wc => ∃ (kq : Nat) (x33_11 : Bool), v33 = .bool x33_11 ∧ Aside0 (parquetref01_Num_Plus.j1 kq x5_1 x6_1 x7_1 x33_11 a0_0 l0_1 a1_0 l1_1 = some (r1, r2)) ∧ Aside0 (kq ≤ k1) ∧ Aside0 (Kd.R (Kd.int .i64) 3 wc w.heap.size (fun k_ => (w.heap.size ≤ k_)) u5 x5_1) ∧ Aside0 (Kd.V (Kd.int .i64) 3 wc w.heap.size (fun k_ => ((P0_1_ k_ ∨ P1_1_ k_) ∨ w.heap.size ≤ k_) ∧ some k_ ≠ (u5 : Value).ownBlock ∧ k_ ≠ gb162 ∧ k_ ≠ gb163 ∧ k_ ≠ gb164) (.slice A0_1 l0_1.length c0_1) l0_1) ∧ Aside0 (Kd.V (Kd.int .i64) 3 wc w.heap.size (fun k_ => ((P0_1_ k_ ∨ P1_1_ k_) ∨ w.heap.size ≤ k_) ∧ some k_ ≠ (u5 : Value).ownBlock ∧ k_ ≠ gb162 ∧ k_ ≠ gb163 ∧ k_ ≠ gb164) (.slice A1_1 l1_1.length c1_1) l1_1) ∧ Aside0 (wc.heap[gb162]? = some (.cells #[.bool a0_0, (.slice A0_1 l0_1.length c0_1)] 73 (0, 0))) ∧ Aside0 (wc.heap[gb163]? = some (.cells #[.bool a1_0, (.slice A1_1 l1_1.length c1_1)] 73 (0, 0))) ∧ Aside0 (wc.heap[gb164]? = some (.cells #[.bool false, (.slice none 0 0)] 73 (0, 0))) ∧ Aside0 (Below w.heap.size w wc))
    case first =>
     have H := HC12.out
     clear HC12
     by_cases c13 : x7_1 < (l0_1.length : Int)
     ·rw [if_pos c13] at H
      have c13b0 : decide (x7_1 < (l0_1.length : Int)) = true := decide_eq_true c13
      clear c13
      (first | rw [c13b0] | (simp only [i64_w, i32_w]; rw [c13b0]) | skip)
      have H' := Aside0.mk H
      clear H
      have hnb14 := NB162_163.out
      have hnc14 := NB163_162.out
      have hnb15 := NB162_164.out
      have hnc15 := NB164_162.out
      obtain ⟨hcz16_0, hcz16_1⟩ := cl2 BK162.out
      obtain ⟨hfz16_0, hfz16_1⟩ := fr2 BK162.out
      go_wp2
      repeat (go_quiet (fail); try go_wp2)
      go_meet
      case rel => exact ⟨_, (true), (by first | rfl | (simp; done) | (simp [*]; done)), H', ⟨by have := HK1.out; first | omega | exact Nat.le_refl _⟩, ⟨by (with_reducible repeat (first | apply Kd.R_alloc | apply Kd.R_drewN | apply Kd.R_drew)); exact HO_5.out⟩, ⟨by (with_reducible repeat (first | apply Kd.V_alloc | apply Kd.V_drewN | apply Kd.V_drew)); exact HO_163001.out⟩, ⟨by (with_reducible repeat (first | apply Kd.V_alloc | apply Kd.V_drewN | apply Kd.V_drew)); exact HO_164001.out⟩, ⟨by (with_reducible repeat (first | refine cn ?_ _ | refine cd ?_ | refine ca ?_ _)); exact BK162.out⟩, ⟨by (with_reducible repeat (first | refine cn ?_ _ | refine cd ?_ | refine ca ?_ _)); exact BK163.out⟩, ⟨by (with_reducible repeat (first | refine cn ?_ _ | refine cd ?_ | refine ca ?_ _)); exact BK164.out⟩, ⟨by repeat (first | (with_reducible first | exact HB.out | apply qa | apply qn | apply qd | refine qs ?_ GE162.out | refine qs ?_ GE163.out | refine qs ?_ GE164.out) | exact HB.out)⟩⟩
     ·rw [if_neg c13] at H
      have c13b0 : decide (x7_1 < (l0_1.length : Int)) = false := decide_eq_false c13
      clear c13
      (first | rw [c13b0] | (simp only [i64_w, i32_w]; rw [c13b0]) | skip)
      by_cases c17 : x7_1 < (l1_1.length : Int)
      ·rw [if_pos c17] at H
       have c17b0 : decide (x7_1 < (l1_1.length : Int)) = true := decide_eq_true c17
       clear c17
       have H' := Aside0.mk H
       clear H
       have hnb18 := NB162_163.out
       have hnc18 := NB163_162.out
       have hnb19 := NB162_164.out
       have hnc19 := NB164_162.out
       obtain ⟨hcz20_0, hcz20_1⟩ := cl2 BK162.out
       obtain ⟨hfz20_0, hfz20_1⟩ := fr2 BK162.out
       have hnb21 := NB163_164.out
       have hnc21 := NB164_163.out
       obtain ⟨hcz22_0, hcz22_1⟩ := cl2 BK163.out
       obtain ⟨hfz22_0, hfz22_1⟩ := fr2 BK163.out
       go_wp2
       repeat (go_quiet (fail); try go_wp2)
       go_meet
       case rel => exact ⟨_, (true), (by first | rfl | (simp; done) | (simp [*]; done)), H', ⟨by have := HK1.out; first | omega | exact Nat.le_refl _⟩, ⟨by (with_reducible repeat (first | apply Kd.R_alloc | apply Kd.R_drewN | apply Kd.R_drew)); exact HO_5.out⟩, ⟨by (with_reducible repeat (first | apply Kd.V_alloc | apply Kd.V_drewN | apply Kd.V_drew)); exact HO_163001.out⟩, ⟨by (with_reducible repeat (first | apply Kd.V_alloc | apply Kd.V_drewN | apply Kd.V_drew)); exact HO_164001.out⟩, ⟨by (with_reducible repeat (first | refine cn ?_ _ | refine cd ?_ | refine ca ?_ _)); exact BK162.out⟩, ⟨by (with_reducible repeat (first | refine cn ?_ _ | refine cd ?_ | refine ca ?_ _)); exact BK163.out⟩, ⟨by (with_reducible repeat (first | refine cn ?_ _ | refine cd ?_ | refine ca ?_ _)); exact BK164.out⟩, ⟨by repeat (first | (with_reducible first | exact HB.out | apply qa | apply qn | apply qd | refine qs ?_ GE162.out | refine qs ?_ GE163.out | refine qs ?_ GE164.out) | exact HB.out)⟩⟩
      ·rw [if_neg c17] at H
       have c17b0 : decide (x7_1 < (l1_1.length : Int)) = false := decide_eq_false c17
       clear c17
       have H' := Aside0.mk H
       clear H
       have hnb23 := NB162_163.out
       have hnc23 := NB163_162.out
       have hnb24 := NB162_164.out
       have hnc24 := NB164_162.out
       obtain ⟨hcz25_0, hcz25_1⟩ := cl2 BK162.out
       obtain ⟨hfz25_0, hfz25_1⟩ := fr2 BK162.out
       have hnb26 := NB163_164.out
       have hnc26 := NB164_163.out
       obtain ⟨hcz27_0, hcz27_1⟩ := cl2 BK163.out
       obtain ⟨hfz27_0, hfz27_1⟩ := fr2 BK163.out
       go_wp2
       repeat (go_quiet (fail); try go_wp2)
       go_meet
       case rel => exact ⟨_, (decide (x6_1 > 0)), (by first | rfl | (simp; done) | (simp [*]; done)), H', ⟨by have := HK1.out; first | omega | exact Nat.le_refl _⟩, ⟨by (with_reducible repeat (first | apply Kd.R_alloc | apply Kd.R_drewN | apply Kd.R_drew)); exact HO_5.out⟩, ⟨by (with_reducible repeat (first | apply Kd.V_alloc | apply Kd.V_drewN | apply Kd.V_drew)); exact HO_163001.out⟩, ⟨by (with_reducible repeat (first | apply Kd.V_alloc | apply Kd.V_drewN | apply Kd.V_drew)); exact HO_164001.out⟩, ⟨by (with_reducible repeat (first | refine cn ?_ _ | refine cd ?_ | refine ca ?_ _)); exact BK162.out⟩, ⟨by (with_reducible repeat (first | refine cn ?_ _ | refine cd ?_ | refine ca ?_ _)); exact BK163.out⟩, ⟨by (with_reducible repeat (first | refine cn ?_ _ | refine cd ?_ | refine ca ?_ _)); exact BK164.out⟩, ⟨by repeat (first | (with_reducible first | exact HB.out | apply qa | apply qn | apply qd | refine qs ?_ GE162.out | refine qs ?_ GE163.out | refine qs ?_ GE164.out) | exact HB.out)⟩⟩
    case rest =>
     clear HC12
     try clear c1
     try clear c2
     try clear p2
     try clear c3
     try clear c3b0
     try clear c3b1
     try clear c3b2
     try clear c7
     try clear c8
     try clear c10
     try clear c13
     try clear c13b0
     try clear c14
     try clear c15
     try clear c17
     try clear c17b0
     try clear c18
     try clear c19
     try clear c21
     try clear c23
     try clear c24
     try clear c26
     try clear hcz11_0
     try clear hcz11_1
     try clear hcz16_0
     try clear hcz16_1
     try clear hcz20_0
     try clear hcz20_1
     try clear hcz22_0
     try clear hcz22_1
     try clear hcz25_0
     try clear hcz25_1
     try clear hcz27_0
     try clear hcz27_1
     try clear hcz9_0
     try clear hcz9_1
     try clear hfz11_0
     try clear hfz11_1
     try clear hfz16_0
     try clear hfz16_1
     try clear hfz20_0
     try clear hfz20_1
     try clear hfz22_0
     try clear hfz22_1
     try clear hfz25_0
     try clear hfz25_1
     try clear hfz27_0
     try clear hfz27_1
     try clear hfz9_0
     try clear hfz9_1
     try clear p2
     obtain ⟨kq, x33_11, rfl, HA, HJ11, HO_5, HO_163001, HO_164001, BK162, BK163, BK164, HB⟩ := hcut
     cases kq with
     | zero => exact absurd HA.out (by simp [parquetref01_Num_Plus.j1])
     | succ kj11 =>
      have H := HA.out
      clear HA
      simp only [parquetref01_Num_Plus.j1] at H
      by_cases c28 : x33_11 = true
      ·subst c28
       have H1 : ((parquetref01_digit.f l0_1 x7_1).bind fun t165 => ((parquetref01_digit.f l1_1 x7_1).bind fun t166 => (if x5_1.length < 17592186044416 then (parquetref01_Num_Plus.l0 kj11 (x5_1 ++ [Int.tmod (wrap64 ((wrap64 (t165 + t166)) + x6_1)) 65536]) (wrap64 (Int.tdiv (wrap64 ((wrap64 (t165 + t166)) + x6_1)) 65536)) (wrap64 (x7_1 + 1)) a0_0 l0_1 a1_0 l1_1) else (none)))) = some (r1, r2) := by rw [if_pos rfl] at H; exact H
       clear H
       have H := H1
       clear H1
       replace H := Option.bind_eq_some_iff.mp H
       obtain ⟨t165, A290, H⟩ := H
       replace H : ((parquetref01_digit.f l1_1 x7_1).bind fun t166 => (if x5_1.length < 17592186044416 then (parquetref01_Num_Plus.l0 kj11 (x5_1 ++ [Int.tmod (wrap64 ((wrap64 (t165 + t166)) + x6_1)) 65536]) (wrap64 (Int.tdiv (wrap64 ((wrap64 (t165 + t166)) + x6_1)) 65536)) (wrap64 (x7_1 + 1)) a0_0 l0_1 a1_0 l1_1) else (none))) = some (r1, r2) := H
       have A29 := Aside0.mk A290
       clear A290
       replace H := Option.bind_eq_some_iff.mp H
       obtain ⟨t166, A300, H⟩ := H
       replace H : (if x5_1.length < 17592186044416 then (parquetref01_Num_Plus.l0 kj11 (x5_1 ++ [Int.tmod (wrap64 ((wrap64 (t165 + t166)) + x6_1)) 65536]) (wrap64 (Int.tdiv (wrap64 ((wrap64 (t165 + t166)) + x6_1)) 65536)) (wrap64 (x7_1 + 1)) a0_0 l0_1 a1_0 l1_1) else (none)) = some (r1, r2) := H
       have A30 := Aside0.mk A300
       clear A300
       by_cases c31 : x5_1.length < 17592186044416
       ·rw [if_pos c31] at H
        have LMc31 := Aside0.mk c31
        clear c31
        obtain ⟨y167, hy167⟩ : ∃ y_ : List Int, y_ = (x5_1 ++ [Int.tmod (wrap64 ((wrap64 (t165 + t166)) + x6_1)) 65536]) := ⟨_, rfl⟩
        replace H : (parquetref01_Num_Plus.l0 kj11 y167 (wrap64 (Int.tdiv (wrap64 ((wrap64 (t165 + t166)) + x6_1)) 65536)) (wrap64 (x7_1 + 1)) a0_0 l0_1 a1_0 l1_1) = some (r1, r2) := by first | (rw [hy167]; with_reducible exact H) | (have H2_ := (Option.bind_some _ _).symm.trans H; rw [hy167]; with_reducible exact H2_) | (have H2_ := (Option.bind_some _ _).symm.trans H; with_reducible exact H2_) | with_reducible exact H | (rw [hy167]; exact H) | exact H
        have Ny167 := Aside0.mk hy167
        clear hy167
        have H' := Aside0.mk H
        clear H
        have hnb32 := NB162_163.out
        have hnc32 := NB163_162.out
        have hnb33 := NB162_164.out
        have hnc33 := NB164_162.out
        obtain ⟨hcz34_0, hcz34_1⟩ := cl2 BK162.out
        obtain ⟨hfz34_0, hfz34_1⟩ := fr2 BK162.out
        go_wp2_with (fail)
        repeat (go_quiet (first | (go_at_call 43; (with_reducible refine (parquetref01_digit.calls _ _ l0_1 x7_1 t165 _ ?side1 ?side2 A29.out).mono ?_); (case side1 => repeat (first | exact (Kd.V_reads' HO_163001.out).2.2 | (with_reducible refine Kd.C_alloc ?_ _) | (with_reducible refine Kd.C_drewN ?_ _) | (with_reducible refine Kd.C_drew ?_))); (case side2 => exact (Kd.V_reads' HO_163001.out).2.1); rintro e w' ⟨rfl, ⟨nd, rfl⟩⟩; (try first | exact ⟨rfl, _, World.drewN_drewN _ _ _⟩ | exact ⟨rfl, _, Eq.trans (World.drewN_drewN _ _ _) (congrArg (World.drewN _) (Nat.add_assoc _ _ _))⟩); have hnb35 := NB163_164.out; have hnc35 := NB164_163.out; obtain ⟨hcz36_0, hcz36_1⟩ := cl2 BK163.out; obtain ⟨hfz36_0, hfz36_1⟩ := fr2 BK163.out) | (go_at_call 43; (with_reducible refine (parquetref01_digit.calls _ _ l1_1 x7_1 t166 _ ?side1 ?side2 A30.out).mono ?_); (case side1 => repeat (first | exact (Kd.V_reads' HO_164001.out).2.2 | (with_reducible refine Kd.C_alloc ?_ _) | (with_reducible refine Kd.C_drewN ?_ _) | (with_reducible refine Kd.C_drew ?_))); (case side2 => exact (Kd.V_reads' HO_164001.out).2.1); rintro e w' ⟨rfl, ⟨nd, rfl⟩⟩; (try first | exact ⟨rfl, _, World.drewN_drewN _ _ _⟩ | exact ⟨rfl, _, Eq.trans (World.drewN_drewN _ _ _) (congrArg (World.drewN _) (Nat.add_assoc _ _ _))⟩))); try go_wp2_with (first | ((with_reducible refine gate_builtin (b := .append) (xs := #[.tmp 47, .tmp 50]) rfl ?_); (try (refine gate_guard (by rfl) ?_; dsimp only)); at_builtin; refine Kd.R_append (Kd.int .i64) (w0 := w) w.heap.size rfl (.tmp 47) (.tmp 50) 71 3 (.int .i64 0) 8 rfl Try.underlying71 info3 rfl (by decide) (by omega) u5 x5_1 (Int.tmod (wrap64 ((wrap64 (t165 + t166)) + x6_1)) 65536) [.int .i64 (Int.tmod (wrap64 ((wrap64 (t165 + t166)) + x6_1)) 65536)] (fun k_ => (w.heap.size ≤ k_)) (fun _ => False) rfl rfl ?aP (fun _ hk => hk.elim) ?aF ?aO ?aB ?aS ?aL ?_; (case aP => exact rfl); (case aB => exact (by repeat (first | (with_reducible first | exact HB.out | apply qa | apply qn | apply qd | refine qs ?_ GE162.out | refine qs ?_ GE163.out | refine qs ?_ GE164.out) | exact HB.out))); (case aF => exact (fun k_ hk => (Nat.le_trans (below_size (by repeat (first | (with_reducible first | exact HB.out | apply qa | apply qn | apply qd | refine qs ?_ GE162.out | refine qs ?_ GE163.out | refine qs ?_ GE164.out) | exact HB.out))) hk))); (case aO => exact (by (with_reducible repeat (first | apply Kd.R_alloc | apply Kd.R_drewN | apply Kd.R_drew)); exact HO_5.out)); (case aS => exact (below_size (by repeat (first | (with_reducible first | exact HB.out | apply qa | apply qn | apply qd | refine qs ?_ GE162.out | refine qs ?_ GE163.out | refine qs ?_ GE164.out) | exact HB.out)))); (case aL => have := LMc31.out; omega); intro v168 w37 ho hb hg hat; rw [← Ny167.out] at ho; have n0_ := Aside0.mk (Kd.V_afterv (ok := (fun k_ => ((P0_1_ k_ ∨ P1_1_ k_) ∨ w.heap.size ≤ k_) ∧ k_ ≠ gb162 ∧ k_ ≠ gb163 ∧ k_ ≠ gb164)) (by (with_reducible repeat (first | apply Kd.V_alloc | apply Kd.V_drewN | apply Kd.V_drew)); exact Kd.V_mono HO_163001.out (fun _ hk => ⟨⟨hk.1, ⟨hk.2.2.1, ⟨hk.2.2.2.1, hk.2.2.2.2⟩⟩⟩, hk.2.1⟩)) hg hat); have n1_ := Aside0.mk (Kd.V_afterv (ok := (fun k_ => ((P0_1_ k_ ∨ P1_1_ k_) ∨ w.heap.size ≤ k_) ∧ k_ ≠ gb162 ∧ k_ ≠ gb163 ∧ k_ ≠ gb164)) (by (with_reducible repeat (first | apply Kd.V_alloc | apply Kd.V_drewN | apply Kd.V_drew)); exact Kd.V_mono HO_164001.out (fun _ hk => ⟨⟨hk.1, ⟨hk.2.2.1, ⟨hk.2.2.2.1, hk.2.2.2.2⟩⟩⟩, hk.2.1⟩)) hg hat); have n2_ := Aside0.mk (blk_grown (g := gb162) (o := .cells #[.bool a0_0, .slice A0_1 l0_1.length c0_1] 73 (0, 0)) (by exact lb BK162.out) hg (Kd.R_ne HO_5.out BK162.out (by decide))); have n3_ := Aside0.mk (blk_grown (g := gb163) (o := .cells #[.bool a1_0, .slice A1_1 l1_1.length c1_1] 73 (0, 0)) (by exact lb BK163.out) hg (Kd.R_ne HO_5.out BK163.out (by decide))); have n4_ := Aside0.mk (blk_grown (g := gb164) (o := .cells #[.bool false, .slice none 0 0] 73 (0, 0)) (by exact lb BK164.out) hg (Kd.R_ne HO_5.out BK164.out (by decide))); have n5_ := Aside0.mk (hb); have n6_ := Aside0.mk (ho); clear HO_163001; clear HO_164001; clear BK162; clear BK163; clear BK164; clear HB; clear HO_5; have HO_163001 := n0_; have HO_164001 := n1_; have BK162 := n2_; have BK163 := n3_; have BK164 := n4_; have HB := n5_; have HO169 := n6_; clear n0_ n1_ n2_ n3_ n4_ n5_ n6_; clear ho hb hg hat)))
        go_roundg kj11
        case measure => have := HK1.out; have := HJ11.out; omega
        case rel => exact ⟨(y167), (wrap64 (Int.tdiv (wrap64 ((wrap64 (t165 + t166)) + x6_1)) 65536)), (wrap64 (x7_1 + 1)), (by first | rfl | (simp; done) | (simp [*]; done)), (by first | rfl | (simp; done) | (simp [*]; done)), H', ⟨by have := HK1.out; have := HJ11.out; omega⟩, ⟨by (with_reducible repeat (first | apply Kd.R_alloc | apply Kd.R_drewN | apply Kd.R_drew)); exact HO169.out⟩, ⟨by (with_reducible repeat (first | apply Kd.V_alloc | apply Kd.V_drewN | apply Kd.V_drew)); exact Kd.V_mono HO_163001.out (fun _ hk => ⟨hk.1.1, ⟨hk.2, ⟨hk.1.2.1, ⟨hk.1.2.2.1, hk.1.2.2.2⟩⟩⟩⟩)⟩, ⟨by (with_reducible repeat (first | apply Kd.V_alloc | apply Kd.V_drewN | apply Kd.V_drew)); exact Kd.V_mono HO_164001.out (fun _ hk => ⟨hk.1.1, ⟨hk.2, ⟨hk.1.2.1, ⟨hk.1.2.2.1, hk.1.2.2.2⟩⟩⟩⟩)⟩, ⟨by (with_reducible repeat (first | refine cn ?_ _ | refine cd ?_ | refine ca ?_ _)); exact BK162.out⟩, ⟨by (with_reducible repeat (first | refine cn ?_ _ | refine cd ?_ | refine ca ?_ _)); exact BK163.out⟩, ⟨by (with_reducible repeat (first | refine cn ?_ _ | refine cd ?_ | refine ca ?_ _)); exact BK164.out⟩, ⟨by repeat (first | (with_reducible first | exact HB.out | apply qa | apply qn | apply qd | refine qs ?_ GE162.out | refine qs ?_ GE163.out | refine qs ?_ GE164.out) | exact HB.out)⟩⟩
       ·rw [if_neg c31] at H
        exact absurd H (by simp)
      ·replace c28 := Bool.eq_false_iff.mpr c28
       subst c28
       have H1 : ((parquetref01_trim.f kj11 a0_0 x5_1).bind fun bt170 => (some (bt170.1, bt170.2))) = some (r1, r2) := by rw [if_neg (show ¬ (false = true) by decide)] at H; exact H
       clear H
       have H := H1
       clear H1
       replace H := Option.bind_eq_some_iff.mp H
       obtain ⟨⟨t170, t171⟩, A380, H⟩ := H
       replace H : (some (t170, t171)) = some (r1, r2) := H
       have A38 := Aside0.mk A380
       clear A380
       simp only [Option.some.injEq, Prod.mk.injEq] at H
       obtain ⟨rfl, rfl⟩ := H
       have hnb39 := NB162_163.out
       have hnc39 := NB163_162.out
       have hnb40 := NB162_164.out
       have hnc40 := NB164_162.out
       obtain ⟨hcz41_0, hcz41_1⟩ := cl2 BK162.out
       obtain ⟨hfz41_0, hfz41_1⟩ := fr2 BK162.out
       obtain ⟨Ao42, co42, eo42⟩ := Kd.R_slice HO_5.out
       subst eo42
       go_wp2_with (first | (go_at_call 39; (with_reducible refine (parquetref01_trim.calls kj11 a0_0 (fun k_ => some k_ = (.slice Ao42 x5_1.length co42 : Value).ownBlock) _ _ x5_1 t170 t171 _ ?side1 A38.out).mono ?_); (case side1 => exact Kd.R_V (Kd.R_tight rfl (Kd.R_types (Kd.R_types (Kd.R_types (HO_5.out) BK162.out (by decide)) BK163.out (by decide)) BK164.out (by decide)))); rintro e w43 ⟨v172, rfl, ho0, hb⟩; have n0_ := Aside0.mk (Kd.R_below (by (with_reducible repeat (first | apply Kd.R_alloc | apply Kd.R_drewN | apply Kd.R_drew)); exact HO_5.out) hb); have n1_ := Aside0.mk (Kd.V_below (by (with_reducible repeat (first | apply Kd.V_alloc | apply Kd.V_drewN | apply Kd.V_drew)); exact HO_163001.out) hb); have n2_ := Aside0.mk (Kd.V_below (by (with_reducible repeat (first | apply Kd.V_alloc | apply Kd.V_drewN | apply Kd.V_drew)); exact HO_164001.out) hb); have n3_ := Aside0.mk (Kd.V_lower (Kd.V_mono (ok' := fun k_ => ((P0_1_ k_ ∨ P1_1_ k_) ∨ w.heap.size ≤ k_) ∧ k_ ≠ gb162 ∧ k_ ≠ gb163 ∧ k_ ≠ gb164) ho0 (fun k_ hk_ => ⟨Or.elim hk_ (fun hs_ => (.inr (((Kd.R_types (Kd.R_types (Kd.R_types (HO_5.out) BK162.out (by decide)) BK163.out (by decide)) BK164.out (by decide)).1 k_ hs_.symm).1.1.1))) (fun hn_ => (.inr (Nat.le_trans (below_size (by repeat (first | (with_reducible first | exact HB.out | apply qa | apply qn | apply qd | refine qs ?_ GE162.out | refine qs ?_ GE163.out | refine qs ?_ GE164.out) | exact HB.out))) hn_))), Or.elim hk_ (fun hs_ => ((Kd.R_types (Kd.R_types (Kd.R_types (HO_5.out) BK162.out (by decide)) BK163.out (by decide)) BK164.out (by decide)).1 k_ hs_.symm).1.1.2) (fun hn_ => (Kd.freshB (g := gb162) (o := .cells #[.bool a0_0, .slice A0_1 l0_1.length c0_1] 73 (0, 0)) (by exact lb BK162.out) k_ hn_)), Or.elim hk_ (fun hs_ => ((Kd.R_types (Kd.R_types (Kd.R_types (HO_5.out) BK162.out (by decide)) BK163.out (by decide)) BK164.out (by decide)).1 k_ hs_.symm).1.2) (fun hn_ => (Kd.freshB (g := gb163) (o := .cells #[.bool a1_0, .slice A1_1 l1_1.length c1_1] 73 (0, 0)) (by exact lb BK163.out) k_ hn_)), Or.elim hk_ (fun hs_ => ((Kd.R_types (Kd.R_types (Kd.R_types (HO_5.out) BK162.out (by decide)) BK163.out (by decide)) BK164.out (by decide)).1 k_ hs_.symm).2) (fun hn_ => (Kd.freshB (g := gb164) (o := .cells #[.bool false, .slice none 0 0] 73 (0, 0)) (by exact lb BK164.out) k_ hn_))⟩)) (below_size (by repeat (first | (with_reducible first | exact HB.out | apply qa | apply qn | apply qd | refine qs ?_ GE162.out | refine qs ?_ GE163.out | refine qs ?_ GE164.out) | exact HB.out)))); have n4_ := bb BK162 hb; have n5_ := bb BK163 hb; have n6_ := bb BK164 hb; have n7_ := Aside0.mk (below_step (by repeat (first | (with_reducible first | exact HB.out | apply qa | apply qn | apply qd | refine qs ?_ GE162.out | refine qs ?_ GE163.out | refine qs ?_ GE164.out) | exact HB.out)) hb); clear HO_5; clear HO_163001; clear HO_164001; clear BK162; clear BK163; clear BK164; clear HB; have HO_5 := n0_; have HO_163001 := n1_; have HO_164001 := n2_; have HO173 := n3_; have BK162 := n4_; have BK163 := n5_; have BK164 := n6_; have HB := n7_; clear n0_ n1_ n2_ n3_ n4_ n5_ n6_ n7_; (try clear hb); (try clear hb2); (try clear hk); (try clear hi); (try clear ho0); have hnb44 := NB164_163.out; have hnc44 := NB163_164.out; obtain ⟨hcz45_0, hcz45_1⟩ := cl2 BK164.out; obtain ⟨hfz45_0, hfz45_1⟩ := fr2 BK164.out; obtain ⟨Ao46, co46, eo46⟩ := Kd.V_slice HO173.out; subst eo46))
       repeat (go_quiet (fail); try go_wp2_with (fail))
       refine bodyPost_ret (results_cell_row rfl _ _ gb164 73 #[.bool t170, .slice Ao46 t171.length co46] (0, 0) _ rfl (by (with_reducible repeat (first | refine cn ?_ _ | refine cd ?_ | refine ca ?_ _)); refine blk_put (cs := #[.bool t170, .slice none 0 0]) ?_ 1 _ rfl; (with_reducible repeat (first | refine cn ?_ _ | refine cd ?_ | refine ca ?_ _)); refine blk_put (cs := #[.bool false, .slice none 0 0]) ?_ 0 _ rfl; (with_reducible repeat (first | refine cn ?_ _ | refine cd ?_ | refine ca ?_ _)); exact BK164.out) Try.underlying73 rfl (by kernel_rfl)) rfl ?_
       exact ⟨_, by first | rfl | (simp [errW_none, errW_some] <;> rfl) | (simp [*, errW_none, errW_some] <;> rfl), by (with_reducible repeat (first | apply Kd.V_alloc | apply Kd.V_drewN | apply Kd.V_drew)); exact Kd.V_mono (Kd.V_far (p := ⟨gb164, 1, none⟩) (Kd.V_far (p := ⟨gb164, 0, none⟩) (Kd.V_mono HO173.out (fun k_ hk => (⟨hk, hk.2.2.2⟩ : _ ∧ k_ ≠ gb164))) (fun _ hk => hk.2) (.bool t170)) (fun _ hk => hk.2) (.slice Ao46 t171.length co46)) (fun _ hk => hk.1.1), by repeat (first | (with_reducible first | exact HB.out | apply qa | apply qn | apply qd | refine qs ?_ GE162.out | refine qs ?_ GE163.out | refine qs ?_ GE164.out) | exact HB.out)⟩
 ·rw [if_neg c3] at H
  have c3b0 : (a0_0 == a1_0) = false := by simpa using c3
  (try (have c3b1 : decide (a0_0 = a1_0) = false := by simpa using c3))
  (try (have c3b2 : (a0_0 == a1_0) = false := by simpa using c3))
  (try (have c3b3 : ¬ (a0_0 = a1_0) := by simpa using c3))
  clear c3
  replace H := Option.bind_eq_some_iff.mp H
  obtain ⟨t176, A470, H⟩ := H
  replace H : (if t176 < 0 then (parquetref01_Num_Plus.j2 k ([] : List Int) 0 a1_0 l1_1 a0_0 l0_1) else (parquetref01_Num_Plus.j2 k ([] : List Int) 0 a0_0 l0_1 a1_0 l1_1)) = some (r1, r2) := H
  have A47 := Aside0.mk A470
  clear A470
  have HC48 := Aside0.mk H
  clear H
  go_enter Try.func37, Try.ntmps37
  go_upto_if 65 with (first | ((with_reducible refine gate_dst (N := 2) rfl ?_); (try (refine gate_guard (by rfl) ?_; dsimp only)); refine box_event ?hg (N := 2) ?hd (cs := #[.bool a0_0, .slice A0_1 l0_1.length c0_1]) (t := 73) ?hr ?_; (case hd => rfl); (case hg => rfl); (case hr => first | (go_simp; done) | (go_simp; rfl)); intro gb162 hg w49 hbox hb; have n0_ := Aside0.mk (Kd.V_below (Kd.V_elderB (by (with_reducible repeat (first | apply Kd.V_alloc | apply Kd.V_drewN | apply Kd.V_drew)); exact HO0_1.out) gb162 (Nat.le_of_eq hg.symm)) hb); have n1_ := Aside0.mk (Kd.V_below (Kd.V_elderB (by (with_reducible repeat (first | apply Kd.V_alloc | apply Kd.V_drewN | apply Kd.V_drew)); exact HO1_1.out) gb162 (Nat.le_of_eq hg.symm)) hb); have n2_ := Aside0.mk (below_step (by repeat (first | (with_reducible first | exact HB.out | apply qa | apply qn | apply qd) | exact HB.out)) hb); have n3_ := Aside0.mk (hbox); have n4_ := bgw HB hg; have n5_ := bgw HB hg; clear HO0_1; clear HO1_1; clear HB; have HO0_1 := n0_; have HO1_1 := n1_; have HB := n2_; have BK162 := n3_; have GW162 := n4_; have GE162 := n5_; clear n0_ n1_ n2_ n3_ n4_ n5_; clear hb hbox hg) | ((with_reducible refine gate_dst (N := 3) rfl ?_); (try (refine gate_guard (by rfl) ?_; dsimp only)); refine box_event ?hg (N := 3) ?hd (cs := #[.bool a1_0, .slice A1_1 l1_1.length c1_1]) (t := 73) ?hr ?_; (case hd => rfl); (case hg => rfl); (case hr => first | (go_simp; done) | (go_simp; rfl)); intro gb163 hg w50 hbox hb; have n0_ := Aside0.mk (Kd.V_below (Kd.V_elderB (by (with_reducible repeat (first | apply Kd.V_alloc | apply Kd.V_drewN | apply Kd.V_drew)); exact HO0_1.out) gb163 (Nat.le_of_eq hg.symm)) hb); have n1_ := Aside0.mk (Kd.V_below (Kd.V_elderB (by (with_reducible repeat (first | apply Kd.V_alloc | apply Kd.V_drewN | apply Kd.V_drew)); exact HO1_1.out) gb163 (Nat.le_of_eq hg.symm)) hb); have n2_ := bb BK162 hb; have n3_ := Aside0.mk (below_step (by repeat (first | (with_reducible first | exact HB.out | apply qa | apply qn | apply qd | refine qs ?_ GE162.out) | exact HB.out)) hb); have n4_ := Aside0.mk (hbox); have n5_ := bgw HB hg; have n6_ := bgw HB hg; have n7_ := bnl BK162 hg; have n8_ := bng BK162 hg; clear HO0_1; clear HO1_1; clear BK162; clear HB; have HO0_1 := n0_; have HO1_1 := n1_; have BK162 := n2_; have HB := n3_; have BK163 := n4_; have GW163 := n5_; have GE163 := n6_; have NB162_163 := n7_; have NB163_162 := n8_; clear n0_ n1_ n2_ n3_ n4_ n5_ n6_ n7_ n8_; clear hb hbox hg) | ((with_reducible refine gate_dst (N := 4) rfl ?_); (try (refine gate_guard (by rfl) ?_; dsimp only)); refine box_event ?hg (N := 4) ?hd (cs := #[.bool false, .slice none 0 0]) (t := 73) ?hr ?_; (case hd => rfl); (case hg => rfl); (case hr => first | (go_simp; done) | (go_simp; rfl)); intro gb164 hg w51 hbox hb; have n0_ := Aside0.mk (Kd.V_below (Kd.V_elderB (by (with_reducible repeat (first | apply Kd.V_alloc | apply Kd.V_drewN | apply Kd.V_drew)); exact HO0_1.out) gb164 (Nat.le_of_eq hg.symm)) hb); have n1_ := Aside0.mk (Kd.V_below (Kd.V_elderB (by (with_reducible repeat (first | apply Kd.V_alloc | apply Kd.V_drewN | apply Kd.V_drew)); exact HO1_1.out) gb164 (Nat.le_of_eq hg.symm)) hb); have n2_ := bb BK162 hb; have n3_ := bb BK163 hb; have n4_ := Aside0.mk (below_step (by repeat (first | (with_reducible first | exact HB.out | apply qa | apply qn | apply qd | refine qs ?_ GE162.out | refine qs ?_ GE163.out) | exact HB.out)) hb); have n5_ := Aside0.mk (hbox); have n6_ := bgw HB hg; have n7_ := bgw HB hg; have n8_ := bnl BK162 hg; have n9_ := bng BK162 hg; have n10_ := bnl BK163 hg; have n11_ := bng BK163 hg; clear HO0_1; clear HO1_1; clear BK162; clear BK163; clear HB; have HO0_1 := n0_; have HO1_1 := n1_; have BK162 := n2_; have BK163 := n3_; have HB := n4_; have BK164 := n5_; have GW164 := n6_; have GE164 := n7_; have NB162_164 := n8_; have NB164_162 := n9_; have NB163_164 := n10_; have NB164_163 := n11_; clear n0_ n1_ n2_ n3_ n4_ n5_ n6_ n7_ n8_ n9_ n10_ n11_; clear hb hbox hg; have hnb52 := NB162_163.out; have hnc52 := NB163_162.out; have hnb53 := NB162_164.out; have hnc53 := NB164_162.out; obtain ⟨hcz54_0, hcz54_1⟩ := cl2 BK162.out; obtain ⟨hfz54_0, hfz54_1⟩ := fr2 BK162.out; have hnb55 := NB163_164.out; have hnc55 := NB164_163.out; obtain ⟨hcz56_0, hcz56_1⟩ := cl2 BK163.out; obtain ⟨hfz56_0, hfz56_1⟩ := fr2 BK163.out) | ((with_reducible refine gate_dst (N := 9) rfl ?_); (try (refine gate_guard (by rfl) ?_; dsimp only)); refine box_event ?hg (N := 9) ?hd (cs := #[.bool false, .slice none 0 0]) (t := 73) ?hr ?_; (case hd => rfl); (case hg => rfl); (case hr => first | (go_simp; done) | (go_simp; rfl)); intro gb174 hg w57 hbox hb; have n0_ := Aside0.mk (Kd.V_below (Kd.V_elderB (by (with_reducible repeat (first | apply Kd.V_alloc | apply Kd.V_drewN | apply Kd.V_drew)); exact HO0_1.out) gb174 (Nat.le_of_eq hg.symm)) hb); have n1_ := Aside0.mk (Kd.V_below (Kd.V_elderB (by (with_reducible repeat (first | apply Kd.V_alloc | apply Kd.V_drewN | apply Kd.V_drew)); exact HO1_1.out) gb174 (Nat.le_of_eq hg.symm)) hb); have n2_ := bb BK162 hb; have n3_ := bb BK163 hb; have n4_ := bb BK164 hb; have n5_ := Aside0.mk (below_step (by repeat (first | (with_reducible first | exact HB.out | apply qa | apply qn | apply qd | refine qs ?_ GE162.out | refine qs ?_ GE163.out | refine qs ?_ GE164.out) | exact HB.out)) hb); have n6_ := Aside0.mk (hbox); have n7_ := bgw HB hg; have n8_ := bgw HB hg; have n9_ := bnl BK162 hg; have n10_ := bng BK162 hg; have n11_ := bnl BK163 hg; have n12_ := bng BK163 hg; have n13_ := bnl BK164 hg; have n14_ := bng BK164 hg; clear HO0_1; clear HO1_1; clear BK162; clear BK163; clear BK164; clear HB; have HO0_1 := n0_; have HO1_1 := n1_; have BK162 := n2_; have BK163 := n3_; have BK164 := n4_; have HB := n5_; have BK174 := n6_; have GW174 := n7_; have GE174 := n8_; have NB162_174 := n9_; have NB174_162 := n10_; have NB163_174 := n11_; have NB174_163 := n12_; have NB164_174 := n13_; have NB174_164 := n14_; clear n0_ n1_ n2_ n3_ n4_ n5_ n6_ n7_ n8_ n9_ n10_ n11_ n12_ n13_ n14_; clear hb hbox hg; have hnb58 := NB174_162.out; have hnc58 := NB162_174.out; have hnb59 := NB174_163.out; have hnc59 := NB163_174.out; have hnb60 := NB174_164.out; have hnc60 := NB164_174.out; obtain ⟨hcz61_0, hcz61_1⟩ := cl2 BK174.out; obtain ⟨hfz61_0, hfz61_1⟩ := fr2 BK174.out; obtain ⟨hcz62_0, hcz62_1⟩ := cl2 BK163.out; obtain ⟨hfz62_0, hfz62_1⟩ := fr2 BK163.out) | ((with_reducible refine gate_dst (N := 10) rfl ?_); (try (refine gate_guard (by rfl) ?_; dsimp only)); refine box_event ?hg (N := 10) ?hd (cs := #[.bool false, .slice none 0 0]) (t := 73) ?hr ?_; (case hd => rfl); (case hg => rfl); (case hr => first | (go_simp; done) | (go_simp; rfl)); intro gb175 hg w63 hbox hb; have n0_ := Aside0.mk (Kd.V_below (Kd.V_elderB (by (with_reducible repeat (first | apply Kd.V_alloc | apply Kd.V_drewN | apply Kd.V_drew)); exact (Kd.V_mono (Kd.V_far (p := ⟨gb174, 1, none⟩) (Kd.V_far (p := ⟨gb174, 0, none⟩) (Kd.V_mono HO0_1.out (fun k_ hk => (⟨hk, hk.2⟩ : _ ∧ k_ ≠ gb174))) (fun _ hk => hk.2) (.bool a0_0)) (fun _ hk => hk.2) (.slice A0_1 l0_1.length c0_1)) (fun _ h_ => h_.1))) gb175 (Nat.le_of_eq hg.symm)) hb); have n1_ := Aside0.mk (Kd.V_below (Kd.V_elderB (by (with_reducible repeat (first | apply Kd.V_alloc | apply Kd.V_drewN | apply Kd.V_drew)); exact (Kd.V_mono (Kd.V_far (p := ⟨gb174, 1, none⟩) (Kd.V_far (p := ⟨gb174, 0, none⟩) (Kd.V_mono HO1_1.out (fun k_ hk => (⟨hk, hk.2⟩ : _ ∧ k_ ≠ gb174))) (fun _ hk => hk.2) (.bool a0_0)) (fun _ hk => hk.2) (.slice A0_1 l0_1.length c0_1)) (fun _ h_ => h_.1))) gb175 (Nat.le_of_eq hg.symm)) hb); have n2_ := Aside0.mk (blk_below (g := gb162) (o := .cells #[.bool a0_0, .slice A0_1 l0_1.length c0_1] 73 (0, 0)) (by repeat (with_reducible first | exact lb BK162.out | refine blk_far ?_ NB162_174.out _ | refine cn ?_ _ | refine cd ?_ | refine ca ?_ _)) hb); have n3_ := Aside0.mk (blk_below (g := gb163) (o := .cells #[.bool a1_0, .slice A1_1 l1_1.length c1_1] 73 (0, 0)) (by repeat (with_reducible first | exact lb BK163.out | refine blk_far ?_ NB163_174.out _ | refine cn ?_ _ | refine cd ?_ | refine ca ?_ _)) hb); have n4_ := Aside0.mk (blk_below (g := gb164) (o := .cells #[.bool false, .slice none 0 0] 73 (0, 0)) (by repeat (with_reducible first | exact lb BK164.out | refine blk_far ?_ NB164_174.out _ | refine cn ?_ _ | refine cd ?_ | refine ca ?_ _)) hb); have n5_ := Aside0.mk (blk_below (g := gb174) (o := .cells #[.bool a0_0, .slice A0_1 l0_1.length c0_1] 73 (0, 0)) (by (with_reducible repeat (first | refine cn ?_ _ | refine cd ?_ | refine ca ?_ _)); refine blk_put (cs := #[.bool a0_0, .slice none 0 0]) ?_ 1 _ rfl; (with_reducible repeat (first | refine cn ?_ _ | refine cd ?_ | refine ca ?_ _)); refine blk_put (cs := #[.bool false, .slice none 0 0]) ?_ 0 _ rfl; (with_reducible repeat (first | refine cn ?_ _ | refine cd ?_ | refine ca ?_ _)); exact BK174.out) hb); have n6_ := Aside0.mk (below_step (by repeat (first | (with_reducible first | exact HB.out | apply qa | apply qn | apply qd | refine qs ?_ GE162.out | refine qs ?_ GE163.out | refine qs ?_ GE164.out | refine qs ?_ GE174.out) | exact HB.out)) hb); have n7_ := Aside0.mk (hbox); have n8_ := bgw HB hg; have n9_ := bgw HB hg; have n10_ := Aside0.mk ((by rw [hg]; exact Nat.ne_of_lt (blk_lt (g := gb162) (o := .cells #[.bool a0_0, .slice A0_1 l0_1.length c0_1] 73 (0, 0)) (by repeat (with_reducible first | exact lb BK162.out | refine blk_far ?_ NB162_174.out _ | refine cn ?_ _ | refine cd ?_ | refine ca ?_ _))) : gb162 ≠ gb175)); have n11_ := Aside0.mk ((by rw [hg]; exact Nat.ne_of_gt (blk_lt (g := gb162) (o := .cells #[.bool a0_0, .slice A0_1 l0_1.length c0_1] 73 (0, 0)) (by repeat (with_reducible first | exact lb BK162.out | refine blk_far ?_ NB162_174.out _ | refine cn ?_ _ | refine cd ?_ | refine ca ?_ _))) : gb175 ≠ gb162)); have n12_ := Aside0.mk ((by rw [hg]; exact Nat.ne_of_lt (blk_lt (g := gb163) (o := .cells #[.bool a1_0, .slice A1_1 l1_1.length c1_1] 73 (0, 0)) (by repeat (with_reducible first | exact lb BK163.out | refine blk_far ?_ NB163_174.out _ | refine cn ?_ _ | refine cd ?_ | refine ca ?_ _))) : gb163 ≠ gb175)); have n13_ := Aside0.mk ((by rw [hg]; exact Nat.ne_of_gt (blk_lt (g := gb163) (o := .cells #[.bool a1_0, .slice A1_1 l1_1.length c1_1] 73 (0, 0)) (by repeat (with_reducible first | exact lb BK163.out | refine blk_far ?_ NB163_174.out _ | refine cn ?_ _ | refine cd ?_ | refine ca ?_ _))) : gb175 ≠ gb163)); have n14_ := Aside0.mk ((by rw [hg]; exact Nat.ne_of_lt (blk_lt (g := gb164) (o := .cells #[.bool false, .slice none 0 0] 73 (0, 0)) (by repeat (with_reducible first | exact lb BK164.out | refine blk_far ?_ NB164_174.out _ | refine cn ?_ _ | refine cd ?_ | refine ca ?_ _))) : gb164 ≠ gb175)); have n15_ := Aside0.mk ((by rw [hg]; exact Nat.ne_of_gt (blk_lt (g := gb164) (o := .cells #[.bool false, .slice none 0 0] 73 (0, 0)) (by repeat (with_reducible first | exact lb BK164.out | refine blk_far ?_ NB164_174.out _ | refine cn ?_ _ | refine cd ?_ | refine ca ?_ _))) : gb175 ≠ gb164)); have n16_ := Aside0.mk ((by rw [hg]; exact Nat.ne_of_lt (blk_lt (g := gb174) (o := .cells #[.bool a0_0, .slice A0_1 l0_1.length c0_1] 73 (0, 0)) (by (with_reducible repeat (first | refine cn ?_ _ | refine cd ?_ | refine ca ?_ _)); refine blk_put (cs := #[.bool a0_0, .slice none 0 0]) ?_ 1 _ rfl; (with_reducible repeat (first | refine cn ?_ _ | refine cd ?_ | refine ca ?_ _)); refine blk_put (cs := #[.bool false, .slice none 0 0]) ?_ 0 _ rfl; (with_reducible repeat (first | refine cn ?_ _ | refine cd ?_ | refine ca ?_ _)); exact BK174.out)) : gb174 ≠ gb175)); have n17_ := Aside0.mk ((by rw [hg]; exact Nat.ne_of_gt (blk_lt (g := gb174) (o := .cells #[.bool a0_0, .slice A0_1 l0_1.length c0_1] 73 (0, 0)) (by (with_reducible repeat (first | refine cn ?_ _ | refine cd ?_ | refine ca ?_ _)); refine blk_put (cs := #[.bool a0_0, .slice none 0 0]) ?_ 1 _ rfl; (with_reducible repeat (first | refine cn ?_ _ | refine cd ?_ | refine ca ?_ _)); refine blk_put (cs := #[.bool false, .slice none 0 0]) ?_ 0 _ rfl; (with_reducible repeat (first | refine cn ?_ _ | refine cd ?_ | refine ca ?_ _)); exact BK174.out)) : gb175 ≠ gb174)); clear HO0_1; clear HO1_1; clear BK162; clear BK163; clear BK164; clear BK174; clear HB; have HO0_1 := n0_; have HO1_1 := n1_; have BK162 := n2_; have BK163 := n3_; have BK164 := n4_; have BK174 := n5_; have HB := n6_; have BK175 := n7_; have GW175 := n8_; have GE175 := n9_; have NB162_175 := n10_; have NB175_162 := n11_; have NB163_175 := n12_; have NB175_163 := n13_; have NB164_175 := n14_; have NB175_164 := n15_; have NB174_175 := n16_; have NB175_174 := n17_; clear n0_ n1_ n2_ n3_ n4_ n5_ n6_ n7_ n8_ n9_ n10_ n11_ n12_ n13_ n14_ n15_ n16_ n17_; clear hb hbox hg; have hnb64 := NB175_162.out; have hnc64 := NB162_175.out; have hnb65 := NB175_163.out; have hnc65 := NB163_175.out; have hnb66 := NB175_164.out; have hnc66 := NB164_175.out; have hnb67 := NB175_174.out; have hnc67 := NB174_175.out; obtain ⟨hcz68_0, hcz68_1⟩ := cl2 BK175.out; obtain ⟨hfz68_0, hfz68_1⟩ := fr2 BK175.out; obtain ⟨hcz69_0, hcz69_1⟩ := cl2 BK162.out; obtain ⟨hfz69_0, hfz69_1⟩ := fr2 BK162.out; obtain ⟨hcz70_0, hcz70_1⟩ := cl2 BK163.out; obtain ⟨hfz70_0, hfz70_1⟩ := fr2 BK163.out) | (go_at_call 44; (with_reducible refine (parquetref01_size.calls k _ _ l0_1 _ _ l1_1 t176 _ ?side1 ?side2 ?side3 ?side4 A47.out).mono ?_); (case side1 => refine (Kd.V_reads' (e := 3) (base := w.heap.size) (ok := fun k_ => (((((((P0_1_ k_ ∨ P1_1_ k_) ∨ w.heap.size ≤ k_) ∧ k_ ≠ gb162) ∧ k_ ≠ gb163) ∧ k_ ≠ gb164) ∧ k_ ≠ gb174) ∧ k_ ≠ gb175)) (n := l0_1.length) (c := c0_1) ?_).2.2; exact (by (with_reducible repeat (first | apply Kd.V_alloc | apply Kd.V_drewN | apply Kd.V_drew)); exact (Kd.V_mono (Kd.V_far (p := ⟨gb175, 1, none⟩) (Kd.V_far (p := ⟨gb175, 0, none⟩) (Kd.V_mono HO0_1.out (fun k_ hk => (⟨hk, hk.2⟩ : _ ∧ k_ ≠ gb175))) (fun _ hk => hk.2) (.bool a1_0)) (fun _ hk => hk.2) (.slice A1_1 l1_1.length c1_1)) (fun _ h_ => h_.1)))); (case side2 => exact (Kd.V_reads' HO0_1.out).2.1); (case side3 => refine (Kd.V_reads' (e := 3) (base := w.heap.size) (ok := fun k_ => (((((((P0_1_ k_ ∨ P1_1_ k_) ∨ w.heap.size ≤ k_) ∧ k_ ≠ gb162) ∧ k_ ≠ gb163) ∧ k_ ≠ gb164) ∧ k_ ≠ gb174) ∧ k_ ≠ gb175)) (n := l1_1.length) (c := c1_1) ?_).2.2; exact (by (with_reducible repeat (first | apply Kd.V_alloc | apply Kd.V_drewN | apply Kd.V_drew)); exact (Kd.V_mono (Kd.V_far (p := ⟨gb175, 1, none⟩) (Kd.V_far (p := ⟨gb175, 0, none⟩) (Kd.V_mono HO1_1.out (fun k_ hk => (⟨hk, hk.2⟩ : _ ∧ k_ ≠ gb175))) (fun _ hk => hk.2) (.bool a1_0)) (fun _ hk => hk.2) (.slice A1_1 l1_1.length c1_1)) (fun _ h_ => h_.1)))); (case side4 => exact (Kd.V_reads' HO1_1.out).2.1); rintro e w' ⟨rfl, ⟨nd, rfl⟩⟩; (try first | exact ⟨rfl, _, World.drewN_drewN _ _ _⟩ | exact ⟨rfl, _, Eq.trans (World.drewN_drewN _ _ _) (congrArg (World.drewN _) (Nat.add_assoc _ _ _))⟩)))
  repeat (go_quiet (fail); go_upto_if 65 with (fail))
  (try simp only [Act.put, List.setIfInBounds_toArray, List.set_cons_zero, List.set_cons_succ])
  go_cut [] (fun wc => ∃ (kq : Nat) (x175000_47 : Bool) (x175001_47 : List Int) (x176000_47 : Bool) (x176001_47 : List Int) (u175001 : Value) (u176001 : Value), Aside0 (parquetref01_Num_Plus.j2 kq ([] : List Int) 0 x175000_47 x175001_47 x176000_47 x176001_47 = some (r1, r2)) ∧ Aside0 (kq ≤ k) ∧ Aside0 (Kd.R (Kd.int .i64) 3 wc w.heap.size (fun k_ => (w.heap.size ≤ k_)) (.slice none 0 0) ([] : List Int)) ∧ Aside0 (Kd.V (Kd.int .i64) 3 wc w.heap.size (fun k_ => ((P0_1_ k_ ∨ P1_1_ k_) ∨ w.heap.size ≤ k_) ∧ some k_ ≠ ((.slice none 0 0) : Value).ownBlock ∧ k_ ≠ gb162 ∧ k_ ≠ gb163 ∧ k_ ≠ gb164 ∧ k_ ≠ gb174 ∧ k_ ≠ gb175) (.slice A0_1 l0_1.length c0_1) l0_1) ∧ Aside0 (Kd.V (Kd.int .i64) 3 wc w.heap.size (fun k_ => ((P0_1_ k_ ∨ P1_1_ k_) ∨ w.heap.size ≤ k_) ∧ some k_ ≠ ((.slice none 0 0) : Value).ownBlock ∧ k_ ≠ gb162 ∧ k_ ≠ gb163 ∧ k_ ≠ gb164 ∧ k_ ≠ gb174 ∧ k_ ≠ gb175) (.slice A1_1 l1_1.length c1_1) l1_1) ∧ Aside0 (Kd.V (Kd.int .i64) 3 wc w.heap.size (fun k_ => ((P0_1_ k_ ∨ P1_1_ k_) ∨ w.heap.size ≤ k_) ∧ some k_ ≠ ((.slice none 0 0) : Value).ownBlock ∧ k_ ≠ gb162 ∧ k_ ≠ gb163 ∧ k_ ≠ gb164 ∧ k_ ≠ gb174 ∧ k_ ≠ gb175) u175001 x175001_47) ∧ Aside0 (Kd.V (Kd.int .i64) 3 wc w.heap.size (fun k_ => ((P0_1_ k_ ∨ P1_1_ k_) ∨ w.heap.size ≤ k_) ∧ some k_ ≠ ((.slice none 0 0) : Value).ownBlock ∧ k_ ≠ gb162 ∧ k_ ≠ gb163 ∧ k_ ≠ gb164 ∧ k_ ≠ gb174 ∧ k_ ≠ gb175) u176001 x176001_47) ∧ Aside0 (wc.heap[gb162]? = some (.cells #[.bool a0_0, (.slice A0_1 l0_1.length c0_1)] 73 (0, 0))) ∧ Aside0 (wc.heap[gb163]? = some (.cells #[.bool a1_0, (.slice A1_1 l1_1.length c1_1)] 73 (0, 0))) ∧ Aside0 (wc.heap[gb164]? = some (.cells #[.bool false, (.slice none 0 0)] 73 (0, 0))) ∧ Aside0 (wc.heap[gb174]? = some (.cells #[.bool x175000_47, u175001] 73 (0, 0))) ∧ Aside0 (wc.heap[gb175]? = some (.cells #[.bool x176000_47, u176001] 73 (0, 0))) ∧ Aside0 (Below w.heap.size w wc))
  case first =>
   have H := HC48.out
   clear HC48
   by_cases c71 : t176 < 0
   ·rw [if_pos c71] at H
    have c71b0 : decide (t176 < 0) = true := decide_eq_true c71
    clear c71
    (first | rw [c71b0] | (simp only [i64_w, i32_w]; rw [c71b0]) | skip)
    have H' := Aside0.mk H
    clear H
    have hnb72 := NB163_162.out
    have hnc72 := NB162_163.out
    have hnb73 := NB163_164.out
    have hnc73 := NB164_163.out
    have hnb74 := NB163_174.out
    have hnc74 := NB174_163.out
    have hnb75 := NB163_175.out
    have hnc75 := NB175_163.out
    obtain ⟨hcz76_0, hcz76_1⟩ := cl2 BK163.out
    obtain ⟨hfz76_0, hfz76_1⟩ := fr2 BK163.out
    have hnb77 := NB174_162.out
    have hnc77 := NB162_174.out
    have hnb78 := NB174_164.out
    have hnc78 := NB164_174.out
    have hnb79 := NB174_175.out
    have hnc79 := NB175_174.out
    obtain ⟨hcz80_0, hcz80_1⟩ := cl2 BK174.out
    obtain ⟨hfz80_0, hfz80_1⟩ := fr2 BK174.out
    have hnb81 := NB162_164.out
    have hnc81 := NB164_162.out
    have hnb82 := NB162_175.out
    have hnc82 := NB175_162.out
    obtain ⟨hcz83_0, hcz83_1⟩ := cl2 BK162.out
    obtain ⟨hfz83_0, hfz83_1⟩ := fr2 BK162.out
    have hnb84 := NB175_164.out
    have hnc84 := NB164_175.out
    obtain ⟨hcz85_0, hcz85_1⟩ := cl2 BK175.out
    obtain ⟨hfz85_0, hfz85_1⟩ := fr2 BK175.out
    go_wp2
    repeat (go_quiet (fail); try go_wp2)
    go_meet
    case rel => exact ⟨_, (a1_0), (l1_1), (a0_0), (l0_1), (.slice A1_1 l1_1.length c1_1), (.slice A0_1 l0_1.length c0_1), H', ⟨by first | omega | exact Nat.le_refl _⟩, ⟨by first | exact Kd.R_nil _ _ _ _ _ | exact Kd.N_nil _ _ _ _ _ | exact Kd.V_nil _ _ _ _ _ | exact Kd.Q_nil _ _ _ _ _ | exact Kd.S_nil _ _ _ _ _⟩, ⟨by (with_reducible repeat (first | apply Kd.V_alloc | apply Kd.V_drewN | apply Kd.V_drew)); exact Kd.V_mono (Kd.V_far (p := ⟨gb175, 1, none⟩) (Kd.V_far (p := ⟨gb175, 0, none⟩) (Kd.V_far (p := ⟨gb174, 1, none⟩) (Kd.V_far (p := ⟨gb174, 0, none⟩) (Kd.V_far (p := ⟨gb175, 1, none⟩) (Kd.V_far (p := ⟨gb175, 0, none⟩) (Kd.V_mono (Kd.V_mono HO0_1.out (fun k_ hk => (⟨hk, hk.2⟩ : _ ∧ k_ ≠ gb175))) (fun k_ hk => (⟨hk, hk.1.1.2⟩ : _ ∧ k_ ≠ gb174))) (fun _ hk => hk.1.2) (.bool a1_0)) (fun _ hk => hk.1.2) (.slice A1_1 l1_1.length c1_1)) (fun _ hk => hk.2) (.bool a1_0)) (fun _ hk => hk.2) (.slice A1_1 l1_1.length c1_1)) (fun _ hk => hk.1.2) (.bool a0_0)) (fun _ hk => hk.1.2) (.slice A0_1 l0_1.length c0_1)) (fun _ hk => ⟨hk.1.1.1.1.1.1.1, ⟨(by simp [Value.ownBlock]), ⟨hk.1.1.1.1.1.1.2, ⟨hk.1.1.1.1.1.2, ⟨hk.1.1.1.1.2, ⟨hk.1.1.1.2, hk.1.1.2⟩⟩⟩⟩⟩⟩)⟩, ⟨by (with_reducible repeat (first | apply Kd.V_alloc | apply Kd.V_drewN | apply Kd.V_drew)); exact Kd.V_mono (Kd.V_far (p := ⟨gb175, 1, none⟩) (Kd.V_far (p := ⟨gb175, 0, none⟩) (Kd.V_far (p := ⟨gb174, 1, none⟩) (Kd.V_far (p := ⟨gb174, 0, none⟩) (Kd.V_far (p := ⟨gb175, 1, none⟩) (Kd.V_far (p := ⟨gb175, 0, none⟩) (Kd.V_mono (Kd.V_mono HO1_1.out (fun k_ hk => (⟨hk, hk.2⟩ : _ ∧ k_ ≠ gb175))) (fun k_ hk => (⟨hk, hk.1.1.2⟩ : _ ∧ k_ ≠ gb174))) (fun _ hk => hk.1.2) (.bool a1_0)) (fun _ hk => hk.1.2) (.slice A1_1 l1_1.length c1_1)) (fun _ hk => hk.2) (.bool a1_0)) (fun _ hk => hk.2) (.slice A1_1 l1_1.length c1_1)) (fun _ hk => hk.1.2) (.bool a0_0)) (fun _ hk => hk.1.2) (.slice A0_1 l0_1.length c0_1)) (fun _ hk => ⟨hk.1.1.1.1.1.1.1, ⟨(by simp [Value.ownBlock]), ⟨hk.1.1.1.1.1.1.2, ⟨hk.1.1.1.1.1.2, ⟨hk.1.1.1.1.2, ⟨hk.1.1.1.2, hk.1.1.2⟩⟩⟩⟩⟩⟩)⟩, ⟨by (with_reducible repeat (first | apply Kd.V_alloc | apply Kd.V_drewN | apply Kd.V_drew)); exact Kd.V_mono (Kd.V_far (p := ⟨gb175, 1, none⟩) (Kd.V_far (p := ⟨gb175, 0, none⟩) (Kd.V_far (p := ⟨gb174, 1, none⟩) (Kd.V_far (p := ⟨gb174, 0, none⟩) (Kd.V_far (p := ⟨gb175, 1, none⟩) (Kd.V_far (p := ⟨gb175, 0, none⟩) (Kd.V_mono (Kd.V_mono HO1_1.out (fun k_ hk => (⟨hk, hk.2⟩ : _ ∧ k_ ≠ gb175))) (fun k_ hk => (⟨hk, hk.1.1.2⟩ : _ ∧ k_ ≠ gb174))) (fun _ hk => hk.1.2) (.bool a1_0)) (fun _ hk => hk.1.2) (.slice A1_1 l1_1.length c1_1)) (fun _ hk => hk.2) (.bool a1_0)) (fun _ hk => hk.2) (.slice A1_1 l1_1.length c1_1)) (fun _ hk => hk.1.2) (.bool a0_0)) (fun _ hk => hk.1.2) (.slice A0_1 l0_1.length c0_1)) (fun _ hk => ⟨hk.1.1.1.1.1.1.1, ⟨(by simp [Value.ownBlock]), ⟨hk.1.1.1.1.1.1.2, ⟨hk.1.1.1.1.1.2, ⟨hk.1.1.1.1.2, ⟨hk.1.1.1.2, hk.1.1.2⟩⟩⟩⟩⟩⟩)⟩, ⟨by (with_reducible repeat (first | apply Kd.V_alloc | apply Kd.V_drewN | apply Kd.V_drew)); exact Kd.V_mono (Kd.V_far (p := ⟨gb175, 1, none⟩) (Kd.V_far (p := ⟨gb175, 0, none⟩) (Kd.V_far (p := ⟨gb174, 1, none⟩) (Kd.V_far (p := ⟨gb174, 0, none⟩) (Kd.V_far (p := ⟨gb175, 1, none⟩) (Kd.V_far (p := ⟨gb175, 0, none⟩) (Kd.V_mono (Kd.V_mono HO0_1.out (fun k_ hk => (⟨hk, hk.2⟩ : _ ∧ k_ ≠ gb175))) (fun k_ hk => (⟨hk, hk.1.1.2⟩ : _ ∧ k_ ≠ gb174))) (fun _ hk => hk.1.2) (.bool a1_0)) (fun _ hk => hk.1.2) (.slice A1_1 l1_1.length c1_1)) (fun _ hk => hk.2) (.bool a1_0)) (fun _ hk => hk.2) (.slice A1_1 l1_1.length c1_1)) (fun _ hk => hk.1.2) (.bool a0_0)) (fun _ hk => hk.1.2) (.slice A0_1 l0_1.length c0_1)) (fun _ hk => ⟨hk.1.1.1.1.1.1.1, ⟨(by simp [Value.ownBlock]), ⟨hk.1.1.1.1.1.1.2, ⟨hk.1.1.1.1.1.2, ⟨hk.1.1.1.1.2, ⟨hk.1.1.1.2, hk.1.1.2⟩⟩⟩⟩⟩⟩)⟩, ⟨by repeat (with_reducible first | exact lb BK162.out | refine blk_far ?_ NB162_175.out _ | refine blk_far ?_ NB162_174.out _ | refine cn ?_ _ | refine cd ?_ | refine ca ?_ _)⟩, ⟨by repeat (with_reducible first | exact lb BK163.out | refine blk_far ?_ NB163_175.out _ | refine blk_far ?_ NB163_174.out _ | refine cn ?_ _ | refine cd ?_ | refine ca ?_ _)⟩, ⟨by repeat (with_reducible first | exact lb BK164.out | refine blk_far ?_ NB164_175.out _ | refine blk_far ?_ NB164_174.out _ | refine cn ?_ _ | refine cd ?_ | refine ca ?_ _)⟩, ⟨by (with_reducible repeat (first | refine cn ?_ _ | refine cd ?_ | refine ca ?_ _)); refine blk_far ?_ NB174_175.out _; (with_reducible repeat (first | refine cn ?_ _ | refine cd ?_ | refine ca ?_ _)); refine blk_far ?_ NB174_175.out _; (with_reducible repeat (first | refine cn ?_ _ | refine cd ?_ | refine ca ?_ _)); refine blk_put (cs := #[.bool a1_0, .slice A0_1 l0_1.length c0_1]) ?_ 1 _ rfl; (with_reducible repeat (first | refine cn ?_ _ | refine cd ?_ | refine ca ?_ _)); refine blk_put (cs := #[.bool a0_0, .slice A0_1 l0_1.length c0_1]) ?_ 0 _ rfl; (with_reducible repeat (first | refine cn ?_ _ | refine cd ?_ | refine ca ?_ _)); refine blk_far ?_ NB174_175.out _; (with_reducible repeat (first | refine cn ?_ _ | refine cd ?_ | refine ca ?_ _)); refine blk_far ?_ NB174_175.out _; (with_reducible repeat (first | refine cn ?_ _ | refine cd ?_ | refine ca ?_ _)); exact BK174.out⟩, ⟨by (with_reducible repeat (first | refine cn ?_ _ | refine cd ?_ | refine ca ?_ _)); refine blk_put (cs := #[.bool a0_0, .slice A1_1 l1_1.length c1_1]) ?_ 1 _ rfl; (with_reducible repeat (first | refine cn ?_ _ | refine cd ?_ | refine ca ?_ _)); refine blk_put (cs := #[.bool a1_0, .slice A1_1 l1_1.length c1_1]) ?_ 0 _ rfl; (with_reducible repeat (first | refine cn ?_ _ | refine cd ?_ | refine ca ?_ _)); refine blk_far ?_ NB175_174.out _; (with_reducible repeat (first | refine cn ?_ _ | refine cd ?_ | refine ca ?_ _)); refine blk_far ?_ NB175_174.out _; (with_reducible repeat (first | refine cn ?_ _ | refine cd ?_ | refine ca ?_ _)); refine blk_put (cs := #[.bool a1_0, .slice none 0 0]) ?_ 1 _ rfl; (with_reducible repeat (first | refine cn ?_ _ | refine cd ?_ | refine ca ?_ _)); refine blk_put (cs := #[.bool false, .slice none 0 0]) ?_ 0 _ rfl; (with_reducible repeat (first | refine cn ?_ _ | refine cd ?_ | refine ca ?_ _)); exact BK175.out⟩, ⟨by repeat (first | (with_reducible first | exact HB.out | apply qa | apply qn | apply qd | refine qs ?_ GE162.out | refine qs ?_ GE163.out | refine qs ?_ GE164.out | refine qs ?_ GE174.out | refine qs ?_ GE175.out) | exact HB.out)⟩⟩
   ·rw [if_neg c71] at H
    have c71b0 : decide (t176 < 0) = false := decide_eq_false c71
    clear c71
    (first | rw [c71b0] | (simp only [i64_w, i32_w]; rw [c71b0]) | skip)
    have H' := Aside0.mk H
    clear H
    go_wp2
    repeat (go_quiet (fail); try go_wp2)
    go_meet
    case rel => exact ⟨_, (a0_0), (l0_1), (a1_0), (l1_1), (.slice A0_1 l0_1.length c0_1), (.slice A1_1 l1_1.length c1_1), H', ⟨by first | omega | exact Nat.le_refl _⟩, ⟨by first | exact Kd.R_nil _ _ _ _ _ | exact Kd.N_nil _ _ _ _ _ | exact Kd.V_nil _ _ _ _ _ | exact Kd.Q_nil _ _ _ _ _ | exact Kd.S_nil _ _ _ _ _⟩, ⟨by (with_reducible repeat (first | apply Kd.V_alloc | apply Kd.V_drewN | apply Kd.V_drew)); exact Kd.V_mono (Kd.V_far (p := ⟨gb175, 1, none⟩) (Kd.V_far (p := ⟨gb175, 0, none⟩) (Kd.V_mono HO0_1.out (fun k_ hk => (⟨hk, hk.2⟩ : _ ∧ k_ ≠ gb175))) (fun _ hk => hk.2) (.bool a1_0)) (fun _ hk => hk.2) (.slice A1_1 l1_1.length c1_1)) (fun _ hk => ⟨hk.1.1.1.1.1.1, ⟨(by simp [Value.ownBlock]), ⟨hk.1.1.1.1.1.2, ⟨hk.1.1.1.1.2, ⟨hk.1.1.1.2, ⟨hk.1.1.2, hk.1.2⟩⟩⟩⟩⟩⟩)⟩, ⟨by (with_reducible repeat (first | apply Kd.V_alloc | apply Kd.V_drewN | apply Kd.V_drew)); exact Kd.V_mono (Kd.V_far (p := ⟨gb175, 1, none⟩) (Kd.V_far (p := ⟨gb175, 0, none⟩) (Kd.V_mono HO1_1.out (fun k_ hk => (⟨hk, hk.2⟩ : _ ∧ k_ ≠ gb175))) (fun _ hk => hk.2) (.bool a1_0)) (fun _ hk => hk.2) (.slice A1_1 l1_1.length c1_1)) (fun _ hk => ⟨hk.1.1.1.1.1.1, ⟨(by simp [Value.ownBlock]), ⟨hk.1.1.1.1.1.2, ⟨hk.1.1.1.1.2, ⟨hk.1.1.1.2, ⟨hk.1.1.2, hk.1.2⟩⟩⟩⟩⟩⟩)⟩, ⟨by (with_reducible repeat (first | apply Kd.V_alloc | apply Kd.V_drewN | apply Kd.V_drew)); exact Kd.V_mono (Kd.V_far (p := ⟨gb175, 1, none⟩) (Kd.V_far (p := ⟨gb175, 0, none⟩) (Kd.V_mono HO0_1.out (fun k_ hk => (⟨hk, hk.2⟩ : _ ∧ k_ ≠ gb175))) (fun _ hk => hk.2) (.bool a1_0)) (fun _ hk => hk.2) (.slice A1_1 l1_1.length c1_1)) (fun _ hk => ⟨hk.1.1.1.1.1.1, ⟨(by simp [Value.ownBlock]), ⟨hk.1.1.1.1.1.2, ⟨hk.1.1.1.1.2, ⟨hk.1.1.1.2, ⟨hk.1.1.2, hk.1.2⟩⟩⟩⟩⟩⟩)⟩, ⟨by (with_reducible repeat (first | apply Kd.V_alloc | apply Kd.V_drewN | apply Kd.V_drew)); exact Kd.V_mono (Kd.V_far (p := ⟨gb175, 1, none⟩) (Kd.V_far (p := ⟨gb175, 0, none⟩) (Kd.V_mono HO1_1.out (fun k_ hk => (⟨hk, hk.2⟩ : _ ∧ k_ ≠ gb175))) (fun _ hk => hk.2) (.bool a1_0)) (fun _ hk => hk.2) (.slice A1_1 l1_1.length c1_1)) (fun _ hk => ⟨hk.1.1.1.1.1.1, ⟨(by simp [Value.ownBlock]), ⟨hk.1.1.1.1.1.2, ⟨hk.1.1.1.1.2, ⟨hk.1.1.1.2, ⟨hk.1.1.2, hk.1.2⟩⟩⟩⟩⟩⟩)⟩, ⟨by repeat (with_reducible first | exact lb BK162.out | refine blk_far ?_ NB162_175.out _ | refine cn ?_ _ | refine cd ?_ | refine ca ?_ _)⟩, ⟨by repeat (with_reducible first | exact lb BK163.out | refine blk_far ?_ NB163_175.out _ | refine cn ?_ _ | refine cd ?_ | refine ca ?_ _)⟩, ⟨by repeat (with_reducible first | exact lb BK164.out | refine blk_far ?_ NB164_175.out _ | refine cn ?_ _ | refine cd ?_ | refine ca ?_ _)⟩, ⟨by repeat (with_reducible first | exact lb BK174.out | refine blk_far ?_ NB174_175.out _ | refine cn ?_ _ | refine cd ?_ | refine ca ?_ _)⟩, ⟨by (with_reducible repeat (first | refine cn ?_ _ | refine cd ?_ | refine ca ?_ _)); refine blk_put (cs := #[.bool a1_0, .slice none 0 0]) ?_ 1 _ rfl; (with_reducible repeat (first | refine cn ?_ _ | refine cd ?_ | refine ca ?_ _)); refine blk_put (cs := #[.bool false, .slice none 0 0]) ?_ 0 _ rfl; (with_reducible repeat (first | refine cn ?_ _ | refine cd ?_ | refine ca ?_ _)); exact BK175.out⟩, ⟨by repeat (first | (with_reducible first | exact HB.out | apply qa | apply qn | apply qd | refine qs ?_ GE162.out | refine qs ?_ GE163.out | refine qs ?_ GE164.out | refine qs ?_ GE174.out | refine qs ?_ GE175.out) | exact HB.out)⟩⟩
  case rest =>
   clear HC48
   try clear c1
   try clear c2
   try clear p2
   try clear c3
   try clear c3b0
   try clear c3b1
   try clear c3b2
   try clear c4
   try clear c5
   try clear c6
   try clear p6
   try clear c7
   try clear c8
   try clear c10
   try clear c13
   try clear c13b0
   try clear c14
   try clear c15
   try clear c17
   try clear c17b0
   try clear c18
   try clear c19
   try clear c21
   try clear c23
   try clear c24
   try clear c26
   try clear c28
   try clear c31
   try clear c32
   try clear c33
   try clear c35
   try clear c37
   try clear c39
   try clear c40
   try clear c44
   try clear c52
   try clear c53
   try clear c55
   try clear c58
   try clear c59
   try clear c60
   try clear c64
   try clear p64
   try clear c65
   try clear c66
   try clear c67
   try clear c71
   try clear c71b0
   try clear c72
   try clear c73
   try clear c74
   try clear c75
   try clear c77
   try clear c78
   try clear c79
   try clear c81
   try clear c82
   try clear c84
   try clear hcz11_0
   try clear hcz11_1
   try clear hcz16_0
   try clear hcz16_1
   try clear hcz20_0
   try clear hcz20_1
   try clear hcz22_0
   try clear hcz22_1
   try clear hcz25_0
   try clear hcz25_1
   try clear hcz27_0
   try clear hcz27_1
   try clear hcz34_0
   try clear hcz34_1
   try clear hcz36_0
   try clear hcz36_1
   try clear hcz41_0
   try clear hcz41_1
   try clear hcz45_0
   try clear hcz45_1
   try clear hcz54_0
   try clear hcz54_1
   try clear hcz56_0
   try clear hcz56_1
   try clear hcz61_0
   try clear hcz61_1
   try clear hcz62_0
   try clear hcz62_1
   try clear hcz68_0
   try clear hcz68_1
   try clear hcz69_0
   try clear hcz69_1
   try clear hcz70_0
   try clear hcz70_1
   try clear hcz76_0
   try clear hcz76_1
   try clear hcz80_0
   try clear hcz80_1
   try clear hcz83_0
   try clear hcz83_1
   try clear hcz85_0
   try clear hcz85_1
   try clear hcz9_0
   try clear hcz9_1
   try clear hfz11_0
   try clear hfz11_1
   try clear hfz16_0
   try clear hfz16_1
   try clear hfz20_0
   try clear hfz20_1
   try clear hfz22_0
   try clear hfz22_1
   try clear hfz25_0
   try clear hfz25_1
   try clear hfz27_0
   try clear hfz27_1
   try clear hfz34_0
   try clear hfz34_1
   try clear hfz36_0
   try clear hfz36_1
   try clear hfz41_0
   try clear hfz41_1
   try clear hfz45_0
   try clear hfz45_1
   try clear hfz54_0
   try clear hfz54_1
   try clear hfz56_0
   try clear hfz56_1
   try clear hfz61_0
   try clear hfz61_1
   try clear hfz62_0
   try clear hfz62_1
   try clear hfz68_0
   try clear hfz68_1
   try clear hfz69_0
   try clear hfz69_1
   try clear hfz70_0
   try clear hfz70_1
   try clear hfz76_0
   try clear hfz76_1
   try clear hfz80_0
   try clear hfz80_1
   try clear hfz83_0
   try clear hfz83_1
   try clear hfz85_0
   try clear hfz85_1
   try clear hfz9_0
   try clear hfz9_1
   try clear p2
   obtain ⟨kq, x175000_47, x175001_47, x176000_47, x176001_47, u175001, u176001, HA, HJ47, HO_5, HO_163001, HO_164001, HO_175001, HO_176001, BK162, BK163, BK164, BK174, BK175, HB⟩ := hcut
   cases kq with
   | zero => exact absurd HA.out (by simp [parquetref01_Num_Plus.j2])
   | succ kj47 =>
    have H := HA.out
    clear HA
    simp only [parquetref01_Num_Plus.j2] at H
    have H' := Aside0.mk H
    clear H
    go_wp2
    repeat (go_quiet (fail); try go_wp2)
    go_loopg [5, 6, 11] kj47 (fun kq v5 v6 v11 w' => ∃ (x5_2 : List Int) (x6_2 : Int) (x11_2 : Int), v6 = .int .i64 x6_2 ∧ v11 = .int .i64 x11_2 ∧ Aside0 (parquetref01_Num_Plus.l1 kq x5_2 x6_2 x11_2 x175000_47 x175001_47 x176000_47 x176001_47 = some (r1, r2)) ∧ Aside0 (kq ≤ kj47) ∧ Aside0 (Kd.R (Kd.int .i64) 3 w' w.heap.size (fun k_ => (w.heap.size ≤ k_)) v5 x5_2) ∧ Aside0 (Kd.V (Kd.int .i64) 3 w' w.heap.size (fun k_ => ((P0_1_ k_ ∨ P1_1_ k_) ∨ w.heap.size ≤ k_) ∧ some k_ ≠ (v5 : Value).ownBlock ∧ k_ ≠ gb162 ∧ k_ ≠ gb163 ∧ k_ ≠ gb164 ∧ k_ ≠ gb174 ∧ k_ ≠ gb175) (.slice A0_1 l0_1.length c0_1) l0_1) ∧ Aside0 (Kd.V (Kd.int .i64) 3 w' w.heap.size (fun k_ => ((P0_1_ k_ ∨ P1_1_ k_) ∨ w.heap.size ≤ k_) ∧ some k_ ≠ (v5 : Value).ownBlock ∧ k_ ≠ gb162 ∧ k_ ≠ gb163 ∧ k_ ≠ gb164 ∧ k_ ≠ gb174 ∧ k_ ≠ gb175) (.slice A1_1 l1_1.length c1_1) l1_1) ∧ Aside0 (Kd.V (Kd.int .i64) 3 w' w.heap.size (fun k_ => ((P0_1_ k_ ∨ P1_1_ k_) ∨ w.heap.size ≤ k_) ∧ some k_ ≠ (v5 : Value).ownBlock ∧ k_ ≠ gb162 ∧ k_ ≠ gb163 ∧ k_ ≠ gb164 ∧ k_ ≠ gb174 ∧ k_ ≠ gb175) u175001 x175001_47) ∧ Aside0 (Kd.V (Kd.int .i64) 3 w' w.heap.size (fun k_ => ((P0_1_ k_ ∨ P1_1_ k_) ∨ w.heap.size ≤ k_) ∧ some k_ ≠ (v5 : Value).ownBlock ∧ k_ ≠ gb162 ∧ k_ ≠ gb163 ∧ k_ ≠ gb164 ∧ k_ ≠ gb174 ∧ k_ ≠ gb175) u176001 x176001_47) ∧ Aside0 (w'.heap[gb162]? = some (.cells #[.bool a0_0, (.slice A0_1 l0_1.length c0_1)] 73 (0, 0))) ∧ Aside0 (w'.heap[gb163]? = some (.cells #[.bool a1_0, (.slice A1_1 l1_1.length c1_1)] 73 (0, 0))) ∧ Aside0 (w'.heap[gb164]? = some (.cells #[.bool false, (.slice none 0 0)] 73 (0, 0))) ∧ Aside0 (w'.heap[gb174]? = some (.cells #[.bool x175000_47, u175001] 73 (0, 0))) ∧ Aside0 (w'.heap[gb175]? = some (.cells #[.bool x176000_47, u176001] 73 (0, 0))) ∧ Aside0 (Below w.heap.size w w'))
    case atStart => exact ⟨(([] : List Int)), (0), (0), (by first | rfl | (simp; done) | (simp [*]; done)), (by first | rfl | (simp; done) | (simp [*]; done)), H', ⟨Nat.le_refl _⟩, ⟨by (with_reducible repeat (first | apply Kd.R_alloc | apply Kd.R_drewN | apply Kd.R_drew)); exact HO_5.out⟩, ⟨by (with_reducible repeat (first | apply Kd.V_alloc | apply Kd.V_drewN | apply Kd.V_drew)); exact HO_163001.out⟩, ⟨by (with_reducible repeat (first | apply Kd.V_alloc | apply Kd.V_drewN | apply Kd.V_drew)); exact HO_164001.out⟩, ⟨by (with_reducible repeat (first | apply Kd.V_alloc | apply Kd.V_drewN | apply Kd.V_drew)); exact HO_175001.out⟩, ⟨by (with_reducible repeat (first | apply Kd.V_alloc | apply Kd.V_drewN | apply Kd.V_drew)); exact HO_176001.out⟩, ⟨by (with_reducible repeat (first | refine cn ?_ _ | refine cd ?_ | refine ca ?_ _)); exact BK162.out⟩, ⟨by (with_reducible repeat (first | refine cn ?_ _ | refine cd ?_ | refine ca ?_ _)); exact BK163.out⟩, ⟨by (with_reducible repeat (first | refine cn ?_ _ | refine cd ?_ | refine ca ?_ _)); exact BK164.out⟩, ⟨by (with_reducible repeat (first | refine cn ?_ _ | refine cd ?_ | refine ca ?_ _)); exact BK174.out⟩, ⟨by (with_reducible repeat (first | refine cn ?_ _ | refine cd ?_ | refine ca ?_ _)); exact BK175.out⟩, ⟨by repeat (first | (with_reducible first | exact HB.out | apply qa | apply qn | apply qd | refine qs ?_ GE162.out | refine qs ?_ GE163.out | refine qs ?_ GE164.out | refine qs ?_ GE174.out | refine qs ?_ GE175.out) | exact HB.out)⟩⟩
    case round =>
     clear H'
     try clear c1
     try clear c2
     try clear p2
     try clear c3
     try clear c3b0
     try clear c3b1
     try clear c3b2
     try clear c4
     try clear c5
     try clear c6
     try clear p6
     try clear c7
     try clear c8
     try clear c10
     try clear c13
     try clear c13b0
     try clear c14
     try clear c15
     try clear c17
     try clear c17b0
     try clear c18
     try clear c19
     try clear c21
     try clear c23
     try clear c24
     try clear c26
     try clear c28
     try clear c31
     try clear c32
     try clear c33
     try clear c35
     try clear c37
     try clear c39
     try clear c40
     try clear c44
     try clear c52
     try clear c53
     try clear c55
     try clear c58
     try clear c59
     try clear c60
     try clear c64
     try clear p64
     try clear c65
     try clear c66
     try clear c67
     try clear c71
     try clear c71b0
     try clear c72
     try clear c73
     try clear c74
     try clear c75
     try clear c77
     try clear c78
     try clear c79
     try clear c81
     try clear c82
     try clear c84
     try clear hcz11_0
     try clear hcz11_1
     try clear hcz16_0
     try clear hcz16_1
     try clear hcz20_0
     try clear hcz20_1
     try clear hcz22_0
     try clear hcz22_1
     try clear hcz25_0
     try clear hcz25_1
     try clear hcz27_0
     try clear hcz27_1
     try clear hcz34_0
     try clear hcz34_1
     try clear hcz36_0
     try clear hcz36_1
     try clear hcz41_0
     try clear hcz41_1
     try clear hcz45_0
     try clear hcz45_1
     try clear hcz54_0
     try clear hcz54_1
     try clear hcz56_0
     try clear hcz56_1
     try clear hcz61_0
     try clear hcz61_1
     try clear hcz62_0
     try clear hcz62_1
     try clear hcz68_0
     try clear hcz68_1
     try clear hcz69_0
     try clear hcz69_1
     try clear hcz70_0
     try clear hcz70_1
     try clear hcz76_0
     try clear hcz76_1
     try clear hcz80_0
     try clear hcz80_1
     try clear hcz83_0
     try clear hcz83_1
     try clear hcz85_0
     try clear hcz85_1
     try clear hcz9_0
     try clear hcz9_1
     try clear hfz11_0
     try clear hfz11_1
     try clear hfz16_0
     try clear hfz16_1
     try clear hfz20_0
     try clear hfz20_1
     try clear hfz22_0
     try clear hfz22_1
     try clear hfz25_0
     try clear hfz25_1
     try clear hfz27_0
     try clear hfz27_1
     try clear hfz34_0
     try clear hfz34_1
     try clear hfz36_0
     try clear hfz36_1
     try clear hfz41_0
     try clear hfz41_1
     try clear hfz45_0
     try clear hfz45_1
     try clear hfz54_0
     try clear hfz54_1
     try clear hfz56_0
     try clear hfz56_1
     try clear hfz61_0
     try clear hfz61_1
     try clear hfz62_0
     try clear hfz62_1
     try clear hfz68_0
     try clear hfz68_1
     try clear hfz69_0
     try clear hfz69_1
     try clear hfz70_0
     try clear hfz70_1
     try clear hfz76_0
     try clear hfz76_1
     try clear hfz80_0
     try clear hfz80_1
     try clear hfz83_0
     try clear hfz83_1
     try clear hfz85_0
     try clear hfz85_1
     try clear hfz9_0
     try clear hfz9_1
     try clear p2
     try clear p6
     try clear p64
     obtain ⟨x5_2, x6_2, x11_2, rfl, rfl, HA, HK2, HO_5, HO_163001, HO_164001, HO_175001, HO_176001, BK162, BK163, BK164, BK174, BK175, HB⟩ := hrel
     cases gk with
     | zero => exact absurd HA.out (by simp [parquetref01_Num_Plus.l1])
     | succ k2 =>
      have H := HA.out
      clear HA
      simp only [parquetref01_Num_Plus.l1] at H
      by_cases c86 : x11_2 < (x175001_47.length : Int)
      ·rw [if_pos c86] at H
       have c86b0 : decide (x11_2 < (x175001_47.length : Int)) = true := decide_eq_true c86
       clear c86
       by_cases c87 : 0 ≤ x11_2
       ·rw [if_pos c87] at H
        have c87b0 : decide (0 ≤ x11_2) = true := decide_eq_true c87
        clear c87
        replace H := Option.bind_eq_some_iff.mp H
        obtain ⟨t178, A880, H⟩ := H
        replace H : (if (wrap64 ((wrap64 ((rd x175001_47 x11_2) - t178)) - x6_2)) < 0 then (if x5_2.length < 17592186044416 then (parquetref01_Num_Plus.l1 k2 (x5_2 ++ [wrap64 ((wrap64 ((wrap64 ((rd x175001_47 x11_2) - t178)) - x6_2)) + 65536)]) 1 (wrap64 (x11_2 + 1)) x175000_47 x175001_47 x176000_47 x176001_47) else (none)) else (if x5_2.length < 17592186044416 then (parquetref01_Num_Plus.l1 k2 (x5_2 ++ [wrap64 ((wrap64 ((rd x175001_47 x11_2) - t178)) - x6_2)]) 0 (wrap64 (x11_2 + 1)) x175000_47 x175001_47 x176000_47 x176001_47) else (none))) = some (r1, r2) := H
        have A88 := Aside0.mk A880
        clear A880
        by_cases c89 : (wrap64 ((wrap64 ((rd x175001_47 x11_2) - t178)) - x6_2)) < 0
        ·rw [if_pos c89] at H
         have c89b0 : decide ((wrap64 ((wrap64 ((rd x175001_47 x11_2) - t178)) - x6_2)) < 0) = true := decide_eq_true c89
         clear c89
         by_cases c90 : x5_2.length < 17592186044416
         ·rw [if_pos c90] at H
          have LMc90 := Aside0.mk c90
          clear c90
          obtain ⟨y179, hy179⟩ : ∃ y_ : List Int, y_ = (x5_2 ++ [wrap64 ((wrap64 ((wrap64 ((rd x175001_47 x11_2) - t178)) - x6_2)) + 65536)]) := ⟨_, rfl⟩
          replace H : (parquetref01_Num_Plus.l1 k2 y179 1 (wrap64 (x11_2 + 1)) x175000_47 x175001_47 x176000_47 x176001_47) = some (r1, r2) := by first | (rw [hy179]; with_reducible exact H) | (have H2_ := (Option.bind_some _ _).symm.trans H; rw [hy179]; with_reducible exact H2_) | (have H2_ := (Option.bind_some _ _).symm.trans H; with_reducible exact H2_) | with_reducible exact H | (rw [hy179]; exact H) | exact H
          have Ny179 := Aside0.mk hy179
          clear hy179
          have H' := Aside0.mk H
          clear H
          have hnb91 := NB174_162.out
          have hnc91 := NB162_174.out
          have hnb92 := NB174_163.out
          have hnc92 := NB163_174.out
          have hnb93 := NB174_164.out
          have hnc93 := NB164_174.out
          have hnb94 := NB174_175.out
          have hnc94 := NB175_174.out
          obtain ⟨hcz95_0, hcz95_1⟩ := cl2 BK174.out
          obtain ⟨hfz95_0, hfz95_1⟩ := fr2 BK174.out
          obtain ⟨Ao96, co96, eo96⟩ := Kd.V_slice HO_175001.out
          subst eo96
          have p177 : 0 ≤ (x11_2 : Int) := of_decide_eq_true (by first | (with_reducible assumption) | assumption)
          have q177 : x11_2 < (x175001_47.length : Int) := of_decide_eq_true (by first | (with_reducible assumption) | assumption)
          obtain ⟨ad177, e177, hx177_0⟩ := Kd.at_int (Kd.V_reads' HO_175001.out).2.2 x11_2 p177 q177
          cases e177
          replace p177 := eq_true p177
          replace q177 := eq_true q177
          have hnb97 := NB175_162.out
          have hnc97 := NB162_175.out
          have hnb98 := NB175_163.out
          have hnc98 := NB163_175.out
          have hnb99 := NB175_164.out
          have hnc99 := NB164_175.out
          obtain ⟨hcz100_0, hcz100_1⟩ := cl2 BK175.out
          obtain ⟨hfz100_0, hfz100_1⟩ := fr2 BK175.out
          obtain ⟨Ao101, co101, eo101⟩ := Kd.V_slice HO_176001.out
          subst eo101
          go_wp2_with (fail)
          repeat (go_quiet (first | (go_at_call 43; (with_reducible refine (parquetref01_digit.calls _ _ x176001_47 x11_2 t178 _ ?side1 ?side2 A88.out).mono ?_); (case side1 => repeat (first | exact (Kd.V_reads' HO_176001.out).2.2 | (with_reducible refine Kd.C_alloc ?_ _) | (with_reducible refine Kd.C_drewN ?_ _) | (with_reducible refine Kd.C_drew ?_))); (case side2 => exact (Kd.V_reads' HO_176001.out).2.1); rintro e w' ⟨rfl, ⟨nd, rfl⟩⟩; (try first | exact ⟨rfl, _, World.drewN_drewN _ _ _⟩ | exact ⟨rfl, _, Eq.trans (World.drewN_drewN _ _ _) (congrArg (World.drewN _) (Nat.add_assoc _ _ _))⟩))); try go_wp2_with (first | ((with_reducible refine gate_builtin (b := .append) (xs := #[.tmp 91, .tmp 93]) rfl ?_); (try (refine gate_guard (by rfl) ?_; dsimp only)); at_builtin; refine Kd.R_append (Kd.int .i64) (w0 := w) w.heap.size rfl (.tmp 91) (.tmp 93) 71 3 (.int .i64 0) 8 rfl Try.underlying71 info3 rfl (by decide) (by omega) u5 x5_2 (wrap64 ((wrap64 ((wrap64 ((rd x175001_47 x11_2) - t178)) - x6_2)) + 65536)) [.int .i64 (wrap64 ((wrap64 ((wrap64 ((rd x175001_47 x11_2) - t178)) - x6_2)) + 65536))] (fun k_ => (w.heap.size ≤ k_)) (fun _ => False) rfl rfl ?aP (fun _ hk => hk.elim) ?aF ?aO ?aB ?aS ?aL ?_; (case aP => exact rfl); (case aB => exact (by repeat (first | (with_reducible first | exact HB.out | apply qa | apply qn | apply qd | refine qs ?_ GE162.out | refine qs ?_ GE163.out | refine qs ?_ GE164.out | refine qs ?_ GE174.out | refine qs ?_ GE175.out) | exact HB.out))); (case aF => exact (fun k_ hk => (Nat.le_trans (below_size (by repeat (first | (with_reducible first | exact HB.out | apply qa | apply qn | apply qd | refine qs ?_ GE162.out | refine qs ?_ GE163.out | refine qs ?_ GE164.out | refine qs ?_ GE174.out | refine qs ?_ GE175.out) | exact HB.out))) hk))); (case aO => exact (by (with_reducible repeat (first | apply Kd.R_alloc | apply Kd.R_drewN | apply Kd.R_drew)); exact HO_5.out)); (case aS => exact (below_size (by repeat (first | (with_reducible first | exact HB.out | apply qa | apply qn | apply qd | refine qs ?_ GE162.out | refine qs ?_ GE163.out | refine qs ?_ GE164.out | refine qs ?_ GE174.out | refine qs ?_ GE175.out) | exact HB.out)))); (case aL => have := LMc90.out; omega); intro v180 w102 ho hb hg hat; rw [← Ny179.out] at ho; have n0_ := Aside0.mk (Kd.V_afterv (ok := (fun k_ => ((P0_1_ k_ ∨ P1_1_ k_) ∨ w.heap.size ≤ k_) ∧ k_ ≠ gb162 ∧ k_ ≠ gb163 ∧ k_ ≠ gb164 ∧ k_ ≠ gb174 ∧ k_ ≠ gb175)) (by (with_reducible repeat (first | apply Kd.V_alloc | apply Kd.V_drewN | apply Kd.V_drew)); exact Kd.V_mono HO_163001.out (fun _ hk => ⟨⟨hk.1, ⟨hk.2.2.1, ⟨hk.2.2.2.1, ⟨hk.2.2.2.2.1, ⟨hk.2.2.2.2.2.1, hk.2.2.2.2.2.2⟩⟩⟩⟩⟩, hk.2.1⟩)) hg hat); have n1_ := Aside0.mk (Kd.V_afterv (ok := (fun k_ => ((P0_1_ k_ ∨ P1_1_ k_) ∨ w.heap.size ≤ k_) ∧ k_ ≠ gb162 ∧ k_ ≠ gb163 ∧ k_ ≠ gb164 ∧ k_ ≠ gb174 ∧ k_ ≠ gb175)) (by (with_reducible repeat (first | apply Kd.V_alloc | apply Kd.V_drewN | apply Kd.V_drew)); exact Kd.V_mono HO_164001.out (fun _ hk => ⟨⟨hk.1, ⟨hk.2.2.1, ⟨hk.2.2.2.1, ⟨hk.2.2.2.2.1, ⟨hk.2.2.2.2.2.1, hk.2.2.2.2.2.2⟩⟩⟩⟩⟩, hk.2.1⟩)) hg hat); have n2_ := Aside0.mk (Kd.V_afterv (ok := (fun k_ => ((P0_1_ k_ ∨ P1_1_ k_) ∨ w.heap.size ≤ k_) ∧ k_ ≠ gb162 ∧ k_ ≠ gb163 ∧ k_ ≠ gb164 ∧ k_ ≠ gb174 ∧ k_ ≠ gb175)) (by (with_reducible repeat (first | apply Kd.V_alloc | apply Kd.V_drewN | apply Kd.V_drew)); exact Kd.V_mono HO_175001.out (fun _ hk => ⟨⟨hk.1, ⟨hk.2.2.1, ⟨hk.2.2.2.1, ⟨hk.2.2.2.2.1, ⟨hk.2.2.2.2.2.1, hk.2.2.2.2.2.2⟩⟩⟩⟩⟩, hk.2.1⟩)) hg hat); have n3_ := Aside0.mk (Kd.V_afterv (ok := (fun k_ => ((P0_1_ k_ ∨ P1_1_ k_) ∨ w.heap.size ≤ k_) ∧ k_ ≠ gb162 ∧ k_ ≠ gb163 ∧ k_ ≠ gb164 ∧ k_ ≠ gb174 ∧ k_ ≠ gb175)) (by (with_reducible repeat (first | apply Kd.V_alloc | apply Kd.V_drewN | apply Kd.V_drew)); exact Kd.V_mono HO_176001.out (fun _ hk => ⟨⟨hk.1, ⟨hk.2.2.1, ⟨hk.2.2.2.1, ⟨hk.2.2.2.2.1, ⟨hk.2.2.2.2.2.1, hk.2.2.2.2.2.2⟩⟩⟩⟩⟩, hk.2.1⟩)) hg hat); have n4_ := Aside0.mk (blk_grown (g := gb162) (o := .cells #[.bool a0_0, .slice A0_1 l0_1.length c0_1] 73 (0, 0)) (by exact lb BK162.out) hg (Kd.R_ne HO_5.out BK162.out (by decide))); have n5_ := Aside0.mk (blk_grown (g := gb163) (o := .cells #[.bool a1_0, .slice A1_1 l1_1.length c1_1] 73 (0, 0)) (by exact lb BK163.out) hg (Kd.R_ne HO_5.out BK163.out (by decide))); have n6_ := Aside0.mk (blk_grown (g := gb164) (o := .cells #[.bool false, .slice none 0 0] 73 (0, 0)) (by exact lb BK164.out) hg (Kd.R_ne HO_5.out BK164.out (by decide))); have n7_ := Aside0.mk (blk_grown (g := gb174) (o := .cells #[.bool x175000_47, .slice (some ad177) x175001_47.length co96] 73 (0, 0)) (by exact lb BK174.out) hg (Kd.R_ne HO_5.out BK174.out (by decide))); have n8_ := Aside0.mk (blk_grown (g := gb175) (o := .cells #[.bool x176000_47, .slice Ao101 x176001_47.length co101] 73 (0, 0)) (by exact lb BK175.out) hg (Kd.R_ne HO_5.out BK175.out (by decide))); have n9_ := Aside0.mk (hb); have n10_ := Aside0.mk (ho); clear HO_163001; clear HO_164001; clear HO_175001; clear HO_176001; clear BK162; clear BK163; clear BK164; clear BK174; clear BK175; clear HB; clear HO_5; have HO_163001 := n0_; have HO_164001 := n1_; have HO_175001 := n2_; have HO_176001 := n3_; have BK162 := n4_; have BK163 := n5_; have BK164 := n6_; have BK174 := n7_; have BK175 := n8_; have HB := n9_; have HO181 := n10_; clear n0_ n1_ n2_ n3_ n4_ n5_ n6_ n7_ n8_ n9_ n10_; clear ho hb hg hat)))
          go_roundg k2
          case measure => have := HJ47.out; have := HK2.out; omega
          case rel => exact ⟨(y179), (1), (wrap64 (x11_2 + 1)), (by first | rfl | (simp; done) | (simp [*]; done)), (by first | rfl | (simp; done) | (simp [*]; done)), H', ⟨by have := HJ47.out; have := HK2.out; omega⟩, ⟨by (with_reducible repeat (first | apply Kd.R_alloc | apply Kd.R_drewN | apply Kd.R_drew)); exact HO181.out⟩, ⟨by (with_reducible repeat (first | apply Kd.V_alloc | apply Kd.V_drewN | apply Kd.V_drew)); exact Kd.V_mono HO_163001.out (fun _ hk => ⟨hk.1.1, ⟨hk.2, ⟨hk.1.2.1, ⟨hk.1.2.2.1, ⟨hk.1.2.2.2.1, ⟨hk.1.2.2.2.2.1, hk.1.2.2.2.2.2⟩⟩⟩⟩⟩⟩)⟩, ⟨by (with_reducible repeat (first | apply Kd.V_alloc | apply Kd.V_drewN | apply Kd.V_drew)); exact Kd.V_mono HO_164001.out (fun _ hk => ⟨hk.1.1, ⟨hk.2, ⟨hk.1.2.1, ⟨hk.1.2.2.1, ⟨hk.1.2.2.2.1, ⟨hk.1.2.2.2.2.1, hk.1.2.2.2.2.2⟩⟩⟩⟩⟩⟩)⟩, ⟨by (with_reducible repeat (first | apply Kd.V_alloc | apply Kd.V_drewN | apply Kd.V_drew)); exact Kd.V_mono HO_175001.out (fun _ hk => ⟨hk.1.1, ⟨hk.2, ⟨hk.1.2.1, ⟨hk.1.2.2.1, ⟨hk.1.2.2.2.1, ⟨hk.1.2.2.2.2.1, hk.1.2.2.2.2.2⟩⟩⟩⟩⟩⟩)⟩, ⟨by (with_reducible repeat (first | apply Kd.V_alloc | apply Kd.V_drewN | apply Kd.V_drew)); exact Kd.V_mono HO_176001.out (fun _ hk => ⟨hk.1.1, ⟨hk.2, ⟨hk.1.2.1, ⟨hk.1.2.2.1, ⟨hk.1.2.2.2.1, ⟨hk.1.2.2.2.2.1, hk.1.2.2.2.2.2⟩⟩⟩⟩⟩⟩)⟩, ⟨by (with_reducible repeat (first | refine cn ?_ _ | refine cd ?_ | refine ca ?_ _)); exact BK162.out⟩, ⟨by (with_reducible repeat (first | refine cn ?_ _ | refine cd ?_ | refine ca ?_ _)); exact BK163.out⟩, ⟨by (with_reducible repeat (first | refine cn ?_ _ | refine cd ?_ | refine ca ?_ _)); exact BK164.out⟩, ⟨by (with_reducible repeat (first | refine cn ?_ _ | refine cd ?_ | refine ca ?_ _)); exact BK174.out⟩, ⟨by (with_reducible repeat (first | refine cn ?_ _ | refine cd ?_ | refine ca ?_ _)); exact BK175.out⟩, ⟨by repeat (first | (with_reducible first | exact HB.out | apply qa | apply qn | apply qd | refine qs ?_ GE162.out | refine qs ?_ GE163.out | refine qs ?_ GE164.out | refine qs ?_ GE174.out | refine qs ?_ GE175.out) | exact HB.out)⟩⟩
         ·rw [if_neg c90] at H
          exact absurd H (by simp)
        ·rw [if_neg c89] at H
         have c89b0 : decide ((wrap64 ((wrap64 ((rd x175001_47 x11_2) - t178)) - x6_2)) < 0) = false := decide_eq_false c89
         clear c89
         by_cases c103 : x5_2.length < 17592186044416
         ·rw [if_pos c103] at H
          have LMc103 := Aside0.mk c103
          clear c103
          obtain ⟨y182, hy182⟩ : ∃ y_ : List Int, y_ = (x5_2 ++ [wrap64 ((wrap64 ((rd x175001_47 x11_2) - t178)) - x6_2)]) := ⟨_, rfl⟩
          replace H : (parquetref01_Num_Plus.l1 k2 y182 0 (wrap64 (x11_2 + 1)) x175000_47 x175001_47 x176000_47 x176001_47) = some (r1, r2) := by first | (rw [hy182]; with_reducible exact H) | (have H2_ := (Option.bind_some _ _).symm.trans H; rw [hy182]; with_reducible exact H2_) | (have H2_ := (Option.bind_some _ _).symm.trans H; with_reducible exact H2_) | with_reducible exact H | (rw [hy182]; exact H) | exact H
          have Ny182 := Aside0.mk hy182
          clear hy182
          have H' := Aside0.mk H
          clear H
          have hnb104 := NB174_162.out
          have hnc104 := NB162_174.out
          have hnb105 := NB174_163.out
          have hnc105 := NB163_174.out
          have hnb106 := NB174_164.out
          have hnc106 := NB164_174.out
          have hnb107 := NB174_175.out
          have hnc107 := NB175_174.out
          obtain ⟨hcz108_0, hcz108_1⟩ := cl2 BK174.out
          obtain ⟨hfz108_0, hfz108_1⟩ := fr2 BK174.out
          obtain ⟨Ao109, co109, eo109⟩ := Kd.V_slice HO_175001.out
          subst eo109
          have p177 : 0 ≤ (x11_2 : Int) := of_decide_eq_true (by first | (with_reducible assumption) | assumption)
          have q177 : x11_2 < (x175001_47.length : Int) := of_decide_eq_true (by first | (with_reducible assumption) | assumption)
          obtain ⟨ad177, e177, hx177_0⟩ := Kd.at_int (Kd.V_reads' HO_175001.out).2.2 x11_2 p177 q177
          cases e177
          replace p177 := eq_true p177
          replace q177 := eq_true q177
          have hnb110 := NB175_162.out
          have hnc110 := NB162_175.out
          have hnb111 := NB175_163.out
          have hnc111 := NB163_175.out
          have hnb112 := NB175_164.out
          have hnc112 := NB164_175.out
          obtain ⟨hcz113_0, hcz113_1⟩ := cl2 BK175.out
          obtain ⟨hfz113_0, hfz113_1⟩ := fr2 BK175.out
          obtain ⟨Ao114, co114, eo114⟩ := Kd.V_slice HO_176001.out
          subst eo114
          go_wp2_with (fail)
          repeat (go_quiet (first | (go_at_call 43; (with_reducible refine (parquetref01_digit.calls _ _ x176001_47 x11_2 t178 _ ?side1 ?side2 A88.out).mono ?_); (case side1 => repeat (first | exact (Kd.V_reads' HO_176001.out).2.2 | (with_reducible refine Kd.C_alloc ?_ _) | (with_reducible refine Kd.C_drewN ?_ _) | (with_reducible refine Kd.C_drew ?_))); (case side2 => exact (Kd.V_reads' HO_176001.out).2.1); rintro e w' ⟨rfl, ⟨nd, rfl⟩⟩; (try first | exact ⟨rfl, _, World.drewN_drewN _ _ _⟩ | exact ⟨rfl, _, Eq.trans (World.drewN_drewN _ _ _) (congrArg (World.drewN _) (Nat.add_assoc _ _ _))⟩))); try go_wp2_with (first | ((with_reducible refine gate_builtin (b := .append) (xs := #[.tmp 91, .tmp 93]) rfl ?_); (try (refine gate_guard (by rfl) ?_; dsimp only)); at_builtin; refine Kd.R_append (Kd.int .i64) (w0 := w) w.heap.size rfl (.tmp 91) (.tmp 93) 71 3 (.int .i64 0) 8 rfl Try.underlying71 info3 rfl (by decide) (by omega) u5 x5_2 (wrap64 ((wrap64 ((rd x175001_47 x11_2) - t178)) - x6_2)) [.int .i64 (wrap64 ((wrap64 ((rd x175001_47 x11_2) - t178)) - x6_2))] (fun k_ => (w.heap.size ≤ k_)) (fun _ => False) rfl rfl ?aP (fun _ hk => hk.elim) ?aF ?aO ?aB ?aS ?aL ?_; (case aP => exact rfl); (case aB => exact (by repeat (first | (with_reducible first | exact HB.out | apply qa | apply qn | apply qd | refine qs ?_ GE162.out | refine qs ?_ GE163.out | refine qs ?_ GE164.out | refine qs ?_ GE174.out | refine qs ?_ GE175.out) | exact HB.out))); (case aF => exact (fun k_ hk => (Nat.le_trans (below_size (by repeat (first | (with_reducible first | exact HB.out | apply qa | apply qn | apply qd | refine qs ?_ GE162.out | refine qs ?_ GE163.out | refine qs ?_ GE164.out | refine qs ?_ GE174.out | refine qs ?_ GE175.out) | exact HB.out))) hk))); (case aO => exact (by (with_reducible repeat (first | apply Kd.R_alloc | apply Kd.R_drewN | apply Kd.R_drew)); exact HO_5.out)); (case aS => exact (below_size (by repeat (first | (with_reducible first | exact HB.out | apply qa | apply qn | apply qd | refine qs ?_ GE162.out | refine qs ?_ GE163.out | refine qs ?_ GE164.out | refine qs ?_ GE174.out | refine qs ?_ GE175.out) | exact HB.out)))); (case aL => have := LMc103.out; omega); intro v183 w115 ho hb hg hat; rw [← Ny182.out] at ho; have n0_ := Aside0.mk (Kd.V_afterv (ok := (fun k_ => ((P0_1_ k_ ∨ P1_1_ k_) ∨ w.heap.size ≤ k_) ∧ k_ ≠ gb162 ∧ k_ ≠ gb163 ∧ k_ ≠ gb164 ∧ k_ ≠ gb174 ∧ k_ ≠ gb175)) (by (with_reducible repeat (first | apply Kd.V_alloc | apply Kd.V_drewN | apply Kd.V_drew)); exact Kd.V_mono HO_163001.out (fun _ hk => ⟨⟨hk.1, ⟨hk.2.2.1, ⟨hk.2.2.2.1, ⟨hk.2.2.2.2.1, ⟨hk.2.2.2.2.2.1, hk.2.2.2.2.2.2⟩⟩⟩⟩⟩, hk.2.1⟩)) hg hat); have n1_ := Aside0.mk (Kd.V_afterv (ok := (fun k_ => ((P0_1_ k_ ∨ P1_1_ k_) ∨ w.heap.size ≤ k_) ∧ k_ ≠ gb162 ∧ k_ ≠ gb163 ∧ k_ ≠ gb164 ∧ k_ ≠ gb174 ∧ k_ ≠ gb175)) (by (with_reducible repeat (first | apply Kd.V_alloc | apply Kd.V_drewN | apply Kd.V_drew)); exact Kd.V_mono HO_164001.out (fun _ hk => ⟨⟨hk.1, ⟨hk.2.2.1, ⟨hk.2.2.2.1, ⟨hk.2.2.2.2.1, ⟨hk.2.2.2.2.2.1, hk.2.2.2.2.2.2⟩⟩⟩⟩⟩, hk.2.1⟩)) hg hat); have n2_ := Aside0.mk (Kd.V_afterv (ok := (fun k_ => ((P0_1_ k_ ∨ P1_1_ k_) ∨ w.heap.size ≤ k_) ∧ k_ ≠ gb162 ∧ k_ ≠ gb163 ∧ k_ ≠ gb164 ∧ k_ ≠ gb174 ∧ k_ ≠ gb175)) (by (with_reducible repeat (first | apply Kd.V_alloc | apply Kd.V_drewN | apply Kd.V_drew)); exact Kd.V_mono HO_175001.out (fun _ hk => ⟨⟨hk.1, ⟨hk.2.2.1, ⟨hk.2.2.2.1, ⟨hk.2.2.2.2.1, ⟨hk.2.2.2.2.2.1, hk.2.2.2.2.2.2⟩⟩⟩⟩⟩, hk.2.1⟩)) hg hat); have n3_ := Aside0.mk (Kd.V_afterv (ok := (fun k_ => ((P0_1_ k_ ∨ P1_1_ k_) ∨ w.heap.size ≤ k_) ∧ k_ ≠ gb162 ∧ k_ ≠ gb163 ∧ k_ ≠ gb164 ∧ k_ ≠ gb174 ∧ k_ ≠ gb175)) (by (with_reducible repeat (first | apply Kd.V_alloc | apply Kd.V_drewN | apply Kd.V_drew)); exact Kd.V_mono HO_176001.out (fun _ hk => ⟨⟨hk.1, ⟨hk.2.2.1, ⟨hk.2.2.2.1, ⟨hk.2.2.2.2.1, ⟨hk.2.2.2.2.2.1, hk.2.2.2.2.2.2⟩⟩⟩⟩⟩, hk.2.1⟩)) hg hat); have n4_ := Aside0.mk (blk_grown (g := gb162) (o := .cells #[.bool a0_0, .slice A0_1 l0_1.length c0_1] 73 (0, 0)) (by exact lb BK162.out) hg (Kd.R_ne HO_5.out BK162.out (by decide))); have n5_ := Aside0.mk (blk_grown (g := gb163) (o := .cells #[.bool a1_0, .slice A1_1 l1_1.length c1_1] 73 (0, 0)) (by exact lb BK163.out) hg (Kd.R_ne HO_5.out BK163.out (by decide))); have n6_ := Aside0.mk (blk_grown (g := gb164) (o := .cells #[.bool false, .slice none 0 0] 73 (0, 0)) (by exact lb BK164.out) hg (Kd.R_ne HO_5.out BK164.out (by decide))); have n7_ := Aside0.mk (blk_grown (g := gb174) (o := .cells #[.bool x175000_47, .slice (some ad177) x175001_47.length co109] 73 (0, 0)) (by exact lb BK174.out) hg (Kd.R_ne HO_5.out BK174.out (by decide))); have n8_ := Aside0.mk (blk_grown (g := gb175) (o := .cells #[.bool x176000_47, .slice Ao114 x176001_47.length co114] 73 (0, 0)) (by exact lb BK175.out) hg (Kd.R_ne HO_5.out BK175.out (by decide))); have n9_ := Aside0.mk (hb); have n10_ := Aside0.mk (ho); clear HO_163001; clear HO_164001; clear HO_175001; clear HO_176001; clear BK162; clear BK163; clear BK164; clear BK174; clear BK175; clear HB; clear HO_5; have HO_163001 := n0_; have HO_164001 := n1_; have HO_175001 := n2_; have HO_176001 := n3_; have BK162 := n4_; have BK163 := n5_; have BK164 := n6_; have BK174 := n7_; have BK175 := n8_; have HB := n9_; have HO184 := n10_; clear n0_ n1_ n2_ n3_ n4_ n5_ n6_ n7_ n8_ n9_ n10_; clear ho hb hg hat)))
          go_roundg k2
          case measure => have := HJ47.out; have := HK2.out; omega
          case rel => exact ⟨(y182), (0), (wrap64 (x11_2 + 1)), (by first | rfl | (simp; done) | (simp [*]; done)), (by first | rfl | (simp; done) | (simp [*]; done)), H', ⟨by have := HJ47.out; have := HK2.out; omega⟩, ⟨by (with_reducible repeat (first | apply Kd.R_alloc | apply Kd.R_drewN | apply Kd.R_drew)); exact HO184.out⟩, ⟨by (with_reducible repeat (first | apply Kd.V_alloc | apply Kd.V_drewN | apply Kd.V_drew)); exact Kd.V_mono HO_163001.out (fun _ hk => ⟨hk.1.1, ⟨hk.2, ⟨hk.1.2.1, ⟨hk.1.2.2.1, ⟨hk.1.2.2.2.1, ⟨hk.1.2.2.2.2.1, hk.1.2.2.2.2.2⟩⟩⟩⟩⟩⟩)⟩, ⟨by (with_reducible repeat (first | apply Kd.V_alloc | apply Kd.V_drewN | apply Kd.V_drew)); exact Kd.V_mono HO_164001.out (fun _ hk => ⟨hk.1.1, ⟨hk.2, ⟨hk.1.2.1, ⟨hk.1.2.2.1, ⟨hk.1.2.2.2.1, ⟨hk.1.2.2.2.2.1, hk.1.2.2.2.2.2⟩⟩⟩⟩⟩⟩)⟩, ⟨by (with_reducible repeat (first | apply Kd.V_alloc | apply Kd.V_drewN | apply Kd.V_drew)); exact Kd.V_mono HO_175001.out (fun _ hk => ⟨hk.1.1, ⟨hk.2, ⟨hk.1.2.1, ⟨hk.1.2.2.1, ⟨hk.1.2.2.2.1, ⟨hk.1.2.2.2.2.1, hk.1.2.2.2.2.2⟩⟩⟩⟩⟩⟩)⟩, ⟨by (with_reducible repeat (first | apply Kd.V_alloc | apply Kd.V_drewN | apply Kd.V_drew)); exact Kd.V_mono HO_176001.out (fun _ hk => ⟨hk.1.1, ⟨hk.2, ⟨hk.1.2.1, ⟨hk.1.2.2.1, ⟨hk.1.2.2.2.1, ⟨hk.1.2.2.2.2.1, hk.1.2.2.2.2.2⟩⟩⟩⟩⟩⟩)⟩, ⟨by (with_reducible repeat (first | refine cn ?_ _ | refine cd ?_ | refine ca ?_ _)); exact BK162.out⟩, ⟨by (with_reducible repeat (first | refine cn ?_ _ | refine cd ?_ | refine ca ?_ _)); exact BK163.out⟩, ⟨by (with_reducible repeat (first | refine cn ?_ _ | refine cd ?_ | refine ca ?_ _)); exact BK164.out⟩, ⟨by (with_reducible repeat (first | refine cn ?_ _ | refine cd ?_ | refine ca ?_ _)); exact BK174.out⟩, ⟨by (with_reducible repeat (first | refine cn ?_ _ | refine cd ?_ | refine ca ?_ _)); exact BK175.out⟩, ⟨by repeat (first | (with_reducible first | exact HB.out | apply qa | apply qn | apply qd | refine qs ?_ GE162.out | refine qs ?_ GE163.out | refine qs ?_ GE164.out | refine qs ?_ GE174.out | refine qs ?_ GE175.out) | exact HB.out)⟩⟩
         ·rw [if_neg c103] at H
          exact absurd H (by simp)
       ·rw [if_neg c87] at H
        exact absurd H (by simp)
      ·rw [if_neg c86] at H
       have c86b0 : decide (x11_2 < (x175001_47.length : Int)) = false := decide_eq_false c86
       clear c86
       replace H := Option.bind_eq_some_iff.mp H
       obtain ⟨⟨t185, t186⟩, A1160, H⟩ := H
       replace H : (some (t185, t186)) = some (r1, r2) := H
       have A116 := Aside0.mk A1160
       clear A1160
       simp only [Option.some.injEq, Prod.mk.injEq] at H
       obtain ⟨rfl, rfl⟩ := H
       have hnb117 := NB174_162.out
       have hnc117 := NB162_174.out
       have hnb118 := NB174_163.out
       have hnc118 := NB163_174.out
       have hnb119 := NB174_164.out
       have hnc119 := NB164_174.out
       have hnb120 := NB174_175.out
       have hnc120 := NB175_174.out
       obtain ⟨hcz121_0, hcz121_1⟩ := cl2 BK174.out
       obtain ⟨hfz121_0, hfz121_1⟩ := fr2 BK174.out
       obtain ⟨Ao122, co122, eo122⟩ := Kd.V_slice HO_175001.out
       subst eo122
       obtain ⟨Ao123, co123, eo123⟩ := Kd.R_slice HO_5.out
       subst eo123
       go_wp2_with (first | (go_at_call 39; (with_reducible refine (parquetref01_trim.calls k2 x175000_47 (fun k_ => some k_ = (.slice Ao123 x5_2.length co123 : Value).ownBlock) _ _ x5_2 t185 t186 _ ?side1 A116.out).mono ?_); (case side1 => exact Kd.R_V (Kd.R_tight rfl (Kd.R_types (Kd.R_types (Kd.R_types (Kd.R_types (Kd.R_types (HO_5.out) BK162.out (by decide)) BK163.out (by decide)) BK164.out (by decide)) BK174.out (by decide)) BK175.out (by decide)))); rintro e w124 ⟨v187, rfl, ho0, hb⟩; have n0_ := Aside0.mk (Kd.R_below (by (with_reducible repeat (first | apply Kd.R_alloc | apply Kd.R_drewN | apply Kd.R_drew)); exact HO_5.out) hb); have n1_ := Aside0.mk (Kd.V_below (by (with_reducible repeat (first | apply Kd.V_alloc | apply Kd.V_drewN | apply Kd.V_drew)); exact HO_163001.out) hb); have n2_ := Aside0.mk (Kd.V_below (by (with_reducible repeat (first | apply Kd.V_alloc | apply Kd.V_drewN | apply Kd.V_drew)); exact HO_164001.out) hb); have n3_ := Aside0.mk (Kd.V_below (by (with_reducible repeat (first | apply Kd.V_alloc | apply Kd.V_drewN | apply Kd.V_drew)); exact HO_175001.out) hb); have n4_ := Aside0.mk (Kd.V_below (by (with_reducible repeat (first | apply Kd.V_alloc | apply Kd.V_drewN | apply Kd.V_drew)); exact HO_176001.out) hb); have n5_ := Aside0.mk (Kd.V_lower (Kd.V_mono (ok' := fun k_ => ((P0_1_ k_ ∨ P1_1_ k_) ∨ w.heap.size ≤ k_) ∧ k_ ≠ gb162 ∧ k_ ≠ gb163 ∧ k_ ≠ gb164 ∧ k_ ≠ gb174 ∧ k_ ≠ gb175) ho0 (fun k_ hk_ => ⟨Or.elim hk_ (fun hs_ => (.inr (((Kd.R_types (Kd.R_types (Kd.R_types (Kd.R_types (Kd.R_types (HO_5.out) BK162.out (by decide)) BK163.out (by decide)) BK164.out (by decide)) BK174.out (by decide)) BK175.out (by decide)).1 k_ hs_.symm).1.1.1.1.1))) (fun hn_ => (.inr (Nat.le_trans (below_size (by repeat (first | (with_reducible first | exact HB.out | apply qa | apply qn | apply qd | refine qs ?_ GE162.out | refine qs ?_ GE163.out | refine qs ?_ GE164.out | refine qs ?_ GE174.out | refine qs ?_ GE175.out) | exact HB.out))) hn_))), Or.elim hk_ (fun hs_ => ((Kd.R_types (Kd.R_types (Kd.R_types (Kd.R_types (Kd.R_types (HO_5.out) BK162.out (by decide)) BK163.out (by decide)) BK164.out (by decide)) BK174.out (by decide)) BK175.out (by decide)).1 k_ hs_.symm).1.1.1.1.2) (fun hn_ => (Kd.freshB (g := gb162) (o := .cells #[.bool a0_0, .slice A0_1 l0_1.length c0_1] 73 (0, 0)) (by exact lb BK162.out) k_ hn_)), Or.elim hk_ (fun hs_ => ((Kd.R_types (Kd.R_types (Kd.R_types (Kd.R_types (Kd.R_types (HO_5.out) BK162.out (by decide)) BK163.out (by decide)) BK164.out (by decide)) BK174.out (by decide)) BK175.out (by decide)).1 k_ hs_.symm).1.1.1.2) (fun hn_ => (Kd.freshB (g := gb163) (o := .cells #[.bool a1_0, .slice A1_1 l1_1.length c1_1] 73 (0, 0)) (by exact lb BK163.out) k_ hn_)), Or.elim hk_ (fun hs_ => ((Kd.R_types (Kd.R_types (Kd.R_types (Kd.R_types (Kd.R_types (HO_5.out) BK162.out (by decide)) BK163.out (by decide)) BK164.out (by decide)) BK174.out (by decide)) BK175.out (by decide)).1 k_ hs_.symm).1.1.2) (fun hn_ => (Kd.freshB (g := gb164) (o := .cells #[.bool false, .slice none 0 0] 73 (0, 0)) (by exact lb BK164.out) k_ hn_)), Or.elim hk_ (fun hs_ => ((Kd.R_types (Kd.R_types (Kd.R_types (Kd.R_types (Kd.R_types (HO_5.out) BK162.out (by decide)) BK163.out (by decide)) BK164.out (by decide)) BK174.out (by decide)) BK175.out (by decide)).1 k_ hs_.symm).1.2) (fun hn_ => (Kd.freshB (g := gb174) (o := .cells #[.bool x175000_47, .slice Ao122 x175001_47.length co122] 73 (0, 0)) (by exact lb BK174.out) k_ hn_)), Or.elim hk_ (fun hs_ => ((Kd.R_types (Kd.R_types (Kd.R_types (Kd.R_types (Kd.R_types (HO_5.out) BK162.out (by decide)) BK163.out (by decide)) BK164.out (by decide)) BK174.out (by decide)) BK175.out (by decide)).1 k_ hs_.symm).2) (fun hn_ => (Kd.freshB (g := gb175) (o := .cells #[.bool x176000_47, u176001] 73 (0, 0)) (by exact lb BK175.out) k_ hn_))⟩)) (below_size (by repeat (first | (with_reducible first | exact HB.out | apply qa | apply qn | apply qd | refine qs ?_ GE162.out | refine qs ?_ GE163.out | refine qs ?_ GE164.out | refine qs ?_ GE174.out | refine qs ?_ GE175.out) | exact HB.out)))); have n6_ := bb BK162 hb; have n7_ := bb BK163 hb; have n8_ := bb BK164 hb; have n9_ := bb BK174 hb; have n10_ := bb BK175 hb; have n11_ := Aside0.mk (below_step (by repeat (first | (with_reducible first | exact HB.out | apply qa | apply qn | apply qd | refine qs ?_ GE162.out | refine qs ?_ GE163.out | refine qs ?_ GE164.out | refine qs ?_ GE174.out | refine qs ?_ GE175.out) | exact HB.out)) hb); clear HO_5; clear HO_163001; clear HO_164001; clear HO_175001; clear HO_176001; clear BK162; clear BK163; clear BK164; clear BK174; clear BK175; clear HB; have HO_5 := n0_; have HO_163001 := n1_; have HO_164001 := n2_; have HO_175001 := n3_; have HO_176001 := n4_; have HO188 := n5_; have BK162 := n6_; have BK163 := n7_; have BK164 := n8_; have BK174 := n9_; have BK175 := n10_; have HB := n11_; clear n0_ n1_ n2_ n3_ n4_ n5_ n6_ n7_ n8_ n9_ n10_ n11_; (try clear hb); (try clear hb2); (try clear hk); (try clear hi); (try clear ho0); have hnb125 := NB164_162.out; have hnc125 := NB162_164.out; have hnb126 := NB164_163.out; have hnc126 := NB163_164.out; have hnb127 := NB164_175.out; have hnc127 := NB175_164.out; obtain ⟨hcz128_0, hcz128_1⟩ := cl2 BK164.out; obtain ⟨hfz128_0, hfz128_1⟩ := fr2 BK164.out; obtain ⟨Ao129, co129, eo129⟩ := Kd.V_slice HO188.out; subst eo129))
       repeat (go_quiet (fail); try go_wp2_with (fail))
       refine bodyPost_ret (results_cell_row rfl _ _ gb164 73 #[.bool t185, .slice Ao129 t186.length co129] (0, 0) _ rfl (by (with_reducible repeat (first | refine cn ?_ _ | refine cd ?_ | refine ca ?_ _)); refine blk_put (cs := #[.bool t185, .slice none 0 0]) ?_ 1 _ rfl; (with_reducible repeat (first | refine cn ?_ _ | refine cd ?_ | refine ca ?_ _)); refine blk_put (cs := #[.bool false, .slice none 0 0]) ?_ 0 _ rfl; (with_reducible repeat (first | refine cn ?_ _ | refine cd ?_ | refine ca ?_ _)); exact BK164.out) Try.underlying73 rfl (by kernel_rfl)) rfl ?_
       exact ⟨_, by first | rfl | (simp [errW_none, errW_some] <;> rfl) | (simp [*, errW_none, errW_some] <;> rfl), by (with_reducible repeat (first | apply Kd.V_alloc | apply Kd.V_drewN | apply Kd.V_drew)); exact Kd.V_mono (Kd.V_far (p := ⟨gb164, 1, none⟩) (Kd.V_far (p := ⟨gb164, 0, none⟩) (Kd.V_mono HO188.out (fun k_ hk => (⟨hk, hk.2.2.2.1⟩ : _ ∧ k_ ≠ gb164))) (fun _ hk => hk.2) (.bool t185)) (fun _ hk => hk.2) (.slice Ao129 t186.length co129)) (fun _ hk => hk.1.1), by repeat (first | (with_reducible first | exact HB.out | apply qa | apply qn | apply qd | refine qs ?_ GE162.out | refine qs ?_ GE163.out | refine qs ?_ GE164.out | refine qs ?_ GE174.out | refine qs ?_ GE175.out) | exact HB.out)⟩

end Go.Proofs.Ytbiafpklgkkoaaa.MT

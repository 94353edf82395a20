/- A function of the given program told as a Lean function, its contract proved; no condition. -/
import Derived.Test.YtmpbbodafenonaaDivNo
import Derived.Test.YtmpbbodafenonaaMT0
import Derived.Test.YtmpbbodafenonaaV2
import Derived.Test.YtmpbbodafenonaaMT5
import Derived.Test.YtmpbbodafenonaaMT9
import Derived.Test.YtmpbbodafenonaaMT11
import Derived.Test.YtmpbbodafenonaaMT12
import Derived.Test.YtmpbbodafenonaaMT13
import Derived.Test.YtmpbbodafenonaaMT14
import Derived.Test.YtmpbbodafenonaaMT16
import Derived.Test.YtmpbbodafenonaaMT17
import Derived.Test.YtmpbbodafenonaaMT26
namespace Go.Proofs.Ytmpbbodafenonaa.MT
open Go.RowKit Go.Proofs.YtmpbbodafenonaaW.PrintWords Go.Proofs.YtmpbbodafenonaaW.PrintLast Go.Proofs.YtmpbbodafenonaaW.PrintMore
attribute [local go_sem] max2_int min2_int max_two min_two max_three min_three max_four min_four   -- for this text's walks alone
set_option linter.unusedVariables false
set_option linter.unusedSimpArgs false
attribute [local go_sem high] eqA27
/-! ### parquetlaw01_WideDivs: function 4 -/
def parquetlaw01_WideDivs.j0 : Nat → Int → Bool → Int → Int → Int → Int → Bool → List Int → Bool → List Int → Bool → List Int → Bool → List Int → Option (Bool)
 | 0, _, _, _, _, _, _, _, _, _, _, _, _, _, _ => none
 | k + 1, x7, x724000, x724001, x724002, x724003, x724004, x730000, x730001, x735000, x735001, x755000, x755001, x756000, x756001 => (parquetref01_Of.f k x724000 x724001 x724002 x724003 x724004).bind fun bt761 => ((parquetref01_Num_Times.f k bt761.1 bt761.2 x735000 x735001).bind fun bt765 => ((parquetref01_Num_Plus.f k bt765.1 bt765.2 x755000 x755001).bind fun bt769 => (if x7 = 0 then ((parquetref01_Num_Cmp.f k bt769.1 bt769.2 x730000 x730001).bind fun t774 => (if t774 = 0 then ((parquetref01_Num_Sign.f x755000 x755001).bind fun t775 => (if t775 ≥ 0 then ((parquetref01_Num_Cmp.f k x755000 x755001 x756000 x756001).bind fun t776 => (if t776 < 0 then ((parquetlaw01_known.f).bind fun t777 => (some t777)) else (some false))) else (some false))) else (some false))) else (some false))))
def parquetlaw01_WideDivs.f (k : Nat) (a0_0 : Bool) (a0_1 : Int) (a0_2 : Int) (a0_3 : Int) (a0_4 : Int) (a1_0 : Bool) (a1_1 : Int) (a1_2 : Int) (a1_3 : Int) (a1_4 : Int) : Option (Bool) := (wide_DivMod.f k a0_0 a0_1 a0_2 a0_3 a0_4 a1_0 a1_1 a1_2 a1_3 a1_4).bind fun bt712 => ((parquetref01_Of.f k a0_0 a0_1 a0_2 a0_3 a0_4).bind fun bt725 => ((parquetref01_Of.f k a1_0 a1_1 a1_2 a1_3 a1_4).bind fun bt730 => ((parquetref01_Num_Sign.f bt730.1 bt730.2).bind fun t735 => (if t735 = 0 then (if (!bt712.1 && ((bt712.2.1 == 0 && (bt712.2.2.1 == 0 && (bt712.2.2.2.1 == 0 && (bt712.2.2.2.2.1 == 0)))))) = true then (if (!bt712.2.2.2.2.2.1 && ((bt712.2.2.2.2.2.2.1 == 0 && (bt712.2.2.2.2.2.2.2.1 == 0 && (bt712.2.2.2.2.2.2.2.2.1 == 0 && (bt712.2.2.2.2.2.2.2.2.2.1 == 0)))))) = true then (if bt712.2.2.2.2.2.2.2.2.2.2 = 2 then ((parquetlaw01_known.f).bind fun t736 => (some t736)) else (some false)) else (some false)) else (some false)) else (if bt712.2.2.2.2.2.2.2.2.2.2 = 10 then ((parquetref01_Small.f k 1).bind fun bt737 => (if (!bt712.1 && ((bt712.2.1 == 0 && (bt712.2.2.1 == 0 && (bt712.2.2.2.1 == 0 && (bt712.2.2.2.2.1 == 0)))))) = true then (if (!bt712.2.2.2.2.2.1 && ((bt712.2.2.2.2.2.2.1 == 0 && (bt712.2.2.2.2.2.2.2.1 == 0 && (bt712.2.2.2.2.2.2.2.2.1 == 0 && (bt712.2.2.2.2.2.2.2.2.2.1 == 0)))))) = true then ((parquetref01_Num_Cmp.f k bt730.1 bt730.2 bt737.1 bt737.2).bind fun t742 => (if t742 = 0 then ((parquetlaw01_known.f).bind fun t743 => (some t743)) else ((parquetref01_Num_Neg.f bt737.1 bt737.2).bind fun bt744 => ((parquetref01_Num_Cmp.f k bt730.1 bt730.2 bt744.1 bt744.2).bind fun t748 => (if t748 = 0 then ((parquetlaw01_known.f).bind fun t749 => (some t749)) else (some false)))))) else (some false)) else (some false))) else ((parquetref01_Of.f k bt712.2.2.2.2.2.1 bt712.2.2.2.2.2.2.1 bt712.2.2.2.2.2.2.2.1 bt712.2.2.2.2.2.2.2.2.1 bt712.2.2.2.2.2.2.2.2.2.1).bind fun bt750 => ((parquetref01_Num_Sign.f bt730.1 bt730.2).bind fun t756 => (if t756 < 0 then ((parquetref01_Num_Neg.f bt730.1 bt730.2).bind fun bt757 => (parquetlaw01_WideDivs.j0 k bt712.2.2.2.2.2.2.2.2.2.2 bt712.1 bt712.2.1 bt712.2.2.1 bt712.2.2.2.1 bt712.2.2.2.2.1 bt725.1 bt725.2 bt730.1 bt730.2 bt750.1 bt750.2 bt757.1 bt757.2)) else (parquetlaw01_WideDivs.j0 k bt712.2.2.2.2.2.2.2.2.2.2 bt712.1 bt712.2.1 bt712.2.2.1 bt712.2.2.2.1 bt712.2.2.2.2.1 bt725.1 bt725.2 bt730.1 bt730.2 bt750.1 bt750.2 bt730.1 bt730.2)))))))))
theorem parquetlaw01_WideDivs.mono_l : ∀ k, (∀ y0 y1 y2 y3 y4 y5 y6 y7 y8 y9 y10 y11 y12 y13, LeO (parquetlaw01_WideDivs.j0 k y0 y1 y2 y3 y4 y5 y6 y7 y8 y9 y10 y11 y12 y13) (parquetlaw01_WideDivs.j0 (k + 1) y0 y1 y2 y3 y4 y5 y6 y7 y8 y9 y10 y11 y12 y13))
 | 0 => fun _ _ _ _ _ _ _ _ _ _ _ _ _ _ r h => by simp [parquetlaw01_WideDivs.j0] at h
 | k + 1 => by
  have ih0 := parquetlaw01_WideDivs.mono_l k
  ·intro y0 y1 y2 y3 y4 y5 y6 y7 y8 y9 y10 y11 y12 y13
   unfold parquetlaw01_WideDivs.j0
   repeat' first
   | (with_reducible exact ih0 _ _ _ _ _ _ _ _ _ _ _ _ _ _)
   | (with_reducible exact parquetref01_Num_Cmp.mono _ _ _ _ _)
   | (with_reducible exact parquetref01_Num_Plus.mono _ _ _ _ _)
   | (with_reducible exact parquetref01_Num_Times.mono _ _ _ _ _)
   | (with_reducible exact parquetref01_Of.mono _ _ _ _ _ _)
   | (with_reducible exact parquetref01_Small.mono _ _)
   | (with_reducible exact wide_DivMod.mono _ _ _ _ _ _ _ _ _ _ _)
   | (with_reducible exact LeO.refl _)
   | (with_reducible exact LeO.none _)
   | (with_reducible refine LeO.ite ?_ ?_)
   | (with_reducible refine LeO.bind ?_ (fun _ => ?_))
   | exact ih0 _ _ _ _ _ _ _ _ _ _ _ _ _ _
   | exact parquetref01_Num_Cmp.mono _ _ _ _ _
   | exact parquetref01_Num_Plus.mono _ _ _ _ _
   | exact parquetref01_Num_Times.mono _ _ _ _ _
   | exact parquetref01_Of.mono _ _ _ _ _ _
   | exact parquetref01_Small.mono _ _
   | exact wide_DivMod.mono _ _ _ _ _ _ _ _ _ _ _
   | exact LeO.none _
   | refine LeO.ite ?_ ?_
   | refine LeO.bind ?_ (fun _ => ?_)
theorem parquetlaw01_WideDivs.mono : ∀ a0 a1 a2 a3 a4 a5 a6 a7 a8 a9 k, LeO (parquetlaw01_WideDivs.f k a0 a1 a2 a3 a4 a5 a6 a7 a8 a9) (parquetlaw01_WideDivs.f (k + 1) a0 a1 a2 a3 a4 a5 a6 a7 a8 a9) := by
 intro a0 a1 a2 a3 a4 a5 a6 a7 a8 a9 k
 have ih0 := parquetlaw01_WideDivs.mono_l k
 unfold parquetlaw01_WideDivs.f
 repeat' first
   | (with_reducible exact ih0 _ _ _ _ _ _ _ _ _ _ _ _ _ _)
   | (with_reducible exact parquetref01_Num_Cmp.mono _ _ _ _ _)
   | (with_reducible exact parquetref01_Num_Plus.mono _ _ _ _ _)
   | (with_reducible exact parquetref01_Num_Times.mono _ _ _ _ _)
   | (with_reducible exact parquetref01_Of.mono _ _ _ _ _ _)
   | (with_reducible exact parquetref01_Small.mono _ _)
   | (with_reducible exact wide_DivMod.mono _ _ _ _ _ _ _ _ _ _ _)
   | (with_reducible exact LeO.refl _)
   | (with_reducible exact LeO.none _)
   | (with_reducible refine LeO.ite ?_ ?_)
   | (with_reducible refine LeO.bind ?_ (fun _ => ?_))
   | exact ih0 _ _ _ _ _ _ _ _ _ _ _ _ _ _
   | exact parquetref01_Num_Cmp.mono _ _ _ _ _
   | exact parquetref01_Num_Plus.mono _ _ _ _ _
   | exact parquetref01_Num_Times.mono _ _ _ _ _
   | exact parquetref01_Of.mono _ _ _ _ _ _
   | exact parquetref01_Small.mono _ _
   | exact wide_DivMod.mono _ _ _ _ _ _ _ _ _ _ _
   | exact LeO.none _
   | refine LeO.ite ?_ ?_
   | refine LeO.bind ?_ (fun _ => ?_)
def parquetlaw01_WideDivs.T8 : Bool × List (List Nat × List Nat) := (true, [([], []), ([], []), ([0, 1], [0, 1]), ([2], [2]), ([3], [3]), ([3], [3]), ([4, 5, 3], [3, 4, 5]), ([3, 6], [3, 6]), ([7, 3], [7]), ([8], [8]), ([8], [8]), ([9, 10, 8, 8], [8, 9, 10]), ([11, 8], [8, 11]), ([12, 11, 8], [8, 12]), ([13], [13]), ([13], [13]), ([15, 13, 13], [13, 15]), ([14, 16, 16, 13], [13, 14, 16]), ([17, 13], [13, 17]), ([13, 18, 8], [8, 13, 18]), ([8, 19], [8, 19]), ([20, 17], [20]), ([21, 21], [21]), ([21, 22], [21, 22]), ([23, 22, 0, 1, 2, 3, 4, 5, 6, 7, 8, 9, 10, 11, 12, 13, 14, 15, 16, 17, 18, 19, 20, 21, 22, 23], [23])])
def parquetlaw01_WideDivs.B8 : List Nat := [0, 0, 3, 7, 15, 15, 63, 127, 255, 511, 511, 2047, 4095, 8191, 16383, 16383, 49151, 131071, 262143, 524287, 1048575, 2097151, 4194303, 8388607, 16777215]
theorem parquetlaw01_WideDivs.tab8 : rtab .any (opsOf Try.f4 8) = parquetlaw01_WideDivs.T8 := by kernel_rfl
theorem parquetlaw01_WideDivs.bits8 : waitsOk parquetlaw01_WideDivs.T8.2 parquetlaw01_WideDivs.B8 = true := by kernel_rfl
def parquetlaw01_WideDivs.T13 : Bool × List (List Nat × List Nat) := (true, [([], []), ([0], [0]), ([], []), ([1, 2, 1], [1, 2]), ([], []), ([3, 4, 3], [3, 4]), ([], []), ([6, 5, 5, 0, 1, 2, 3, 4, 5, 6], [5, 6])])
def parquetlaw01_WideDivs.B13 : List Nat := [0, 1, 0, 7, 0, 31, 0, 127]
theorem parquetlaw01_WideDivs.tab13 : rtab .any (opsOf Try.f4 13) = parquetlaw01_WideDivs.T13 := by kernel_rfl
theorem parquetlaw01_WideDivs.bits13 : waitsOk parquetlaw01_WideDivs.T13.2 parquetlaw01_WideDivs.B13 = true := by kernel_rfl
set_option maxHeartbeats 8000000 in
set_option maxRecDepth 100000 in
theorem parquetlaw01_WideDivs.calls (k : Nat) (a0_0 : Bool) (a0_1 : Int) (a0_2 : Int) (a0_3 : Int) (a0_4 : Int) (a1_0 : Bool) (a1_1 : Int) (a1_2 : Int) (a1_3 : Int) (a1_4 : Int) (r : Bool) (w : World) (h : parquetlaw01_WideDivs.f k a0_0 a0_1 a0_2 a0_3 a0_4 a1_0 a1_1 a1_2 a1_3 a1_4 = some r) (hr_ : r = true) :
  Calls Try.prog 4 #[.agg #[.bool a0_0, .int .u64 a0_1, .int .u64 a0_2, .int .u64 a0_3, .int .u64 a0_4], .agg #[.bool a1_0, .int .u64 a1_1, .int .u64 a1_2, .int .u64 a1_3, .int .u64 a1_4]] w fun e w' => e = .returned (.bool r) ∧ Below w.heap.size w w' := by
 have hu27 := Try.underlying27
 have hu38 := Try.underlying38
 have HB := Aside0.mk (Below.refl w.heap.size w)
 have H : ((wide_DivMod.f k a0_0 a0_1 a0_2 a0_3 a0_4 a1_0 a1_1 a1_2 a1_3 a1_4).bind fun bt712 => ((parquetref01_Of.f k a0_0 a0_1 a0_2 a0_3 a0_4).bind fun bt725 => ((parquetref01_Of.f k a1_0 a1_1 a1_2 a1_3 a1_4).bind fun bt730 => ((parquetref01_Num_Sign.f bt730.1 bt730.2).bind fun t735 => (if t735 = 0 then (if (!bt712.1 && ((bt712.2.1 == 0 && (bt712.2.2.1 == 0 && (bt712.2.2.2.1 == 0 && (bt712.2.2.2.2.1 == 0)))))) = true then (if (!bt712.2.2.2.2.2.1 && ((bt712.2.2.2.2.2.2.1 == 0 && (bt712.2.2.2.2.2.2.2.1 == 0 && (bt712.2.2.2.2.2.2.2.2.1 == 0 && (bt712.2.2.2.2.2.2.2.2.2.1 == 0)))))) = true then (if bt712.2.2.2.2.2.2.2.2.2.2 = 2 then ((parquetlaw01_known.f).bind fun t736 => (some t736)) else (some false)) else (some false)) else (some false)) else (if bt712.2.2.2.2.2.2.2.2.2.2 = 10 then ((parquetref01_Small.f k 1).bind fun bt737 => (if (!bt712.1 && ((bt712.2.1 == 0 && (bt712.2.2.1 == 0 && (bt712.2.2.2.1 == 0 && (bt712.2.2.2.2.1 == 0)))))) = true then (if (!bt712.2.2.2.2.2.1 && ((bt712.2.2.2.2.2.2.1 == 0 && (bt712.2.2.2.2.2.2.2.1 == 0 && (bt712.2.2.2.2.2.2.2.2.1 == 0 && (bt712.2.2.2.2.2.2.2.2.2.1 == 0)))))) = true then ((parquetref01_Num_Cmp.f k bt730.1 bt730.2 bt737.1 bt737.2).bind fun t742 => (if t742 = 0 then ((parquetlaw01_known.f).bind fun t743 => (some t743)) else ((parquetref01_Num_Neg.f bt737.1 bt737.2).bind fun bt744 => ((parquetref01_Num_Cmp.f k bt730.1 bt730.2 bt744.1 bt744.2).bind fun t748 => (if t748 = 0 then ((parquetlaw01_known.f).bind fun t749 => (some t749)) else (some false)))))) else (some false)) else (some false))) else ((parquetref01_Of.f k bt712.2.2.2.2.2.1 bt712.2.2.2.2.2.2.1 bt712.2.2.2.2.2.2.2.1 bt712.2.2.2.2.2.2.2.2.1 bt712.2.2.2.2.2.2.2.2.2.1).bind fun bt750 => ((parquetref01_Num_Sign.f bt730.1 bt730.2).bind fun t756 => (if t756 < 0 then ((parquetref01_Num_Neg.f bt730.1 bt730.2).bind fun bt757 => (parquetlaw01_WideDivs.j0 k bt712.2.2.2.2.2.2.2.2.2.2 bt712.1 bt712.2.1 bt712.2.2.1 bt712.2.2.2.1 bt712.2.2.2.2.1 bt725.1 bt725.2 bt730.1 bt730.2 bt750.1 bt750.2 bt757.1 bt757.2)) else (parquetlaw01_WideDivs.j0 k bt712.2.2.2.2.2.2.2.2.2.2 bt712.1 bt712.2.1 bt712.2.2.1 bt712.2.2.2.1 bt712.2.2.2.2.1 bt725.1 bt725.2 bt730.1 bt730.2 bt750.1 bt750.2 bt730.1 bt730.2)))))))))) = some r := h
 clear h
 replace H := Option.bind_eq_some_iff.mp H
 obtain ⟨⟨t712, t713, t714, t715, t716, t717, t718, t719, t720, t721, t722⟩, A30, H⟩ := H
 try dsimp only at H
 have A3 := Aside0.mk A30
 clear A30
 replace H := Option.bind_eq_some_iff.mp H
 obtain ⟨⟨t725, t726⟩, A40, H⟩ := H
 try dsimp only at H
 have A4 := Aside0.mk A40
 clear A40
 replace H := Option.bind_eq_some_iff.mp H
 obtain ⟨⟨t730, t731⟩, A50, H⟩ := H
 try dsimp only at H
 have A5 := Aside0.mk A50
 clear A50
 replace H := Option.bind_eq_some_iff.mp H
 obtain ⟨t735, A60, H⟩ := H
 try dsimp only at H
 have A6 := Aside0.mk A60
 clear A60
 by_cases c7 : t735 = 0
 ·rw [if_pos c7] at H
  have c7b0 : (t735 == 0) = true := beq_iff_eq.mpr c7
  have c7b1 : (t735 != 0) = false := bne_eq_false_iff_eq.mpr c7
  clear c7
  by_cases c8 : (!t712 && ((t713 == 0 && (t714 == 0 && (t715 == 0 && (t716 == 0)))))) = true
  rotate_left
  ·rw [if_neg c8] at H
   have c8b0 : (!t712 && ((t713 == 0 && (t714 == 0 && (t715 == 0 && (t716 == 0)))))) = false := by simpa using c8
   clear c8
   exact absurd ((Option.some.inj H).trans hr_) (by decide)
  rw [if_pos c8] at H
  have c8b0 : (!t712 && ((t713 == 0 && (t714 == 0 && (t715 == 0 && (t716 == 0)))))) = true := c8
  clear c8
  by_cases c9 : (!t717 && ((t718 == 0 && (t719 == 0 && (t720 == 0 && (t721 == 0)))))) = true
  rotate_left
  ·rw [if_neg c9] at H
   have c9b0 : (!t717 && ((t718 == 0 && (t719 == 0 && (t720 == 0 && (t721 == 0)))))) = false := by simpa using c9
   clear c9
   exact absurd ((Option.some.inj H).trans hr_) (by decide)
  rw [if_pos c9] at H
  have c9b0 : (!t717 && ((t718 == 0 && (t719 == 0 && (t720 == 0 && (t721 == 0)))))) = true := c9
  clear c9
  by_cases c10 : t722 = 2
  rotate_left
  ·rw [if_neg c10] at H
   have c10b0 : (t722 == 2) = false := beq_eq_false_iff_ne.mpr c10
   have c10b1 : (t722 != 2) = true := bne_iff_ne.mpr c10
   exact absurd ((Option.some.inj H).trans hr_) (by decide)
  rw [if_pos c10] at H
  have c10b0 : (t722 == 2) = true := beq_iff_eq.mpr c10
  have c10b1 : (t722 != 2) = false := bne_eq_false_iff_eq.mpr c10
  clear c10
  replace H := Option.bind_eq_some_iff.mp H
  obtain ⟨t736, A110, H⟩ := H
  replace H : (some t736) = some r := H
  have A11 := Aside0.mk A110
  clear A110
  obtain rfl := Option.some.inj H
  go_enter Try.func4, Try.ntmps4
  go_wp2_with (first | ((with_reducible refine gate_dst (N := 2) rfl ?_); refine box_event ?hg (N := 2) ?hd (cs := #[.bool a0_0, .int .u64 a0_1, .int .u64 a0_2, .int .u64 a0_3, .int .u64 a0_4]) (t := 27) ?hr ?_; (case hd => rfl); (case hg => rfl); (case hr => first | (go_simp; done) | (go_simp; rfl)); intro gb710 hg w12 hbox hb; have n0_ := Aside0.mk (below_step (by repeat (first | (with_reducible first | exact HB.out | apply qa | apply qn | apply qd) | exact HB.out)) hb); have n1_ := Aside0.mk (hbox); have n2_ := bgw HB hg; have n3_ := bgw HB hg; clear HB; have HB := n0_; have BK710 := n1_; have GW710 := n2_; have GE710 := n3_; clear n0_ n1_ n2_ n3_; clear hb hbox hg) | ((with_reducible refine gate_dst (N := 3) rfl ?_); refine box_event ?hg (N := 3) ?hd (cs := #[.bool a1_0, .int .u64 a1_1, .int .u64 a1_2, .int .u64 a1_3, .int .u64 a1_4]) (t := 27) ?hr ?_; (case hd => rfl); (case hg => rfl); (case hr => first | (go_simp; done) | (go_simp; rfl)); intro gb711 hg w13 hbox hb; have n0_ := bb BK710 hb; have n1_ := Aside0.mk (below_step (by repeat (first | (with_reducible first | exact HB.out | apply qa | apply qn | apply qd | refine qs ?_ GE710.out) | exact HB.out)) hb); have n2_ := Aside0.mk (hbox); have n3_ := bgw HB hg; have n4_ := bgw HB hg; have n5_ := bnl BK710 hg; have n6_ := bng BK710 hg; clear BK710; clear HB; have BK710 := n0_; have HB := n1_; have BK711 := n2_; have GW711 := n3_; have GE711 := n4_; have NB710_711 := n5_; have NB711_710 := n6_; clear n0_ n1_ n2_ n3_ n4_ n5_ n6_; clear hb hbox hg; have hnb14 := NB710_711.out; have hnc14 := NB711_710.out; obtain ⟨hcz15_0, hcz15_1, hcz15_2, hcz15_3, hcz15_4⟩ := cl5 BK710.out; obtain ⟨hfz15_0, hfz15_1, hfz15_2, hfz15_3, hfz15_4⟩ := fr5 BK710.out; obtain ⟨hcz16_0, hcz16_1, hcz16_2, hcz16_3, hcz16_4⟩ := cl5 BK711.out; obtain ⟨hfz16_0, hfz16_1, hfz16_2, hfz16_3, hfz16_4⟩ := fr5 BK711.out) | ((with_reducible refine gate_callee (f := 23) rfl ?_); refine goesL_ (some 17) rfl rfl Try.func23 (by kernel_rfl) rfl #[.agg #[.bool a0_0, .int .u64 a0_1, .int .u64 a0_2, .int .u64 a0_3, .int .u64 a0_4], .agg #[.bool a1_0, .int .u64 a1_1, .int .u64 a1_2, .int .u64 a1_3, .int .u64 a1_4]] rfl (by (try simp only [List.map_toArray, List.map_cons, List.map_nil]); first | done | rfl | (simp only [List.length_drop, List.length_take]; rfl)) ?_; (with_reducible refine (wide_DivMod.calls k a0_0 a0_1 a0_2 a0_3 a0_4 a1_0 a1_1 a1_2 a1_3 a1_4 t712 t713 t714 t715 t716 t717 t718 t719 t720 t721 t722 _ A3.out).mono ?_); rintro e w17 ⟨rfl, hb⟩; refine ⟨_, rfl, ?_⟩; have n0_ := bb BK710 hb; have n1_ := bb BK711 hb; have n2_ := Aside0.mk (below_step (by repeat (first | (with_reducible first | exact HB.out | apply qa | apply qn | apply qd | refine qs ?_ GE710.out | refine qs ?_ GE711.out) | exact HB.out)) hb); clear BK710; clear BK711; clear HB; have BK710 := n0_; have BK711 := n1_; have HB := n2_; clear n0_ n1_ n2_; (try clear hb); (try clear hb2); (try clear hk); (try clear hi)) | ((with_reducible refine gate_dst (N := 5) rfl ?_); refine box_event ?hg (N := 5) ?hd (cs := #[.bool false, .int .u64 0, .int .u64 0, .int .u64 0, .int .u64 0]) (t := 27) ?hr ?_; (case hd => rfl); (case hg => rfl); (case hr => first | (go_simp; done) | (go_simp; rfl)); intro gb723 hg w18 hbox hb; have n0_ := bb BK710 hb; have n1_ := bb BK711 hb; have n2_ := Aside0.mk (below_step (by repeat (first | (with_reducible first | exact HB.out | apply qa | apply qn | apply qd | refine qs ?_ GE710.out | refine qs ?_ GE711.out) | exact HB.out)) hb); have n3_ := Aside0.mk (hbox); have n4_ := bgw HB hg; have n5_ := bgw HB hg; have n6_ := bnl BK710 hg; have n7_ := bng BK710 hg; have n8_ := bnl BK711 hg; have n9_ := bng BK711 hg; clear BK710; clear BK711; clear HB; have BK710 := n0_; have BK711 := n1_; have HB := n2_; have BK723 := n3_; have GW723 := n4_; have GE723 := n5_; have NB710_723 := n6_; have NB723_710 := n7_; have NB711_723 := n8_; have NB723_711 := n9_; clear n0_ n1_ n2_ n3_ n4_ n5_ n6_ n7_ n8_ n9_; clear hb hbox hg) | ((with_reducible refine gate_dst (N := 6) rfl ?_); refine box_event ?hg (N := 6) ?hd (cs := #[.bool false, .int .u64 0, .int .u64 0, .int .u64 0, .int .u64 0]) (t := 27) ?hr ?_; (case hd => rfl); (case hg => rfl); (case hr => first | (go_simp; done) | (go_simp; rfl)); intro gb724 hg w19 hbox hb; have n0_ := bb BK710 hb; have n1_ := bb BK711 hb; have n2_ := bb BK723 hb; have n3_ := Aside0.mk (below_step (by repeat (first | (with_reducible first | exact HB.out | apply qa | apply qn | apply qd | refine qs ?_ GE710.out | refine qs ?_ GE711.out | refine qs ?_ GE723.out) | exact HB.out)) hb); have n4_ := Aside0.mk (hbox); have n5_ := bgw HB hg; have n6_ := bgw HB hg; have n7_ := bnl BK710 hg; have n8_ := bng BK710 hg; have n9_ := bnl BK711 hg; have n10_ := bng BK711 hg; have n11_ := bnl BK723 hg; have n12_ := bng BK723 hg; clear BK710; clear BK711; clear BK723; clear HB; have BK710 := n0_; have BK711 := n1_; have BK723 := n2_; have HB := n3_; have BK724 := n4_; have GW724 := n5_; have GE724 := n6_; have NB710_724 := n7_; have NB724_710 := n8_; have NB711_724 := n9_; have NB724_711 := n10_; have NB723_724 := n11_; have NB724_723 := n12_; clear n0_ n1_ n2_ n3_ n4_ n5_ n6_ n7_ n8_ n9_ n10_ n11_ n12_; clear hb hbox hg; have hnb20 := NB723_710.out; have hnc20 := NB710_723.out; have hnb21 := NB723_711.out; have hnc21 := NB711_723.out; have hnb22 := NB723_724.out; have hnc22 := NB724_723.out; obtain ⟨hcz23_0, hcz23_1, hcz23_2, hcz23_3, hcz23_4⟩ := cl5 BK723.out; obtain ⟨hfz23_0, hfz23_1, hfz23_2, hfz23_3, hfz23_4⟩ := fr5 BK723.out; have hnb24 := NB724_710.out; have hnc24 := NB710_724.out; have hnb25 := NB724_711.out; have hnc25 := NB711_724.out; obtain ⟨hcz26_0, hcz26_1, hcz26_2, hcz26_3, hcz26_4⟩ := cl5 BK724.out; obtain ⟨hfz26_0, hfz26_1, hfz26_2, hfz26_3, hfz26_4⟩ := fr5 BK724.out; obtain ⟨hcz27_0, hcz27_1, hcz27_2, hcz27_3, hcz27_4⟩ := cl5 BK710.out; obtain ⟨hfz27_0, hfz27_1, hfz27_2, hfz27_3, hfz27_4⟩ := fr5 BK710.out) | ((with_reducible refine gate_callee (f := 24) rfl ?_); refine goesL_ (some 22) rfl rfl Try.func24 (by kernel_rfl) rfl #[.agg #[.bool a0_0, .int .u64 a0_1, .int .u64 a0_2, .int .u64 a0_3, .int .u64 a0_4]] rfl (by (try simp only [List.map_toArray, List.map_cons, List.map_nil]); first | done | rfl | (simp only [List.length_drop, List.length_take]; rfl)) ?_; (with_reducible refine (parquetref01_Of.calls k a0_0 a0_1 a0_2 a0_3 a0_4 t725 t726 _ A4.out).mono ?_); rintro e w28 ⟨v727, rfl, ho0, hb⟩; refine ⟨_, rfl, ?_⟩; have n0_ := Aside0.mk (Kd.V_lower (Kd.V_mono (ok' := fun k_ => k_ ≠ gb710 ∧ k_ ≠ gb711 ∧ k_ ≠ gb723 ∧ k_ ≠ gb724) ho0 (fun k_ hk_ => ⟨(Kd.freshB (g := gb710) (o := .cells #[.bool a0_0, .int .u64 a0_1, .int .u64 a0_2, .int .u64 a0_3, .int .u64 a0_4] 27 (0, 0)) (by repeat (with_reducible first | exact lb BK710.out | refine blk_far ?_ NB710_724.out _ | refine blk_far ?_ NB710_723.out _ | refine cn ?_ _ | refine cd ?_ | refine ca ?_ _)) k_ hk_), (Kd.freshB (g := gb711) (o := .cells #[.bool a1_0, .int .u64 a1_1, .int .u64 a1_2, .int .u64 a1_3, .int .u64 a1_4] 27 (0, 0)) (by repeat (with_reducible first | exact lb BK711.out | refine blk_far ?_ NB711_724.out _ | refine blk_far ?_ NB711_723.out _ | refine cn ?_ _ | refine cd ?_ | refine ca ?_ _)) k_ hk_), (Kd.freshB (g := gb723) (o := .cells #[.bool t712, .int .u64 t713, .int .u64 t714, .int .u64 t715, .int .u64 t716] 27 (0, 0)) (by repeat (with_reducible first | exact bp5 (lb BK723.out) | refine blk_far ?_ NB723_724.out _ | refine cn ?_ _ | refine cd ?_ | refine ca ?_ _)) k_ hk_), (Kd.freshB (g := gb724) (o := .cells #[.bool t717, .int .u64 t718, .int .u64 t719, .int .u64 t720, .int .u64 t721] 27 (0, 0)) (by (with_reducible repeat (first | refine cn ?_ _ | refine cd ?_ | refine ca ?_ _)); refine blk_put (cs := #[.bool t717, .int .u64 t718, .int .u64 t719, .int .u64 t720, .int .u64 0]) ?_ 4 _ rfl; (with_reducible repeat (first | refine cn ?_ _ | refine cd ?_ | refine ca ?_ _)); refine blk_put (cs := #[.bool t717, .int .u64 t718, .int .u64 t719, .int .u64 0, .int .u64 0]) ?_ 3 _ rfl; (with_reducible repeat (first | refine cn ?_ _ | refine cd ?_ | refine ca ?_ _)); refine blk_put (cs := #[.bool t717, .int .u64 t718, .int .u64 0, .int .u64 0, .int .u64 0]) ?_ 2 _ rfl; (with_reducible repeat (first | refine cn ?_ _ | refine cd ?_ | refine ca ?_ _)); refine blk_put (cs := #[.bool t717, .int .u64 0, .int .u64 0, .int .u64 0, .int .u64 0]) ?_ 1 _ rfl; (with_reducible repeat (first | refine cn ?_ _ | refine cd ?_ | refine ca ?_ _)); refine blk_put (cs := #[.bool false, .int .u64 0, .int .u64 0, .int .u64 0, .int .u64 0]) ?_ 0 _ rfl; (with_reducible repeat (first | refine cn ?_ _ | refine cd ?_ | refine ca ?_ _)); refine blk_far ?_ NB724_723.out _; (with_reducible repeat (first | refine cn ?_ _ | refine cd ?_ | refine ca ?_ _)); refine blk_far ?_ NB724_723.out _; (with_reducible repeat (first | refine cn ?_ _ | refine cd ?_ | refine ca ?_ _)); refine blk_far ?_ NB724_723.out _; (with_reducible repeat (first | refine cn ?_ _ | refine cd ?_ | refine ca ?_ _)); refine blk_far ?_ NB724_723.out _; (with_reducible repeat (first | refine cn ?_ _ | refine cd ?_ | refine ca ?_ _)); refine blk_far ?_ NB724_723.out _; (with_reducible repeat (first | refine cn ?_ _ | refine cd ?_ | refine ca ?_ _)); exact BK724.out) k_ hk_)⟩)) (below_size (by repeat (first | (with_reducible first | exact HB.out | apply qa | apply qn | apply qd | refine qs ?_ GE710.out | refine qs ?_ GE711.out | refine qs ?_ GE723.out | refine qs ?_ GE724.out) | exact HB.out)))); have n1_ := Aside0.mk (blk_below (g := gb710) (o := .cells #[.bool a0_0, .int .u64 a0_1, .int .u64 a0_2, .int .u64 a0_3, .int .u64 a0_4] 27 (0, 0)) (by repeat (with_reducible first | exact lb BK710.out | refine blk_far ?_ NB710_724.out _ | refine blk_far ?_ NB710_723.out _ | refine cn ?_ _ | refine cd ?_ | refine ca ?_ _)) hb); have n2_ := Aside0.mk (blk_below (g := gb711) (o := .cells #[.bool a1_0, .int .u64 a1_1, .int .u64 a1_2, .int .u64 a1_3, .int .u64 a1_4] 27 (0, 0)) (by repeat (with_reducible first | exact lb BK711.out | refine blk_far ?_ NB711_724.out _ | refine blk_far ?_ NB711_723.out _ | refine cn ?_ _ | refine cd ?_ | refine ca ?_ _)) hb); have n3_ := Aside0.mk (blk_below (g := gb723) (o := .cells #[.bool t712, .int .u64 t713, .int .u64 t714, .int .u64 t715, .int .u64 t716] 27 (0, 0)) (by repeat (with_reducible first | exact bp5 (lb BK723.out) | refine blk_far ?_ NB723_724.out _ | refine cn ?_ _ | refine cd ?_ | refine ca ?_ _)) hb); have n4_ := Aside0.mk (blk_below (g := gb724) (o := .cells #[.bool t717, .int .u64 t718, .int .u64 t719, .int .u64 t720, .int .u64 t721] 27 (0, 0)) (by (with_reducible repeat (first | refine cn ?_ _ | refine cd ?_ | refine ca ?_ _)); refine blk_put (cs := #[.bool t717, .int .u64 t718, .int .u64 t719, .int .u64 t720, .int .u64 0]) ?_ 4 _ rfl; (with_reducible repeat (first | refine cn ?_ _ | refine cd ?_ | refine ca ?_ _)); refine blk_put (cs := #[.bool t717, .int .u64 t718, .int .u64 t719, .int .u64 0, .int .u64 0]) ?_ 3 _ rfl; (with_reducible repeat (first | refine cn ?_ _ | refine cd ?_ | refine ca ?_ _)); refine blk_put (cs := #[.bool t717, .int .u64 t718, .int .u64 0, .int .u64 0, .int .u64 0]) ?_ 2 _ rfl; (with_reducible repeat (first | refine cn ?_ _ | refine cd ?_ | refine ca ?_ _)); refine blk_put (cs := #[.bool t717, .int .u64 0, .int .u64 0, .int .u64 0, .int .u64 0]) ?_ 1 _ rfl; (with_reducible repeat (first | refine cn ?_ _ | refine cd ?_ | refine ca ?_ _)); refine blk_put (cs := #[.bool false, .int .u64 0, .int .u64 0, .int .u64 0, .int .u64 0]) ?_ 0 _ rfl; (with_reducible repeat (first | refine cn ?_ _ | refine cd ?_ | refine ca ?_ _)); refine blk_far ?_ NB724_723.out _; (with_reducible repeat (first | refine cn ?_ _ | refine cd ?_ | refine ca ?_ _)); refine blk_far ?_ NB724_723.out _; (with_reducible repeat (first | refine cn ?_ _ | refine cd ?_ | refine ca ?_ _)); refine blk_far ?_ NB724_723.out _; (with_reducible repeat (first | refine cn ?_ _ | refine cd ?_ | refine ca ?_ _)); refine blk_far ?_ NB724_723.out _; (with_reducible repeat (first | refine cn ?_ _ | refine cd ?_ | refine ca ?_ _)); refine blk_far ?_ NB724_723.out _; (with_reducible repeat (first | refine cn ?_ _ | refine cd ?_ | refine ca ?_ _)); exact BK724.out) hb); have n5_ := Aside0.mk (below_step (by repeat (first | (with_reducible first | exact HB.out | apply qa | apply qn | apply qd | refine qs ?_ GE710.out | refine qs ?_ GE711.out | refine qs ?_ GE723.out | refine qs ?_ GE724.out) | exact HB.out)) hb); clear BK710; clear BK711; clear BK723; clear BK724; clear HB; have HO728 := n0_; have BK710 := n1_; have BK711 := n2_; have BK723 := n3_; have BK724 := n4_; have HB := n5_; clear n0_ n1_ n2_ n3_ n4_ n5_; (try clear hb); (try clear hb2); (try clear hk); (try clear hi); (try clear ho0)) | ((with_reducible refine gate_dst (N := 8) rfl ?_); refine box_event ?hg (N := 8) ?hd (cs := #[.bool false, .slice none 0 0]) (t := 38) ?hr ?_; (case hd => rfl); (case hg => rfl); (case hr => first | (go_simp; done) | (go_simp; rfl)); intro gb729 hg w29 hbox hb; have n0_ := Aside0.mk (Kd.V_below (Kd.V_elderB (by (with_reducible repeat (first | apply Kd.V_alloc | apply Kd.V_drewN | apply Kd.V_drew)); exact HO728.out) gb729 (Nat.le_of_eq hg.symm)) hb); have n1_ := bb BK710 hb; have n2_ := bb BK711 hb; have n3_ := bb BK723 hb; have n4_ := bb BK724 hb; have n5_ := Aside0.mk (below_step (by repeat (first | (with_reducible first | exact HB.out | apply qa | apply qn | apply qd | refine qs ?_ GE710.out | refine qs ?_ GE711.out | refine qs ?_ GE723.out | refine qs ?_ GE724.out) | exact HB.out)) hb); have n6_ := Aside0.mk (hbox); have n7_ := bgw HB hg; have n8_ := bgw HB hg; have n9_ := bnl BK710 hg; have n10_ := bng BK710 hg; have n11_ := bnl BK711 hg; have n12_ := bng BK711 hg; have n13_ := bnl BK723 hg; have n14_ := bng BK723 hg; have n15_ := bnl BK724 hg; have n16_ := bng BK724 hg; clear HO728; clear BK710; clear BK711; clear BK723; clear BK724; clear HB; have HO728 := n0_; have BK710 := n1_; have BK711 := n2_; have BK723 := n3_; have BK724 := n4_; have HB := n5_; have BK729 := n6_; have GW729 := n7_; have GE729 := n8_; have NB710_729 := n9_; have NB729_710 := n10_; have NB711_729 := n11_; have NB729_711 := n12_; have NB723_729 := n13_; have NB729_723 := n14_; have NB724_729 := n15_; have NB729_724 := n16_; clear n0_ n1_ n2_ n3_ n4_ n5_ n6_ n7_ n8_ n9_ n10_ n11_ n12_ n13_ n14_ n15_ n16_; clear hb hbox hg; have hnb30 := NB729_710.out; have hnc30 := NB710_729.out; have hnb31 := NB729_711.out; have hnc31 := NB711_729.out; have hnb32 := NB729_723.out; have hnc32 := NB723_729.out; have hnb33 := NB729_724.out; have hnc33 := NB724_729.out; obtain ⟨hcz34_0, hcz34_1⟩ := cl2 BK729.out; obtain ⟨hfz34_0, hfz34_1⟩ := fr2 BK729.out; obtain ⟨Ao35, co35, eo35⟩ := Kd.V_slice HO728.out; subst eo35; obtain ⟨hcz36_0, hcz36_1, hcz36_2, hcz36_3, hcz36_4⟩ := cl5 BK711.out; obtain ⟨hfz36_0, hfz36_1, hfz36_2, hfz36_3, hfz36_4⟩ := fr5 BK711.out) | ((with_reducible refine gate_callee (f := 24) rfl ?_); refine goesL_ (some 24) rfl rfl Try.func24 (by kernel_rfl) rfl #[.agg #[.bool a1_0, .int .u64 a1_1, .int .u64 a1_2, .int .u64 a1_3, .int .u64 a1_4]] rfl (by (try simp only [List.map_toArray, List.map_cons, List.map_nil]); first | done | rfl | (simp only [List.length_drop, List.length_take]; rfl)) ?_; (with_reducible refine (parquetref01_Of.calls k a1_0 a1_1 a1_2 a1_3 a1_4 t730 t731 _ A5.out).mono ?_); rintro e w37 ⟨v732, rfl, ho0, hb⟩; refine ⟨_, rfl, ?_⟩; have n0_ := Aside0.mk (Kd.V_below (by (with_reducible repeat (first | apply Kd.V_alloc | apply Kd.V_drewN | apply Kd.V_drew)); exact (Kd.V_mono (Kd.V_far (p := ⟨gb729, 1, none⟩) (Kd.V_far (p := ⟨gb729, 0, none⟩) (Kd.V_mono HO728.out (fun k_ hk => (⟨hk, hk.2⟩ : _ ∧ k_ ≠ gb729))) (fun _ hk => hk.2) (.bool t725)) (fun _ hk => hk.2) (.slice Ao35 t726.length co35)) (fun _ h_ => h_.1))) hb); have n1_ := Aside0.mk (Kd.V_lower (Kd.V_mono (ok' := fun k_ => k_ ≠ gb710 ∧ k_ ≠ gb711 ∧ k_ ≠ gb723 ∧ k_ ≠ gb724 ∧ k_ ≠ gb729) ho0 (fun k_ hk_ => ⟨(Kd.freshB (g := gb710) (o := .cells #[.bool a0_0, .int .u64 a0_1, .int .u64 a0_2, .int .u64 a0_3, .int .u64 a0_4] 27 (0, 0)) (by repeat (with_reducible first | exact lb BK710.out | refine blk_far ?_ NB710_729.out _ | refine cn ?_ _ | refine cd ?_ | refine ca ?_ _)) k_ hk_), (Kd.freshB (g := gb711) (o := .cells #[.bool a1_0, .int .u64 a1_1, .int .u64 a1_2, .int .u64 a1_3, .int .u64 a1_4] 27 (0, 0)) (by repeat (with_reducible first | exact lb BK711.out | refine blk_far ?_ NB711_729.out _ | refine cn ?_ _ | refine cd ?_ | refine ca ?_ _)) k_ hk_), (Kd.freshB (g := gb723) (o := .cells #[.bool t712, .int .u64 t713, .int .u64 t714, .int .u64 t715, .int .u64 t716] 27 (0, 0)) (by repeat (with_reducible first | exact lb BK723.out | refine blk_far ?_ NB723_729.out _ | refine cn ?_ _ | refine cd ?_ | refine ca ?_ _)) k_ hk_), (Kd.freshB (g := gb724) (o := .cells #[.bool t717, .int .u64 t718, .int .u64 t719, .int .u64 t720, .int .u64 t721] 27 (0, 0)) (by repeat (with_reducible first | exact lb BK724.out | refine blk_far ?_ NB724_729.out _ | refine cn ?_ _ | refine cd ?_ | refine ca ?_ _)) k_ hk_), (Kd.freshB (g := gb729) (o := .cells #[.bool t725, .slice Ao35 t726.length co35] 38 (0, 0)) (by (with_reducible repeat (first | refine cn ?_ _ | refine cd ?_ | refine ca ?_ _)); refine blk_put (cs := #[.bool t725, .slice none 0 0]) ?_ 1 _ rfl; (with_reducible repeat (first | refine cn ?_ _ | refine cd ?_ | refine ca ?_ _)); refine blk_put (cs := #[.bool false, .slice none 0 0]) ?_ 0 _ rfl; (with_reducible repeat (first | refine cn ?_ _ | refine cd ?_ | refine ca ?_ _)); exact BK729.out) k_ hk_)⟩)) (below_size (by repeat (first | (with_reducible first | exact HB.out | apply qa | apply qn | apply qd | refine qs ?_ GE710.out | refine qs ?_ GE711.out | refine qs ?_ GE723.out | refine qs ?_ GE724.out | refine qs ?_ GE729.out) | exact HB.out)))); have n2_ := Aside0.mk (blk_below (g := gb710) (o := .cells #[.bool a0_0, .int .u64 a0_1, .int .u64 a0_2, .int .u64 a0_3, .int .u64 a0_4] 27 (0, 0)) (by repeat (with_reducible first | exact lb BK710.out | refine blk_far ?_ NB710_729.out _ | refine cn ?_ _ | refine cd ?_ | refine ca ?_ _)) hb); have n3_ := Aside0.mk (blk_below (g := gb711) (o := .cells #[.bool a1_0, .int .u64 a1_1, .int .u64 a1_2, .int .u64 a1_3, .int .u64 a1_4] 27 (0, 0)) (by repeat (with_reducible first | exact lb BK711.out | refine blk_far ?_ NB711_729.out _ | refine cn ?_ _ | refine cd ?_ | refine ca ?_ _)) hb); have n4_ := Aside0.mk (blk_below (g := gb723) (o := .cells #[.bool t712, .int .u64 t713, .int .u64 t714, .int .u64 t715, .int .u64 t716] 27 (0, 0)) (by repeat (with_reducible first | exact lb BK723.out | refine blk_far ?_ NB723_729.out _ | refine cn ?_ _ | refine cd ?_ | refine ca ?_ _)) hb); have n5_ := Aside0.mk (blk_below (g := gb724) (o := .cells #[.bool t717, .int .u64 t718, .int .u64 t719, .int .u64 t720, .int .u64 t721] 27 (0, 0)) (by repeat (with_reducible first | exact lb BK724.out | refine blk_far ?_ NB724_729.out _ | refine cn ?_ _ | refine cd ?_ | refine ca ?_ _)) hb); have n6_ := Aside0.mk (blk_below (g := gb729) (o := .cells #[.bool t725, .slice Ao35 t726.length co35] 38 (0, 0)) (by (with_reducible repeat (first | refine cn ?_ _ | refine cd ?_ | refine ca ?_ _)); refine blk_put (cs := #[.bool t725, .slice none 0 0]) ?_ 1 _ rfl; (with_reducible repeat (first | refine cn ?_ _ | refine cd ?_ | refine ca ?_ _)); refine blk_put (cs := #[.bool false, .slice none 0 0]) ?_ 0 _ rfl; (with_reducible repeat (first | refine cn ?_ _ | refine cd ?_ | refine ca ?_ _)); exact BK729.out) hb); have n7_ := Aside0.mk (below_step (by repeat (first | (with_reducible first | exact HB.out | apply qa | apply qn | apply qd | refine qs ?_ GE710.out | refine qs ?_ GE711.out | refine qs ?_ GE723.out | refine qs ?_ GE724.out | refine qs ?_ GE729.out) | exact HB.out)) hb); clear HO728; clear BK710; clear BK711; clear BK723; clear BK724; clear BK729; clear HB; have HO728 := n0_; have HO733 := n1_; have BK710 := n2_; have BK711 := n3_; have BK723 := n4_; have BK724 := n5_; have BK729 := n6_; have HB := n7_; clear n0_ n1_ n2_ n3_ n4_ n5_ n6_ n7_; (try clear hb); (try clear hb2); (try clear hk); (try clear hi); (try clear ho0)) | ((with_reducible refine gate_dst (N := 9) rfl ?_); refine box_event ?hg (N := 9) ?hd (cs := #[.bool false, .slice none 0 0]) (t := 38) ?hr ?_; (case hd => rfl); (case hg => rfl); (case hr => first | (go_simp; done) | (go_simp; rfl)); intro gb734 hg w38 hbox hb; have n0_ := Aside0.mk (Kd.V_below (Kd.V_elderB (by (with_reducible repeat (first | apply Kd.V_alloc | apply Kd.V_drewN | apply Kd.V_drew)); exact HO728.out) gb734 (Nat.le_of_eq hg.symm)) hb); have n1_ := Aside0.mk (Kd.V_below (Kd.V_elderB (by (with_reducible repeat (first | apply Kd.V_alloc | apply Kd.V_drewN | apply Kd.V_drew)); exact HO733.out) gb734 (Nat.le_of_eq hg.symm)) hb); have n2_ := bb BK710 hb; have n3_ := bb BK711 hb; have n4_ := bb BK723 hb; have n5_ := bb BK724 hb; have n6_ := bb BK729 hb; have n7_ := Aside0.mk (below_step (by repeat (first | (with_reducible first | exact HB.out | apply qa | apply qn | apply qd | refine qs ?_ GE710.out | refine qs ?_ GE711.out | refine qs ?_ GE723.out | refine qs ?_ GE724.out | refine qs ?_ GE729.out) | exact HB.out)) hb); have n8_ := Aside0.mk (hbox); have n9_ := bgw HB hg; have n10_ := bgw HB hg; have n11_ := bnl BK710 hg; have n12_ := bng BK710 hg; have n13_ := bnl BK711 hg; have n14_ := bng BK711 hg; have n15_ := bnl BK723 hg; have n16_ := bng BK723 hg; have n17_ := bnl BK724 hg; have n18_ := bng BK724 hg; have n19_ := bnl BK729 hg; have n20_ := bng BK729 hg; clear HO728; clear HO733; clear BK710; clear BK711; clear BK723; clear BK724; clear BK729; clear HB; have HO728 := n0_; have HO733 := n1_; have BK710 := n2_; have BK711 := n3_; have BK723 := n4_; have BK724 := n5_; have BK729 := n6_; have HB := n7_; have BK734 := n8_; have GW734 := n9_; have GE734 := n10_; have NB710_734 := n11_; have NB734_710 := n12_; have NB711_734 := n13_; have NB734_711 := n14_; have NB723_734 := n15_; have NB734_723 := n16_; have NB724_734 := n17_; have NB734_724 := n18_; have NB729_734 := n19_; have NB734_729 := n20_; clear n0_ n1_ n2_ n3_ n4_ n5_ n6_ n7_ n8_ n9_ n10_ n11_ n12_ n13_ n14_ n15_ n16_ n17_ n18_ n19_ n20_; clear hb hbox hg; have hnb39 := NB734_710.out; have hnc39 := NB710_734.out; have hnb40 := NB734_711.out; have hnc40 := NB711_734.out; have hnb41 := NB734_723.out; have hnc41 := NB723_734.out; have hnb42 := NB734_724.out; have hnc42 := NB724_734.out; have hnb43 := NB734_729.out; have hnc43 := NB729_734.out; obtain ⟨hcz44_0, hcz44_1⟩ := cl2 BK734.out; obtain ⟨hfz44_0, hfz44_1⟩ := fr2 BK734.out; obtain ⟨Ao45, co45, eo45⟩ := Kd.V_slice HO733.out; subst eo45) | ((with_reducible refine gate_callee (f := 25) rfl ?_); refine goesL_ (some 26) rfl rfl Try.func25 (by kernel_rfl) rfl #[.agg #[.bool t730, .slice Ao45 t731.length co45]] rfl (by (try simp only [List.map_toArray, List.map_cons, List.map_nil]); first | done | rfl | (simp only [List.length_drop, List.length_take]; rfl)) ?_; (with_reducible refine (parquetref01_Num_Sign.calls t730 _ _ t731 t735 _ ?side1 ?side2 A6.out).mono ?_); (case side1 => refine (Kd.V_reads' (e := 3) (base := w.heap.size) (ok := fun k_ => ((k_ ≠ gb710 ∧ (k_ ≠ gb711 ∧ (k_ ≠ gb723 ∧ (k_ ≠ gb724 ∧ k_ ≠ gb729)))) ∧ k_ ≠ gb734)) (n := t731.length) (c := co45) ?_).2.2; exact (by (with_reducible repeat (first | apply Kd.V_alloc | apply Kd.V_drewN | apply Kd.V_drew)); exact (Kd.V_mono (Kd.V_far (p := ⟨gb734, 1, none⟩) (Kd.V_far (p := ⟨gb734, 0, none⟩) (Kd.V_mono HO733.out (fun k_ hk => (⟨hk, hk.2⟩ : _ ∧ k_ ≠ gb734))) (fun _ hk => hk.2) (.bool t730)) (fun _ hk => hk.2) (.slice Ao45 t731.length co45)) (fun _ h_ => h_.1)))); (case side2 => exact (Kd.V_reads' HO733.out).2.1); rintro e w46 ⟨rfl, hb⟩; refine ⟨_, rfl, ?_⟩; have n0_ := Aside0.mk (Kd.V_below (by (with_reducible repeat (first | apply Kd.V_alloc | apply Kd.V_drewN | apply Kd.V_drew)); exact (Kd.V_mono (Kd.V_far (p := ⟨gb734, 1, none⟩) (Kd.V_far (p := ⟨gb734, 0, none⟩) (Kd.V_mono HO728.out (fun k_ hk => (⟨hk, hk.2⟩ : _ ∧ k_ ≠ gb734))) (fun _ hk => hk.2) (.bool t730)) (fun _ hk => hk.2) (.slice Ao45 t731.length co45)) (fun _ h_ => h_.1))) hb); have n1_ := Aside0.mk (Kd.V_below (by (with_reducible repeat (first | apply Kd.V_alloc | apply Kd.V_drewN | apply Kd.V_drew)); exact (Kd.V_mono (Kd.V_far (p := ⟨gb734, 1, none⟩) (Kd.V_far (p := ⟨gb734, 0, none⟩) (Kd.V_mono HO733.out (fun k_ hk => (⟨hk, hk.2⟩ : _ ∧ k_ ≠ gb734))) (fun _ hk => hk.2) (.bool t730)) (fun _ hk => hk.2) (.slice Ao45 t731.length co45)) (fun _ h_ => h_.1))) hb); have n2_ := Aside0.mk (blk_below (g := gb710) (o := .cells #[.bool a0_0, .int .u64 a0_1, .int .u64 a0_2, .int .u64 a0_3, .int .u64 a0_4] 27 (0, 0)) (by repeat (with_reducible first | exact lb BK710.out | refine blk_far ?_ NB710_734.out _ | refine cn ?_ _ | refine cd ?_ | refine ca ?_ _)) hb); have n3_ := Aside0.mk (blk_below (g := gb711) (o := .cells #[.bool a1_0, .int .u64 a1_1, .int .u64 a1_2, .int .u64 a1_3, .int .u64 a1_4] 27 (0, 0)) (by repeat (with_reducible first | exact lb BK711.out | refine blk_far ?_ NB711_734.out _ | refine cn ?_ _ | refine cd ?_ | refine ca ?_ _)) hb); have n4_ := Aside0.mk (blk_below (g := gb723) (o := .cells #[.bool t712, .int .u64 t713, .int .u64 t714, .int .u64 t715, .int .u64 t716] 27 (0, 0)) (by repeat (with_reducible first | exact lb BK723.out | refine blk_far ?_ NB723_734.out _ | refine cn ?_ _ | refine cd ?_ | refine ca ?_ _)) hb); have n5_ := Aside0.mk (blk_below (g := gb724) (o := .cells #[.bool t717, .int .u64 t718, .int .u64 t719, .int .u64 t720, .int .u64 t721] 27 (0, 0)) (by repeat (with_reducible first | exact lb BK724.out | refine blk_far ?_ NB724_734.out _ | refine cn ?_ _ | refine cd ?_ | refine ca ?_ _)) hb); have n6_ := Aside0.mk (blk_below (g := gb729) (o := .cells #[.bool t725, .slice Ao35 t726.length co35] 38 (0, 0)) (by repeat (with_reducible first | exact lb BK729.out | refine blk_far ?_ NB729_734.out _ | refine cn ?_ _ | refine cd ?_ | refine ca ?_ _)) hb); have n7_ := Aside0.mk (blk_below (g := gb734) (o := .cells #[.bool t730, .slice Ao45 t731.length co45] 38 (0, 0)) (by (with_reducible repeat (first | refine cn ?_ _ | refine cd ?_ | refine ca ?_ _)); refine blk_put (cs := #[.bool t730, .slice none 0 0]) ?_ 1 _ rfl; (with_reducible repeat (first | refine cn ?_ _ | refine cd ?_ | refine ca ?_ _)); refine blk_put (cs := #[.bool false, .slice none 0 0]) ?_ 0 _ rfl; (with_reducible repeat (first | refine cn ?_ _ | refine cd ?_ | refine ca ?_ _)); exact BK734.out) hb); have n8_ := Aside0.mk (below_step (by repeat (first | (with_reducible first | exact HB.out | apply qa | apply qn | apply qd | refine qs ?_ GE710.out | refine qs ?_ GE711.out | refine qs ?_ GE723.out | refine qs ?_ GE724.out | refine qs ?_ GE729.out | refine qs ?_ GE734.out) | exact HB.out)) hb); clear HO728; clear HO733; clear BK710; clear BK711; clear BK723; clear BK724; clear BK729; clear BK734; clear HB; have HO728 := n0_; have HO733 := n1_; have BK710 := n2_; have BK711 := n3_; have BK723 := n4_; have BK724 := n5_; have BK729 := n6_; have BK734 := n7_; have HB := n8_; clear n0_ n1_ n2_ n3_ n4_ n5_ n6_ n7_ n8_; (try clear hb); (try clear hb2); (try clear hk); (try clear hi); obtain ⟨hcz47_0, hcz47_1, hcz47_2, hcz47_3, hcz47_4⟩ := cl5 BK723.out; obtain ⟨hfz47_0, hfz47_1, hfz47_2, hfz47_3, hfz47_4⟩ := fr5 BK723.out; obtain ⟨hcz48_0, hcz48_1, hcz48_2, hcz48_3, hcz48_4⟩ := cl5 BK724.out; obtain ⟨hfz48_0, hfz48_1, hfz48_2, hfz48_3, hfz48_4⟩ := fr5 BK724.out) | (go_at_call 20; (with_reducible refine (parquetlaw01_known.calls  t736 _ A11.out).mono ?_); rintro e w49 ⟨rfl, hb⟩; have n0_ := Aside0.mk (Kd.V_below (by (with_reducible repeat (first | apply Kd.V_alloc | apply Kd.V_drewN | apply Kd.V_drew)); exact HO728.out) hb); have n1_ := Aside0.mk (Kd.V_below (by (with_reducible repeat (first | apply Kd.V_alloc | apply Kd.V_drewN | apply Kd.V_drew)); exact HO733.out) hb); have n2_ := bb BK710 hb; have n3_ := bb BK711 hb; have n4_ := bb BK723 hb; have n5_ := bb BK724 hb; have n6_ := bb BK729 hb; have n7_ := bb BK734 hb; have n8_ := Aside0.mk (below_step (by repeat (first | (with_reducible first | exact HB.out | apply qa | apply qn | apply qd | refine qs ?_ GE710.out | refine qs ?_ GE711.out | refine qs ?_ GE723.out | refine qs ?_ GE724.out | refine qs ?_ GE729.out | refine qs ?_ GE734.out) | exact HB.out)) hb); clear HO728; clear HO733; clear BK710; clear BK711; clear BK723; clear BK724; clear BK729; clear BK734; clear HB; have HO728 := n0_; have HO733 := n1_; have BK710 := n2_; have BK711 := n3_; have BK723 := n4_; have BK724 := n5_; have BK729 := n6_; have BK734 := n7_; have HB := n8_; clear n0_ n1_ n2_ n3_ n4_ n5_ n6_ n7_ n8_; (try clear hb); (try clear hb2); (try clear hk); (try clear hi)))
  go_ret
  exact ⟨by first | rfl | (simp [errW_none, errW_some] <;> rfl) | (simp [*, errW_none, errW_some] <;> rfl), by repeat (first | (with_reducible first | exact HB.out | apply qa | apply qn | apply qd | refine qs ?_ GE710.out | refine qs ?_ GE711.out | refine qs ?_ GE723.out | refine qs ?_ GE724.out | refine qs ?_ GE729.out | refine qs ?_ GE734.out) | exact HB.out)⟩
 rw [if_neg c7] at H
 have c7b0 : (t735 == 0) = false := beq_eq_false_iff_ne.mpr c7
 have c7b1 : (t735 != 0) = true := bne_iff_ne.mpr c7
 by_cases c50 : t722 = 10
 ·exact absurd c50 (DivMod_no10 A3.out)
 rw [if_neg c50] at H
 have c50b0 : (t722 == 10) = false := beq_eq_false_iff_ne.mpr c50
 have c50b1 : (t722 != 10) = true := bne_iff_ne.mpr c50
 replace H := Option.bind_eq_some_iff.mp H
 obtain ⟨⟨t750, t751⟩, A1620, H⟩ := H
 try dsimp only at H
 have A162 := Aside0.mk A1620
 clear A1620
 replace H := Option.bind_eq_some_iff.mp H
 obtain ⟨t756, A1630, H⟩ := H
 try dsimp only at H
 have A163 := Aside0.mk A1630
 clear A1630
 have HC164 := Aside0.mk H
 clear H
 go_enter Try.func4, Try.ntmps4
 go_upto_if 75 with (first | ((with_reducible refine gate_dst (N := 2) rfl ?_); refine box_event ?hg (N := 2) ?hd (cs := #[.bool a0_0, .int .u64 a0_1, .int .u64 a0_2, .int .u64 a0_3, .int .u64 a0_4]) (t := 27) ?hr ?_; (case hd => rfl); (case hg => rfl); (case hr => first | (go_simp; done) | (go_simp; rfl)); intro gb710 hg w165 hbox hb; have n0_ := Aside0.mk (below_step (by repeat (first | (with_reducible first | exact HB.out | apply qa | apply qn | apply qd) | exact HB.out)) hb); have n1_ := Aside0.mk (hbox); have n2_ := bgw HB hg; have n3_ := bgw HB hg; clear HB; have HB := n0_; have BK710 := n1_; have GW710 := n2_; have GE710 := n3_; clear n0_ n1_ n2_ n3_; clear hb hbox hg) | ((with_reducible refine gate_dst (N := 3) rfl ?_); refine box_event ?hg (N := 3) ?hd (cs := #[.bool a1_0, .int .u64 a1_1, .int .u64 a1_2, .int .u64 a1_3, .int .u64 a1_4]) (t := 27) ?hr ?_; (case hd => rfl); (case hg => rfl); (case hr => first | (go_simp; done) | (go_simp; rfl)); intro gb711 hg w166 hbox hb; have n0_ := bb BK710 hb; have n1_ := Aside0.mk (below_step (by repeat (first | (with_reducible first | exact HB.out | apply qa | apply qn | apply qd | refine qs ?_ GE710.out) | exact HB.out)) hb); have n2_ := Aside0.mk (hbox); have n3_ := bgw HB hg; have n4_ := bgw HB hg; have n5_ := bnl BK710 hg; have n6_ := bng BK710 hg; clear BK710; clear HB; have BK710 := n0_; have HB := n1_; have BK711 := n2_; have GW711 := n3_; have GE711 := n4_; have NB710_711 := n5_; have NB711_710 := n6_; clear n0_ n1_ n2_ n3_ n4_ n5_ n6_; clear hb hbox hg; have hnb167 := NB710_711.out; have hnc167 := NB711_710.out; obtain ⟨hcz168_0, hcz168_1, hcz168_2, hcz168_3, hcz168_4⟩ := cl5 BK710.out; obtain ⟨hfz168_0, hfz168_1, hfz168_2, hfz168_3, hfz168_4⟩ := fr5 BK710.out; obtain ⟨hcz169_0, hcz169_1, hcz169_2, hcz169_3, hcz169_4⟩ := cl5 BK711.out; obtain ⟨hfz169_0, hfz169_1, hfz169_2, hfz169_3, hfz169_4⟩ := fr5 BK711.out) | ((with_reducible refine gate_callee (f := 23) rfl ?_); refine goesL_ (some 17) rfl rfl Try.func23 (by kernel_rfl) rfl #[.agg #[.bool a0_0, .int .u64 a0_1, .int .u64 a0_2, .int .u64 a0_3, .int .u64 a0_4], .agg #[.bool a1_0, .int .u64 a1_1, .int .u64 a1_2, .int .u64 a1_3, .int .u64 a1_4]] rfl (by (try simp only [List.map_toArray, List.map_cons, List.map_nil]); first | done | rfl | (simp only [List.length_drop, List.length_take]; rfl)) ?_; (with_reducible refine (wide_DivMod.calls k a0_0 a0_1 a0_2 a0_3 a0_4 a1_0 a1_1 a1_2 a1_3 a1_4 t712 t713 t714 t715 t716 t717 t718 t719 t720 t721 t722 _ A3.out).mono ?_); rintro e w170 ⟨rfl, hb⟩; refine ⟨_, rfl, ?_⟩; have n0_ := bb BK710 hb; have n1_ := bb BK711 hb; have n2_ := Aside0.mk (below_step (by repeat (first | (with_reducible first | exact HB.out | apply qa | apply qn | apply qd | refine qs ?_ GE710.out | refine qs ?_ GE711.out) | exact HB.out)) hb); clear BK710; clear BK711; clear HB; have BK710 := n0_; have BK711 := n1_; have HB := n2_; clear n0_ n1_ n2_; (try clear hb); (try clear hb2); (try clear hk); (try clear hi)) | ((with_reducible refine gate_dst (N := 5) rfl ?_); refine box_event ?hg (N := 5) ?hd (cs := #[.bool false, .int .u64 0, .int .u64 0, .int .u64 0, .int .u64 0]) (t := 27) ?hr ?_; (case hd => rfl); (case hg => rfl); (case hr => first | (go_simp; done) | (go_simp; rfl)); intro gb723 hg w171 hbox hb; have n0_ := bb BK710 hb; have n1_ := bb BK711 hb; have n2_ := Aside0.mk (below_step (by repeat (first | (with_reducible first | exact HB.out | apply qa | apply qn | apply qd | refine qs ?_ GE710.out | refine qs ?_ GE711.out) | exact HB.out)) hb); have n3_ := Aside0.mk (hbox); have n4_ := bgw HB hg; have n5_ := bgw HB hg; have n6_ := bnl BK710 hg; have n7_ := bng BK710 hg; have n8_ := bnl BK711 hg; have n9_ := bng BK711 hg; clear BK710; clear BK711; clear HB; have BK710 := n0_; have BK711 := n1_; have HB := n2_; have BK723 := n3_; have GW723 := n4_; have GE723 := n5_; have NB710_723 := n6_; have NB723_710 := n7_; have NB711_723 := n8_; have NB723_711 := n9_; clear n0_ n1_ n2_ n3_ n4_ n5_ n6_ n7_ n8_ n9_; clear hb hbox hg) | ((with_reducible refine gate_dst (N := 6) rfl ?_); refine box_event ?hg (N := 6) ?hd (cs := #[.bool false, .int .u64 0, .int .u64 0, .int .u64 0, .int .u64 0]) (t := 27) ?hr ?_; (case hd => rfl); (case hg => rfl); (case hr => first | (go_simp; done) | (go_simp; rfl)); intro gb724 hg w172 hbox hb; have n0_ := bb BK710 hb; have n1_ := bb BK711 hb; have n2_ := bb BK723 hb; have n3_ := Aside0.mk (below_step (by repeat (first | (with_reducible first | exact HB.out | apply qa | apply qn | apply qd | refine qs ?_ GE710.out | refine qs ?_ GE711.out | refine qs ?_ GE723.out) | exact HB.out)) hb); have n4_ := Aside0.mk (hbox); have n5_ := bgw HB hg; have n6_ := bgw HB hg; have n7_ := bnl BK710 hg; have n8_ := bng BK710 hg; have n9_ := bnl BK711 hg; have n10_ := bng BK711 hg; have n11_ := bnl BK723 hg; have n12_ := bng BK723 hg; clear BK710; clear BK711; clear BK723; clear HB; have BK710 := n0_; have BK711 := n1_; have BK723 := n2_; have HB := n3_; have BK724 := n4_; have GW724 := n5_; have GE724 := n6_; have NB710_724 := n7_; have NB724_710 := n8_; have NB711_724 := n9_; have NB724_711 := n10_; have NB723_724 := n11_; have NB724_723 := n12_; clear n0_ n1_ n2_ n3_ n4_ n5_ n6_ n7_ n8_ n9_ n10_ n11_ n12_; clear hb hbox hg; have hnb173 := NB723_710.out; have hnc173 := NB710_723.out; have hnb174 := NB723_711.out; have hnc174 := NB711_723.out; have hnb175 := NB723_724.out; have hnc175 := NB724_723.out; obtain ⟨hcz176_0, hcz176_1, hcz176_2, hcz176_3, hcz176_4⟩ := cl5 BK723.out; obtain ⟨hfz176_0, hfz176_1, hfz176_2, hfz176_3, hfz176_4⟩ := fr5 BK723.out; have hnb177 := NB724_710.out; have hnc177 := NB710_724.out; have hnb178 := NB724_711.out; have hnc178 := NB711_724.out; obtain ⟨hcz179_0, hcz179_1, hcz179_2, hcz179_3, hcz179_4⟩ := cl5 BK724.out; obtain ⟨hfz179_0, hfz179_1, hfz179_2, hfz179_3, hfz179_4⟩ := fr5 BK724.out; obtain ⟨hcz180_0, hcz180_1, hcz180_2, hcz180_3, hcz180_4⟩ := cl5 BK710.out; obtain ⟨hfz180_0, hfz180_1, hfz180_2, hfz180_3, hfz180_4⟩ := fr5 BK710.out) | ((with_reducible refine gate_callee (f := 24) rfl ?_); refine goesL_ (some 22) rfl rfl Try.func24 (by kernel_rfl) rfl #[.agg #[.bool a0_0, .int .u64 a0_1, .int .u64 a0_2, .int .u64 a0_3, .int .u64 a0_4]] rfl (by (try simp only [List.map_toArray, List.map_cons, List.map_nil]); first | done | rfl | (simp only [List.length_drop, List.length_take]; rfl)) ?_; (with_reducible refine (parquetref01_Of.calls k a0_0 a0_1 a0_2 a0_3 a0_4 t725 t726 _ A4.out).mono ?_); rintro e w181 ⟨v727, rfl, ho0, hb⟩; refine ⟨_, rfl, ?_⟩; have n0_ := Aside0.mk (Kd.V_lower (Kd.V_mono (ok' := fun k_ => k_ ≠ gb710 ∧ k_ ≠ gb711 ∧ k_ ≠ gb723 ∧ k_ ≠ gb724) ho0 (fun k_ hk_ => ⟨(Kd.freshB (g := gb710) (o := .cells #[.bool a0_0, .int .u64 a0_1, .int .u64 a0_2, .int .u64 a0_3, .int .u64 a0_4] 27 (0, 0)) (by repeat (with_reducible first | exact lb BK710.out | refine blk_far ?_ NB710_724.out _ | refine blk_far ?_ NB710_723.out _ | refine cn ?_ _ | refine cd ?_ | refine ca ?_ _)) k_ hk_), (Kd.freshB (g := gb711) (o := .cells #[.bool a1_0, .int .u64 a1_1, .int .u64 a1_2, .int .u64 a1_3, .int .u64 a1_4] 27 (0, 0)) (by repeat (with_reducible first | exact lb BK711.out | refine blk_far ?_ NB711_724.out _ | refine blk_far ?_ NB711_723.out _ | refine cn ?_ _ | refine cd ?_ | refine ca ?_ _)) k_ hk_), (Kd.freshB (g := gb723) (o := .cells #[.bool t712, .int .u64 t713, .int .u64 t714, .int .u64 t715, .int .u64 t716] 27 (0, 0)) (by repeat (with_reducible first | exact bp5 (lb BK723.out) | refine blk_far ?_ NB723_724.out _ | refine cn ?_ _ | refine cd ?_ | refine ca ?_ _)) k_ hk_), (Kd.freshB (g := gb724) (o := .cells #[.bool t717, .int .u64 t718, .int .u64 t719, .int .u64 t720, .int .u64 t721] 27 (0, 0)) (by (with_reducible repeat (first | refine cn ?_ _ | refine cd ?_ | refine ca ?_ _)); refine blk_put (cs := #[.bool t717, .int .u64 t718, .int .u64 t719, .int .u64 t720, .int .u64 0]) ?_ 4 _ rfl; (with_reducible repeat (first | refine cn ?_ _ | refine cd ?_ | refine ca ?_ _)); refine blk_put (cs := #[.bool t717, .int .u64 t718, .int .u64 t719, .int .u64 0, .int .u64 0]) ?_ 3 _ rfl; (with_reducible repeat (first | refine cn ?_ _ | refine cd ?_ | refine ca ?_ _)); refine blk_put (cs := #[.bool t717, .int .u64 t718, .int .u64 0, .int .u64 0, .int .u64 0]) ?_ 2 _ rfl; (with_reducible repeat (first | refine cn ?_ _ | refine cd ?_ | refine ca ?_ _)); refine blk_put (cs := #[.bool t717, .int .u64 0, .int .u64 0, .int .u64 0, .int .u64 0]) ?_ 1 _ rfl; (with_reducible repeat (first | refine cn ?_ _ | refine cd ?_ | refine ca ?_ _)); refine blk_put (cs := #[.bool false, .int .u64 0, .int .u64 0, .int .u64 0, .int .u64 0]) ?_ 0 _ rfl; (with_reducible repeat (first | refine cn ?_ _ | refine cd ?_ | refine ca ?_ _)); refine blk_far ?_ NB724_723.out _; (with_reducible repeat (first | refine cn ?_ _ | refine cd ?_ | refine ca ?_ _)); refine blk_far ?_ NB724_723.out _; (with_reducible repeat (first | refine cn ?_ _ | refine cd ?_ | refine ca ?_ _)); refine blk_far ?_ NB724_723.out _; (with_reducible repeat (first | refine cn ?_ _ | refine cd ?_ | refine ca ?_ _)); refine blk_far ?_ NB724_723.out _; (with_reducible repeat (first | refine cn ?_ _ | refine cd ?_ | refine ca ?_ _)); refine blk_far ?_ NB724_723.out _; (with_reducible repeat (first | refine cn ?_ _ | refine cd ?_ | refine ca ?_ _)); exact BK724.out) k_ hk_)⟩)) (below_size (by repeat (first | (with_reducible first | exact HB.out | apply qa | apply qn | apply qd | refine qs ?_ GE710.out | refine qs ?_ GE711.out | refine qs ?_ GE723.out | refine qs ?_ GE724.out) | exact HB.out)))); have n1_ := Aside0.mk (blk_below (g := gb710) (o := .cells #[.bool a0_0, .int .u64 a0_1, .int .u64 a0_2, .int .u64 a0_3, .int .u64 a0_4] 27 (0, 0)) (by repeat (with_reducible first | exact lb BK710.out | refine blk_far ?_ NB710_724.out _ | refine blk_far ?_ NB710_723.out _ | refine cn ?_ _ | refine cd ?_ | refine ca ?_ _)) hb); have n2_ := Aside0.mk (blk_below (g := gb711) (o := .cells #[.bool a1_0, .int .u64 a1_1, .int .u64 a1_2, .int .u64 a1_3, .int .u64 a1_4] 27 (0, 0)) (by repeat (with_reducible first | exact lb BK711.out | refine blk_far ?_ NB711_724.out _ | refine blk_far ?_ NB711_723.out _ | refine cn ?_ _ | refine cd ?_ | refine ca ?_ _)) hb); have n3_ := Aside0.mk (blk_below (g := gb723) (o := .cells #[.bool t712, .int .u64 t713, .int .u64 t714, .int .u64 t715, .int .u64 t716] 27 (0, 0)) (by repeat (with_reducible first | exact bp5 (lb BK723.out) | refine blk_far ?_ NB723_724.out _ | refine cn ?_ _ | refine cd ?_ | refine ca ?_ _)) hb); have n4_ := Aside0.mk (blk_below (g := gb724) (o := .cells #[.bool t717, .int .u64 t718, .int .u64 t719, .int .u64 t720, .int .u64 t721] 27 (0, 0)) (by (with_reducible repeat (first | refine cn ?_ _ | refine cd ?_ | refine ca ?_ _)); refine blk_put (cs := #[.bool t717, .int .u64 t718, .int .u64 t719, .int .u64 t720, .int .u64 0]) ?_ 4 _ rfl; (with_reducible repeat (first | refine cn ?_ _ | refine cd ?_ | refine ca ?_ _)); refine blk_put (cs := #[.bool t717, .int .u64 t718, .int .u64 t719, .int .u64 0, .int .u64 0]) ?_ 3 _ rfl; (with_reducible repeat (first | refine cn ?_ _ | refine cd ?_ | refine ca ?_ _)); refine blk_put (cs := #[.bool t717, .int .u64 t718, .int .u64 0, .int .u64 0, .int .u64 0]) ?_ 2 _ rfl; (with_reducible repeat (first | refine cn ?_ _ | refine cd ?_ | refine ca ?_ _)); refine blk_put (cs := #[.bool t717, .int .u64 0, .int .u64 0, .int .u64 0, .int .u64 0]) ?_ 1 _ rfl; (with_reducible repeat (first | refine cn ?_ _ | refine cd ?_ | refine ca ?_ _)); refine blk_put (cs := #[.bool false, .int .u64 0, .int .u64 0, .int .u64 0, .int .u64 0]) ?_ 0 _ rfl; (with_reducible repeat (first | refine cn ?_ _ | refine cd ?_ | refine ca ?_ _)); refine blk_far ?_ NB724_723.out _; (with_reducible repeat (first | refine cn ?_ _ | refine cd ?_ | refine ca ?_ _)); refine blk_far ?_ NB724_723.out _; (with_reducible repeat (first | refine cn ?_ _ | refine cd ?_ | refine ca ?_ _)); refine blk_far ?_ NB724_723.out _; (with_reducible repeat (first | refine cn ?_ _ | refine cd ?_ | refine ca ?_ _)); refine blk_far ?_ NB724_723.out _; (with_reducible repeat (first | refine cn ?_ _ | refine cd ?_ | refine ca ?_ _)); refine blk_far ?_ NB724_723.out _; (with_reducible repeat (first | refine cn ?_ _ | refine cd ?_ | refine ca ?_ _)); exact BK724.out) hb); have n5_ := Aside0.mk (below_step (by repeat (first | (with_reducible first | exact HB.out | apply qa | apply qn | apply qd | refine qs ?_ GE710.out | refine qs ?_ GE711.out | refine qs ?_ GE723.out | refine qs ?_ GE724.out) | exact HB.out)) hb); clear BK710; clear BK711; clear BK723; clear BK724; clear HB; have HO728 := n0_; have BK710 := n1_; have BK711 := n2_; have BK723 := n3_; have BK724 := n4_; have HB := n5_; clear n0_ n1_ n2_ n3_ n4_ n5_; (try clear hb); (try clear hb2); (try clear hk); (try clear hi); (try clear ho0)) | ((with_reducible refine gate_dst (N := 8) rfl ?_); refine box_event ?hg (N := 8) ?hd (cs := #[.bool false, .slice none 0 0]) (t := 38) ?hr ?_; (case hd => rfl); (case hg => rfl); (case hr => first | (go_simp; done) | (go_simp; rfl)); intro gb729 hg w182 hbox hb; have n0_ := Aside0.mk (Kd.V_below (Kd.V_elderB (by (with_reducible repeat (first | apply Kd.V_alloc | apply Kd.V_drewN | apply Kd.V_drew)); exact HO728.out) gb729 (Nat.le_of_eq hg.symm)) hb); have n1_ := bb BK710 hb; have n2_ := bb BK711 hb; have n3_ := bb BK723 hb; have n4_ := bb BK724 hb; have n5_ := Aside0.mk (below_step (by repeat (first | (with_reducible first | exact HB.out | apply qa | apply qn | apply qd | refine qs ?_ GE710.out | refine qs ?_ GE711.out | refine qs ?_ GE723.out | refine qs ?_ GE724.out) | exact HB.out)) hb); have n6_ := Aside0.mk (hbox); have n7_ := bgw HB hg; have n8_ := bgw HB hg; have n9_ := bnl BK710 hg; have n10_ := bng BK710 hg; have n11_ := bnl BK711 hg; have n12_ := bng BK711 hg; have n13_ := bnl BK723 hg; have n14_ := bng BK723 hg; have n15_ := bnl BK724 hg; have n16_ := bng BK724 hg; clear HO728; clear BK710; clear BK711; clear BK723; clear BK724; clear HB; have HO728 := n0_; have BK710 := n1_; have BK711 := n2_; have BK723 := n3_; have BK724 := n4_; have HB := n5_; have BK729 := n6_; have GW729 := n7_; have GE729 := n8_; have NB710_729 := n9_; have NB729_710 := n10_; have NB711_729 := n11_; have NB729_711 := n12_; have NB723_729 := n13_; have NB729_723 := n14_; have NB724_729 := n15_; have NB729_724 := n16_; clear n0_ n1_ n2_ n3_ n4_ n5_ n6_ n7_ n8_ n9_ n10_ n11_ n12_ n13_ n14_ n15_ n16_; clear hb hbox hg; have hnb183 := NB729_710.out; have hnc183 := NB710_729.out; have hnb184 := NB729_711.out; have hnc184 := NB711_729.out; have hnb185 := NB729_723.out; have hnc185 := NB723_729.out; have hnb186 := NB729_724.out; have hnc186 := NB724_729.out; obtain ⟨hcz187_0, hcz187_1⟩ := cl2 BK729.out; obtain ⟨hfz187_0, hfz187_1⟩ := fr2 BK729.out; obtain ⟨Ao188, co188, eo188⟩ := Kd.V_slice HO728.out; subst eo188; obtain ⟨hcz189_0, hcz189_1, hcz189_2, hcz189_3, hcz189_4⟩ := cl5 BK711.out; obtain ⟨hfz189_0, hfz189_1, hfz189_2, hfz189_3, hfz189_4⟩ := fr5 BK711.out) | ((with_reducible refine gate_callee (f := 24) rfl ?_); refine goesL_ (some 24) rfl rfl Try.func24 (by kernel_rfl) rfl #[.agg #[.bool a1_0, .int .u64 a1_1, .int .u64 a1_2, .int .u64 a1_3, .int .u64 a1_4]] rfl (by (try simp only [List.map_toArray, List.map_cons, List.map_nil]); first | done | rfl | (simp only [List.length_drop, List.length_take]; rfl)) ?_; (with_reducible refine (parquetref01_Of.calls k a1_0 a1_1 a1_2 a1_3 a1_4 t730 t731 _ A5.out).mono ?_); rintro e w190 ⟨v732, rfl, ho0, hb⟩; refine ⟨_, rfl, ?_⟩; have n0_ := Aside0.mk (Kd.V_below (by (with_reducible repeat (first | apply Kd.V_alloc | apply Kd.V_drewN | apply Kd.V_drew)); exact (Kd.V_mono (Kd.V_far (p := ⟨gb729, 1, none⟩) (Kd.V_far (p := ⟨gb729, 0, none⟩) (Kd.V_mono HO728.out (fun k_ hk => (⟨hk, hk.2⟩ : _ ∧ k_ ≠ gb729))) (fun _ hk => hk.2) (.bool t725)) (fun _ hk => hk.2) (.slice Ao188 t726.length co188)) (fun _ h_ => h_.1))) hb); have n1_ := Aside0.mk (Kd.V_lower (Kd.V_mono (ok' := fun k_ => k_ ≠ gb710 ∧ k_ ≠ gb711 ∧ k_ ≠ gb723 ∧ k_ ≠ gb724 ∧ k_ ≠ gb729) ho0 (fun k_ hk_ => ⟨(Kd.freshB (g := gb710) (o := .cells #[.bool a0_0, .int .u64 a0_1, .int .u64 a0_2, .int .u64 a0_3, .int .u64 a0_4] 27 (0, 0)) (by repeat (with_reducible first | exact lb BK710.out | refine blk_far ?_ NB710_729.out _ | refine cn ?_ _ | refine cd ?_ | refine ca ?_ _)) k_ hk_), (Kd.freshB (g := gb711) (o := .cells #[.bool a1_0, .int .u64 a1_1, .int .u64 a1_2, .int .u64 a1_3, .int .u64 a1_4] 27 (0, 0)) (by repeat (with_reducible first | exact lb BK711.out | refine blk_far ?_ NB711_729.out _ | refine cn ?_ _ | refine cd ?_ | refine ca ?_ _)) k_ hk_), (Kd.freshB (g := gb723) (o := .cells #[.bool t712, .int .u64 t713, .int .u64 t714, .int .u64 t715, .int .u64 t716] 27 (0, 0)) (by repeat (with_reducible first | exact lb BK723.out | refine blk_far ?_ NB723_729.out _ | refine cn ?_ _ | refine cd ?_ | refine ca ?_ _)) k_ hk_), (Kd.freshB (g := gb724) (o := .cells #[.bool t717, .int .u64 t718, .int .u64 t719, .int .u64 t720, .int .u64 t721] 27 (0, 0)) (by repeat (with_reducible first | exact lb BK724.out | refine blk_far ?_ NB724_729.out _ | refine cn ?_ _ | refine cd ?_ | refine ca ?_ _)) k_ hk_), (Kd.freshB (g := gb729) (o := .cells #[.bool t725, .slice Ao188 t726.length co188] 38 (0, 0)) (by (with_reducible repeat (first | refine cn ?_ _ | refine cd ?_ | refine ca ?_ _)); refine blk_put (cs := #[.bool t725, .slice none 0 0]) ?_ 1 _ rfl; (with_reducible repeat (first | refine cn ?_ _ | refine cd ?_ | refine ca ?_ _)); refine blk_put (cs := #[.bool false, .slice none 0 0]) ?_ 0 _ rfl; (with_reducible repeat (first | refine cn ?_ _ | refine cd ?_ | refine ca ?_ _)); exact BK729.out) k_ hk_)⟩)) (below_size (by repeat (first | (with_reducible first | exact HB.out | apply qa | apply qn | apply qd | refine qs ?_ GE710.out | refine qs ?_ GE711.out | refine qs ?_ GE723.out | refine qs ?_ GE724.out | refine qs ?_ GE729.out) | exact HB.out)))); have n2_ := Aside0.mk (blk_below (g := gb710) (o := .cells #[.bool a0_0, .int .u64 a0_1, .int .u64 a0_2, .int .u64 a0_3, .int .u64 a0_4] 27 (0, 0)) (by repeat (with_reducible first | exact lb BK710.out | refine blk_far ?_ NB710_729.out _ | refine cn ?_ _ | refine cd ?_ | refine ca ?_ _)) hb); have n3_ := Aside0.mk (blk_below (g := gb711) (o := .cells #[.bool a1_0, .int .u64 a1_1, .int .u64 a1_2, .int .u64 a1_3, .int .u64 a1_4] 27 (0, 0)) (by repeat (with_reducible first | exact lb BK711.out | refine blk_far ?_ NB711_729.out _ | refine cn ?_ _ | refine cd ?_ | refine ca ?_ _)) hb); have n4_ := Aside0.mk (blk_below (g := gb723) (o := .cells #[.bool t712, .int .u64 t713, .int .u64 t714, .int .u64 t715, .int .u64 t716] 27 (0, 0)) (by repeat (with_reducible first | exact lb BK723.out | refine blk_far ?_ NB723_729.out _ | refine cn ?_ _ | refine cd ?_ | refine ca ?_ _)) hb); have n5_ := Aside0.mk (blk_below (g := gb724) (o := .cells #[.bool t717, .int .u64 t718, .int .u64 t719, .int .u64 t720, .int .u64 t721] 27 (0, 0)) (by repeat (with_reducible first | exact lb BK724.out | refine blk_far ?_ NB724_729.out _ | refine cn ?_ _ | refine cd ?_ | refine ca ?_ _)) hb); have n6_ := Aside0.mk (blk_below (g := gb729) (o := .cells #[.bool t725, .slice Ao188 t726.length co188] 38 (0, 0)) (by (with_reducible repeat (first | refine cn ?_ _ | refine cd ?_ | refine ca ?_ _)); refine blk_put (cs := #[.bool t725, .slice none 0 0]) ?_ 1 _ rfl; (with_reducible repeat (first | refine cn ?_ _ | refine cd ?_ | refine ca ?_ _)); refine blk_put (cs := #[.bool false, .slice none 0 0]) ?_ 0 _ rfl; (with_reducible repeat (first | refine cn ?_ _ | refine cd ?_ | refine ca ?_ _)); exact BK729.out) hb); have n7_ := Aside0.mk (below_step (by repeat (first | (with_reducible first | exact HB.out | apply qa | apply qn | apply qd | refine qs ?_ GE710.out | refine qs ?_ GE711.out | refine qs ?_ GE723.out | refine qs ?_ GE724.out | refine qs ?_ GE729.out) | exact HB.out)) hb); clear HO728; clear BK710; clear BK711; clear BK723; clear BK724; clear BK729; clear HB; have HO728 := n0_; have HO733 := n1_; have BK710 := n2_; have BK711 := n3_; have BK723 := n4_; have BK724 := n5_; have BK729 := n6_; have HB := n7_; clear n0_ n1_ n2_ n3_ n4_ n5_ n6_ n7_; (try clear hb); (try clear hb2); (try clear hk); (try clear hi); (try clear ho0)) | ((with_reducible refine gate_dst (N := 9) rfl ?_); refine box_event ?hg (N := 9) ?hd (cs := #[.bool false, .slice none 0 0]) (t := 38) ?hr ?_; (case hd => rfl); (case hg => rfl); (case hr => first | (go_simp; done) | (go_simp; rfl)); intro gb734 hg w191 hbox hb; have n0_ := Aside0.mk (Kd.V_below (Kd.V_elderB (by (with_reducible repeat (first | apply Kd.V_alloc | apply Kd.V_drewN | apply Kd.V_drew)); exact HO728.out) gb734 (Nat.le_of_eq hg.symm)) hb); have n1_ := Aside0.mk (Kd.V_below (Kd.V_elderB (by (with_reducible repeat (first | apply Kd.V_alloc | apply Kd.V_drewN | apply Kd.V_drew)); exact HO733.out) gb734 (Nat.le_of_eq hg.symm)) hb); have n2_ := bb BK710 hb; have n3_ := bb BK711 hb; have n4_ := bb BK723 hb; have n5_ := bb BK724 hb; have n6_ := bb BK729 hb; have n7_ := Aside0.mk (below_step (by repeat (first | (with_reducible first | exact HB.out | apply qa | apply qn | apply qd | refine qs ?_ GE710.out | refine qs ?_ GE711.out | refine qs ?_ GE723.out | refine qs ?_ GE724.out | refine qs ?_ GE729.out) | exact HB.out)) hb); have n8_ := Aside0.mk (hbox); have n9_ := bgw HB hg; have n10_ := bgw HB hg; have n11_ := bnl BK710 hg; have n12_ := bng BK710 hg; have n13_ := bnl BK711 hg; have n14_ := bng BK711 hg; have n15_ := bnl BK723 hg; have n16_ := bng BK723 hg; have n17_ := bnl BK724 hg; have n18_ := bng BK724 hg; have n19_ := bnl BK729 hg; have n20_ := bng BK729 hg; clear HO728; clear HO733; clear BK710; clear BK711; clear BK723; clear BK724; clear BK729; clear HB; have HO728 := n0_; have HO733 := n1_; have BK710 := n2_; have BK711 := n3_; have BK723 := n4_; have BK724 := n5_; have BK729 := n6_; have HB := n7_; have BK734 := n8_; have GW734 := n9_; have GE734 := n10_; have NB710_734 := n11_; have NB734_710 := n12_; have NB711_734 := n13_; have NB734_711 := n14_; have NB723_734 := n15_; have NB734_723 := n16_; have NB724_734 := n17_; have NB734_724 := n18_; have NB729_734 := n19_; have NB734_729 := n20_; clear n0_ n1_ n2_ n3_ n4_ n5_ n6_ n7_ n8_ n9_ n10_ n11_ n12_ n13_ n14_ n15_ n16_ n17_ n18_ n19_ n20_; clear hb hbox hg; have hnb192 := NB734_710.out; have hnc192 := NB710_734.out; have hnb193 := NB734_711.out; have hnc193 := NB711_734.out; have hnb194 := NB734_723.out; have hnc194 := NB723_734.out; have hnb195 := NB734_724.out; have hnc195 := NB724_734.out; have hnb196 := NB734_729.out; have hnc196 := NB729_734.out; obtain ⟨hcz197_0, hcz197_1⟩ := cl2 BK734.out; obtain ⟨hfz197_0, hfz197_1⟩ := fr2 BK734.out; obtain ⟨Ao198, co198, eo198⟩ := Kd.V_slice HO733.out; subst eo198) | ((with_reducible refine gate_callee (f := 25) rfl ?_); refine goesL_ (some 26) rfl rfl Try.func25 (by kernel_rfl) rfl #[.agg #[.bool t730, .slice Ao198 t731.length co198]] rfl (by (try simp only [List.map_toArray, List.map_cons, List.map_nil]); first | done | rfl | (simp only [List.length_drop, List.length_take]; rfl)) ?_; (with_reducible refine (parquetref01_Num_Sign.calls t730 _ _ t731 t735 _ ?side1 ?side2 A6.out).mono ?_); (case side1 => refine (Kd.V_reads' (e := 3) (base := w.heap.size) (ok := fun k_ => ((k_ ≠ gb710 ∧ (k_ ≠ gb711 ∧ (k_ ≠ gb723 ∧ (k_ ≠ gb724 ∧ k_ ≠ gb729)))) ∧ k_ ≠ gb734)) (n := t731.length) (c := co198) ?_).2.2; exact (by (with_reducible repeat (first | apply Kd.V_alloc | apply Kd.V_drewN | apply Kd.V_drew)); exact (Kd.V_mono (Kd.V_far (p := ⟨gb734, 1, none⟩) (Kd.V_far (p := ⟨gb734, 0, none⟩) (Kd.V_mono HO733.out (fun k_ hk => (⟨hk, hk.2⟩ : _ ∧ k_ ≠ gb734))) (fun _ hk => hk.2) (.bool t730)) (fun _ hk => hk.2) (.slice Ao198 t731.length co198)) (fun _ h_ => h_.1)))); (case side2 => exact (Kd.V_reads' HO733.out).2.1); rintro e w199 ⟨rfl, hb⟩; refine ⟨_, rfl, ?_⟩; have n0_ := Aside0.mk (Kd.V_below (by (with_reducible repeat (first | apply Kd.V_alloc | apply Kd.V_drewN | apply Kd.V_drew)); exact (Kd.V_mono (Kd.V_far (p := ⟨gb734, 1, none⟩) (Kd.V_far (p := ⟨gb734, 0, none⟩) (Kd.V_mono HO728.out (fun k_ hk => (⟨hk, hk.2⟩ : _ ∧ k_ ≠ gb734))) (fun _ hk => hk.2) (.bool t730)) (fun _ hk => hk.2) (.slice Ao198 t731.length co198)) (fun _ h_ => h_.1))) hb); have n1_ := Aside0.mk (Kd.V_below (by (with_reducible repeat (first | apply Kd.V_alloc | apply Kd.V_drewN | apply Kd.V_drew)); exact (Kd.V_mono (Kd.V_far (p := ⟨gb734, 1, none⟩) (Kd.V_far (p := ⟨gb734, 0, none⟩) (Kd.V_mono HO733.out (fun k_ hk => (⟨hk, hk.2⟩ : _ ∧ k_ ≠ gb734))) (fun _ hk => hk.2) (.bool t730)) (fun _ hk => hk.2) (.slice Ao198 t731.length co198)) (fun _ h_ => h_.1))) hb); have n2_ := Aside0.mk (blk_below (g := gb710) (o := .cells #[.bool a0_0, .int .u64 a0_1, .int .u64 a0_2, .int .u64 a0_3, .int .u64 a0_4] 27 (0, 0)) (by repeat (with_reducible first | exact lb BK710.out | refine blk_far ?_ NB710_734.out _ | refine cn ?_ _ | refine cd ?_ | refine ca ?_ _)) hb); have n3_ := Aside0.mk (blk_below (g := gb711) (o := .cells #[.bool a1_0, .int .u64 a1_1, .int .u64 a1_2, .int .u64 a1_3, .int .u64 a1_4] 27 (0, 0)) (by repeat (with_reducible first | exact lb BK711.out | refine blk_far ?_ NB711_734.out _ | refine cn ?_ _ | refine cd ?_ | refine ca ?_ _)) hb); have n4_ := Aside0.mk (blk_below (g := gb723) (o := .cells #[.bool t712, .int .u64 t713, .int .u64 t714, .int .u64 t715, .int .u64 t716] 27 (0, 0)) (by repeat (with_reducible first | exact lb BK723.out | refine blk_far ?_ NB723_734.out _ | refine cn ?_ _ | refine cd ?_ | refine ca ?_ _)) hb); have n5_ := Aside0.mk (blk_below (g := gb724) (o := .cells #[.bool t717, .int .u64 t718, .int .u64 t719, .int .u64 t720, .int .u64 t721] 27 (0, 0)) (by repeat (with_reducible first | exact lb BK724.out | refine blk_far ?_ NB724_734.out _ | refine cn ?_ _ | refine cd ?_ | refine ca ?_ _)) hb); have n6_ := Aside0.mk (blk_below (g := gb729) (o := .cells #[.bool t725, .slice Ao188 t726.length co188] 38 (0, 0)) (by repeat (with_reducible first | exact lb BK729.out | refine blk_far ?_ NB729_734.out _ | refine cn ?_ _ | refine cd ?_ | refine ca ?_ _)) hb); have n7_ := Aside0.mk (blk_below (g := gb734) (o := .cells #[.bool t730, .slice Ao198 t731.length co198] 38 (0, 0)) (by (with_reducible repeat (first | refine cn ?_ _ | refine cd ?_ | refine ca ?_ _)); refine blk_put (cs := #[.bool t730, .slice none 0 0]) ?_ 1 _ rfl; (with_reducible repeat (first | refine cn ?_ _ | refine cd ?_ | refine ca ?_ _)); refine blk_put (cs := #[.bool false, .slice none 0 0]) ?_ 0 _ rfl; (with_reducible repeat (first | refine cn ?_ _ | refine cd ?_ | refine ca ?_ _)); exact BK734.out) hb); have n8_ := Aside0.mk (below_step (by repeat (first | (with_reducible first | exact HB.out | apply qa | apply qn | apply qd | refine qs ?_ GE710.out | refine qs ?_ GE711.out | refine qs ?_ GE723.out | refine qs ?_ GE724.out | refine qs ?_ GE729.out | refine qs ?_ GE734.out) | exact HB.out)) hb); clear HO728; clear HO733; clear BK710; clear BK711; clear BK723; clear BK724; clear BK729; clear BK734; clear HB; have HO728 := n0_; have HO733 := n1_; have BK710 := n2_; have BK711 := n3_; have BK723 := n4_; have BK724 := n5_; have BK729 := n6_; have BK734 := n7_; have HB := n8_; clear n0_ n1_ n2_ n3_ n4_ n5_ n6_ n7_ n8_; (try clear hb); (try clear hb2); (try clear hk); (try clear hi); obtain ⟨hcz200_0, hcz200_1, hcz200_2, hcz200_3, hcz200_4⟩ := cl5 BK724.out; obtain ⟨hfz200_0, hfz200_1, hfz200_2, hfz200_3, hfz200_4⟩ := fr5 BK724.out) | ((with_reducible refine gate_callee (f := 24) rfl ?_); refine goesL_ (some 71) rfl rfl Try.func24 (by kernel_rfl) rfl #[.agg #[.bool t717, .int .u64 t718, .int .u64 t719, .int .u64 t720, .int .u64 t721]] rfl (by (try simp only [List.map_toArray, List.map_cons, List.map_nil]); first | done | rfl | (simp only [List.length_drop, List.length_take]; rfl)) ?_; (with_reducible refine (parquetref01_Of.calls k t717 t718 t719 t720 t721 t750 t751 _ A162.out).mono ?_); rintro e w201 ⟨v752, rfl, ho0, hb⟩; refine ⟨_, rfl, ?_⟩; have n0_ := Aside0.mk (Kd.V_below (by (with_reducible repeat (first | apply Kd.V_alloc | apply Kd.V_drewN | apply Kd.V_drew)); exact HO728.out) hb); have n1_ := Aside0.mk (Kd.V_below (by (with_reducible repeat (first | apply Kd.V_alloc | apply Kd.V_drewN | apply Kd.V_drew)); exact HO733.out) hb); have n2_ := Aside0.mk (Kd.V_lower (Kd.V_mono (ok' := fun k_ => k_ ≠ gb710 ∧ k_ ≠ gb711 ∧ k_ ≠ gb723 ∧ k_ ≠ gb724 ∧ k_ ≠ gb729 ∧ k_ ≠ gb734) ho0 (fun k_ hk_ => ⟨(Kd.freshB (g := gb710) (o := .cells #[.bool a0_0, .int .u64 a0_1, .int .u64 a0_2, .int .u64 a0_3, .int .u64 a0_4] 27 (0, 0)) (by exact lb BK710.out) k_ hk_), (Kd.freshB (g := gb711) (o := .cells #[.bool a1_0, .int .u64 a1_1, .int .u64 a1_2, .int .u64 a1_3, .int .u64 a1_4] 27 (0, 0)) (by exact lb BK711.out) k_ hk_), (Kd.freshB (g := gb723) (o := .cells #[.bool t712, .int .u64 t713, .int .u64 t714, .int .u64 t715, .int .u64 t716] 27 (0, 0)) (by exact lb BK723.out) k_ hk_), (Kd.freshB (g := gb724) (o := .cells #[.bool t717, .int .u64 t718, .int .u64 t719, .int .u64 t720, .int .u64 t721] 27 (0, 0)) (by exact lb BK724.out) k_ hk_), (Kd.freshB (g := gb729) (o := .cells #[.bool t725, .slice Ao188 t726.length co188] 38 (0, 0)) (by exact lb BK729.out) k_ hk_), (Kd.freshB (g := gb734) (o := .cells #[.bool t730, .slice Ao198 t731.length co198] 38 (0, 0)) (by exact lb BK734.out) k_ hk_)⟩)) (below_size (by repeat (first | (with_reducible first | exact HB.out | apply qa | apply qn | apply qd | refine qs ?_ GE710.out | refine qs ?_ GE711.out | refine qs ?_ GE723.out | refine qs ?_ GE724.out | refine qs ?_ GE729.out | refine qs ?_ GE734.out) | exact HB.out)))); have n3_ := bb BK710 hb; have n4_ := bb BK711 hb; have n5_ := bb BK723 hb; have n6_ := bb BK724 hb; have n7_ := bb BK729 hb; have n8_ := bb BK734 hb; have n9_ := Aside0.mk (below_step (by repeat (first | (with_reducible first | exact HB.out | apply qa | apply qn | apply qd | refine qs ?_ GE710.out | refine qs ?_ GE711.out | refine qs ?_ GE723.out | refine qs ?_ GE724.out | refine qs ?_ GE729.out | refine qs ?_ GE734.out) | exact HB.out)) hb); clear HO728; clear HO733; clear BK710; clear BK711; clear BK723; clear BK724; clear BK729; clear BK734; clear HB; have HO728 := n0_; have HO733 := n1_; have HO753 := n2_; have BK710 := n3_; have BK711 := n4_; have BK723 := n5_; have BK724 := n6_; have BK729 := n7_; have BK734 := n8_; have HB := n9_; clear n0_ n1_ n2_ n3_ n4_ n5_ n6_ n7_ n8_ n9_; (try clear hb); (try clear hb2); (try clear hk); (try clear hi); (try clear ho0)) | ((with_reducible refine gate_dst (N := 11) rfl ?_); refine box_event ?hg (N := 11) ?hd (cs := #[.bool false, .slice none 0 0]) (t := 38) ?hr ?_; (case hd => rfl); (case hg => rfl); (case hr => first | (go_simp; done) | (go_simp; rfl)); intro gb754 hg w202 hbox hb; have n0_ := Aside0.mk (Kd.V_below (Kd.V_elderB (by (with_reducible repeat (first | apply Kd.V_alloc | apply Kd.V_drewN | apply Kd.V_drew)); exact HO728.out) gb754 (Nat.le_of_eq hg.symm)) hb); have n1_ := Aside0.mk (Kd.V_below (Kd.V_elderB (by (with_reducible repeat (first | apply Kd.V_alloc | apply Kd.V_drewN | apply Kd.V_drew)); exact HO733.out) gb754 (Nat.le_of_eq hg.symm)) hb); have n2_ := Aside0.mk (Kd.V_below (Kd.V_elderB (by (with_reducible repeat (first | apply Kd.V_alloc | apply Kd.V_drewN | apply Kd.V_drew)); exact HO753.out) gb754 (Nat.le_of_eq hg.symm)) hb); have n3_ := bb BK710 hb; have n4_ := bb BK711 hb; have n5_ := bb BK723 hb; have n6_ := bb BK724 hb; have n7_ := bb BK729 hb; have n8_ := bb BK734 hb; have n9_ := Aside0.mk (below_step (by repeat (first | (with_reducible first | exact HB.out | apply qa | apply qn | apply qd | refine qs ?_ GE710.out | refine qs ?_ GE711.out | refine qs ?_ GE723.out | refine qs ?_ GE724.out | refine qs ?_ GE729.out | refine qs ?_ GE734.out) | exact HB.out)) hb); have n10_ := Aside0.mk (hbox); have n11_ := bgw HB hg; have n12_ := bgw HB hg; have n13_ := bnl BK710 hg; have n14_ := bng BK710 hg; have n15_ := bnl BK711 hg; have n16_ := bng BK711 hg; have n17_ := bnl BK723 hg; have n18_ := bng BK723 hg; have n19_ := bnl BK724 hg; have n20_ := bng BK724 hg; have n21_ := bnl BK729 hg; have n22_ := bng BK729 hg; have n23_ := bnl BK734 hg; have n24_ := bng BK734 hg; clear HO728; clear HO733; clear HO753; clear BK710; clear BK711; clear BK723; clear BK724; clear BK729; clear BK734; clear HB; have HO728 := n0_; have HO733 := n1_; have HO753 := n2_; have BK710 := n3_; have BK711 := n4_; have BK723 := n5_; have BK724 := n6_; have BK729 := n7_; have BK734 := n8_; have HB := n9_; have BK754 := n10_; have GW754 := n11_; have GE754 := n12_; have NB710_754 := n13_; have NB754_710 := n14_; have NB711_754 := n15_; have NB754_711 := n16_; have NB723_754 := n17_; have NB754_723 := n18_; have NB724_754 := n19_; have NB754_724 := n20_; have NB729_754 := n21_; have NB754_729 := n22_; have NB734_754 := n23_; have NB754_734 := n24_; clear n0_ n1_ n2_ n3_ n4_ n5_ n6_ n7_ n8_ n9_ n10_ n11_ n12_ n13_ n14_ n15_ n16_ n17_ n18_ n19_ n20_ n21_ n22_ n23_ n24_; clear hb hbox hg; have hnb203 := NB754_710.out; have hnc203 := NB710_754.out; have hnb204 := NB754_711.out; have hnc204 := NB711_754.out; have hnb205 := NB754_723.out; have hnc205 := NB723_754.out; have hnb206 := NB754_724.out; have hnc206 := NB724_754.out; have hnb207 := NB754_729.out; have hnc207 := NB729_754.out; have hnb208 := NB754_734.out; have hnc208 := NB734_754.out; obtain ⟨hcz209_0, hcz209_1⟩ := cl2 BK754.out; obtain ⟨hfz209_0, hfz209_1⟩ := fr2 BK754.out; obtain ⟨Ao210, co210, eo210⟩ := Kd.V_slice HO753.out; subst eo210; obtain ⟨hcz211_0, hcz211_1⟩ := cl2 BK734.out; obtain ⟨hfz211_0, hfz211_1⟩ := fr2 BK734.out) | ((with_reducible refine gate_dst (N := 12) rfl ?_); refine box_event ?hg (N := 12) ?hd (cs := #[.bool false, .slice none 0 0]) (t := 38) ?hr ?_; (case hd => rfl); (case hg => rfl); (case hr => first | (go_simp; done) | (go_simp; rfl)); intro gb755 hg w212 hbox hb; have n0_ := Aside0.mk (Kd.V_below (Kd.V_elderB (by (with_reducible repeat (first | apply Kd.V_alloc | apply Kd.V_drewN | apply Kd.V_drew)); exact (Kd.V_mono (Kd.V_far (p := ⟨gb754, 1, none⟩) (Kd.V_far (p := ⟨gb754, 0, none⟩) (Kd.V_mono HO728.out (fun k_ hk => (⟨hk, hk.2⟩ : _ ∧ k_ ≠ gb754))) (fun _ hk => hk.2) (.bool t750)) (fun _ hk => hk.2) (.slice Ao210 t751.length co210)) (fun _ h_ => h_.1))) gb755 (Nat.le_of_eq hg.symm)) hb); have n1_ := Aside0.mk (Kd.V_below (Kd.V_elderB (by (with_reducible repeat (first | apply Kd.V_alloc | apply Kd.V_drewN | apply Kd.V_drew)); exact (Kd.V_mono (Kd.V_far (p := ⟨gb754, 1, none⟩) (Kd.V_far (p := ⟨gb754, 0, none⟩) (Kd.V_mono HO733.out (fun k_ hk => (⟨hk, hk.2⟩ : _ ∧ k_ ≠ gb754))) (fun _ hk => hk.2) (.bool t750)) (fun _ hk => hk.2) (.slice Ao210 t751.length co210)) (fun _ h_ => h_.1))) gb755 (Nat.le_of_eq hg.symm)) hb); have n2_ := Aside0.mk (Kd.V_below (Kd.V_elderB (by (with_reducible repeat (first | apply Kd.V_alloc | apply Kd.V_drewN | apply Kd.V_drew)); exact (Kd.V_mono (Kd.V_far (p := ⟨gb754, 1, none⟩) (Kd.V_far (p := ⟨gb754, 0, none⟩) (Kd.V_mono HO753.out (fun k_ hk => (⟨hk, hk.2⟩ : _ ∧ k_ ≠ gb754))) (fun _ hk => hk.2) (.bool t750)) (fun _ hk => hk.2) (.slice Ao210 t751.length co210)) (fun _ h_ => h_.1))) gb755 (Nat.le_of_eq hg.symm)) hb); have n3_ := Aside0.mk (blk_below (g := gb710) (o := .cells #[.bool a0_0, .int .u64 a0_1, .int .u64 a0_2, .int .u64 a0_3, .int .u64 a0_4] 27 (0, 0)) (by repeat (with_reducible first | exact lb BK710.out | refine blk_far ?_ NB710_754.out _ | refine cn ?_ _ | refine cd ?_ | refine ca ?_ _)) hb); have n4_ := Aside0.mk (blk_below (g := gb711) (o := .cells #[.bool a1_0, .int .u64 a1_1, .int .u64 a1_2, .int .u64 a1_3, .int .u64 a1_4] 27 (0, 0)) (by repeat (with_reducible first | exact lb BK711.out | refine blk_far ?_ NB711_754.out _ | refine cn ?_ _ | refine cd ?_ | refine ca ?_ _)) hb); have n5_ := Aside0.mk (blk_below (g := gb723) (o := .cells #[.bool t712, .int .u64 t713, .int .u64 t714, .int .u64 t715, .int .u64 t716] 27 (0, 0)) (by repeat (with_reducible first | exact lb BK723.out | refine blk_far ?_ NB723_754.out _ | refine cn ?_ _ | refine cd ?_ | refine ca ?_ _)) hb); have n6_ := Aside0.mk (blk_below (g := gb724) (o := .cells #[.bool t717, .int .u64 t718, .int .u64 t719, .int .u64 t720, .int .u64 t721] 27 (0, 0)) (by repeat (with_reducible first | exact lb BK724.out | refine blk_far ?_ NB724_754.out _ | refine cn ?_ _ | refine cd ?_ | refine ca ?_ _)) hb); have n7_ := Aside0.mk (blk_below (g := gb729) (o := .cells #[.bool t725, .slice Ao188 t726.length co188] 38 (0, 0)) (by repeat (with_reducible first | exact lb BK729.out | refine blk_far ?_ NB729_754.out _ | refine cn ?_ _ | refine cd ?_ | refine ca ?_ _)) hb); have n8_ := Aside0.mk (blk_below (g := gb734) (o := .cells #[.bool t730, .slice Ao198 t731.length co198] 38 (0, 0)) (by repeat (with_reducible first | exact lb BK734.out | refine blk_far ?_ NB734_754.out _ | refine cn ?_ _ | refine cd ?_ | refine ca ?_ _)) hb); have n9_ := Aside0.mk (blk_below (g := gb754) (o := .cells #[.bool t750, .slice Ao210 t751.length co210] 38 (0, 0)) (by (with_reducible repeat (first | refine cn ?_ _ | refine cd ?_ | refine ca ?_ _)); refine blk_put (cs := #[.bool t750, .slice none 0 0]) ?_ 1 _ rfl; (with_reducible repeat (first | refine cn ?_ _ | refine cd ?_ | refine ca ?_ _)); refine blk_put (cs := #[.bool false, .slice none 0 0]) ?_ 0 _ rfl; (with_reducible repeat (first | refine cn ?_ _ | refine cd ?_ | refine ca ?_ _)); exact BK754.out) hb); have n10_ := Aside0.mk (below_step (by repeat (first | (with_reducible first | exact HB.out | apply qa | apply qn | apply qd | refine qs ?_ GE710.out | refine qs ?_ GE711.out | refine qs ?_ GE723.out | refine qs ?_ GE724.out | refine qs ?_ GE729.out | refine qs ?_ GE734.out | refine qs ?_ GE754.out) | exact HB.out)) hb); have n11_ := Aside0.mk (hbox); have n12_ := bgw HB hg; have n13_ := bgw HB hg; have n14_ := Aside0.mk ((by rw [hg]; exact Nat.ne_of_lt (blk_lt (g := gb710) (o := .cells #[.bool a0_0, .int .u64 a0_1, .int .u64 a0_2, .int .u64 a0_3, .int .u64 a0_4] 27 (0, 0)) (by repeat (with_reducible first | exact lb BK710.out | refine blk_far ?_ NB710_754.out _ | refine cn ?_ _ | refine cd ?_ | refine ca ?_ _))) : gb710 ≠ gb755)); have n15_ := Aside0.mk ((by rw [hg]; exact Nat.ne_of_gt (blk_lt (g := gb710) (o := .cells #[.bool a0_0, .int .u64 a0_1, .int .u64 a0_2, .int .u64 a0_3, .int .u64 a0_4] 27 (0, 0)) (by repeat (with_reducible first | exact lb BK710.out | refine blk_far ?_ NB710_754.out _ | refine cn ?_ _ | refine cd ?_ | refine ca ?_ _))) : gb755 ≠ gb710)); have n16_ := Aside0.mk ((by rw [hg]; exact Nat.ne_of_lt (blk_lt (g := gb711) (o := .cells #[.bool a1_0, .int .u64 a1_1, .int .u64 a1_2, .int .u64 a1_3, .int .u64 a1_4] 27 (0, 0)) (by repeat (with_reducible first | exact lb BK711.out | refine blk_far ?_ NB711_754.out _ | refine cn ?_ _ | refine cd ?_ | refine ca ?_ _))) : gb711 ≠ gb755)); have n17_ := Aside0.mk ((by rw [hg]; exact Nat.ne_of_gt (blk_lt (g := gb711) (o := .cells #[.bool a1_0, .int .u64 a1_1, .int .u64 a1_2, .int .u64 a1_3, .int .u64 a1_4] 27 (0, 0)) (by repeat (with_reducible first | exact lb BK711.out | refine blk_far ?_ NB711_754.out _ | refine cn ?_ _ | refine cd ?_ | refine ca ?_ _))) : gb755 ≠ gb711)); have n18_ := Aside0.mk ((by rw [hg]; exact Nat.ne_of_lt (blk_lt (g := gb723) (o := .cells #[.bool t712, .int .u64 t713, .int .u64 t714, .int .u64 t715, .int .u64 t716] 27 (0, 0)) (by repeat (with_reducible first | exact lb BK723.out | refine blk_far ?_ NB723_754.out _ | refine cn ?_ _ | refine cd ?_ | refine ca ?_ _))) : gb723 ≠ gb755)); have n19_ := Aside0.mk ((by rw [hg]; exact Nat.ne_of_gt (blk_lt (g := gb723) (o := .cells #[.bool t712, .int .u64 t713, .int .u64 t714, .int .u64 t715, .int .u64 t716] 27 (0, 0)) (by repeat (with_reducible first | exact lb BK723.out | refine blk_far ?_ NB723_754.out _ | refine cn ?_ _ | refine cd ?_ | refine ca ?_ _))) : gb755 ≠ gb723)); have n20_ := Aside0.mk ((by rw [hg]; exact Nat.ne_of_lt (blk_lt (g := gb724) (o := .cells #[.bool t717, .int .u64 t718, .int .u64 t719, .int .u64 t720, .int .u64 t721] 27 (0, 0)) (by repeat (with_reducible first | exact lb BK724.out | refine blk_far ?_ NB724_754.out _ | refine cn ?_ _ | refine cd ?_ | refine ca ?_ _))) : gb724 ≠ gb755)); have n21_ := Aside0.mk ((by rw [hg]; exact Nat.ne_of_gt (blk_lt (g := gb724) (o := .cells #[.bool t717, .int .u64 t718, .int .u64 t719, .int .u64 t720, .int .u64 t721] 27 (0, 0)) (by repeat (with_reducible first | exact lb BK724.out | refine blk_far ?_ NB724_754.out _ | refine cn ?_ _ | refine cd ?_ | refine ca ?_ _))) : gb755 ≠ gb724)); have n22_ := Aside0.mk ((by rw [hg]; exact Nat.ne_of_lt (blk_lt (g := gb729) (o := .cells #[.bool t725, .slice Ao188 t726.length co188] 38 (0, 0)) (by repeat (with_reducible first | exact lb BK729.out | refine blk_far ?_ NB729_754.out _ | refine cn ?_ _ | refine cd ?_ | refine ca ?_ _))) : gb729 ≠ gb755)); have n23_ := Aside0.mk ((by rw [hg]; exact Nat.ne_of_gt (blk_lt (g := gb729) (o := .cells #[.bool t725, .slice Ao188 t726.length co188] 38 (0, 0)) (by repeat (with_reducible first | exact lb BK729.out | refine blk_far ?_ NB729_754.out _ | refine cn ?_ _ | refine cd ?_ | refine ca ?_ _))) : gb755 ≠ gb729)); have n24_ := Aside0.mk ((by rw [hg]; exact Nat.ne_of_lt (blk_lt (g := gb734) (o := .cells #[.bool t730, .slice Ao198 t731.length co198] 38 (0, 0)) (by repeat (with_reducible first | exact lb BK734.out | refine blk_far ?_ NB734_754.out _ | refine cn ?_ _ | refine cd ?_ | refine ca ?_ _))) : gb734 ≠ gb755)); have n25_ := Aside0.mk ((by rw [hg]; exact Nat.ne_of_gt (blk_lt (g := gb734) (o := .cells #[.bool t730, .slice Ao198 t731.length co198] 38 (0, 0)) (by repeat (with_reducible first | exact lb BK734.out | refine blk_far ?_ NB734_754.out _ | refine cn ?_ _ | refine cd ?_ | refine ca ?_ _))) : gb755 ≠ gb734)); have n26_ := Aside0.mk ((by rw [hg]; exact Nat.ne_of_lt (blk_lt (g := gb754) (o := .cells #[.bool t750, .slice Ao210 t751.length co210] 38 (0, 0)) (by (with_reducible repeat (first | refine cn ?_ _ | refine cd ?_ | refine ca ?_ _)); refine blk_put (cs := #[.bool t750, .slice none 0 0]) ?_ 1 _ rfl; (with_reducible repeat (first | refine cn ?_ _ | refine cd ?_ | refine ca ?_ _)); refine blk_put (cs := #[.bool false, .slice none 0 0]) ?_ 0 _ rfl; (with_reducible repeat (first | refine cn ?_ _ | refine cd ?_ | refine ca ?_ _)); exact BK754.out)) : gb754 ≠ gb755)); have n27_ := Aside0.mk ((by rw [hg]; exact Nat.ne_of_gt (blk_lt (g := gb754) (o := .cells #[.bool t750, .slice Ao210 t751.length co210] 38 (0, 0)) (by (with_reducible repeat (first | refine cn ?_ _ | refine cd ?_ | refine ca ?_ _)); refine blk_put (cs := #[.bool t750, .slice none 0 0]) ?_ 1 _ rfl; (with_reducible repeat (first | refine cn ?_ _ | refine cd ?_ | refine ca ?_ _)); refine blk_put (cs := #[.bool false, .slice none 0 0]) ?_ 0 _ rfl; (with_reducible repeat (first | refine cn ?_ _ | refine cd ?_ | refine ca ?_ _)); exact BK754.out)) : gb755 ≠ gb754)); clear HO728; clear HO733; clear HO753; clear BK710; clear BK711; clear BK723; clear BK724; clear BK729; clear BK734; clear BK754; clear HB; have HO728 := n0_; have HO733 := n1_; have HO753 := n2_; have BK710 := n3_; have BK711 := n4_; have BK723 := n5_; have BK724 := n6_; have BK729 := n7_; have BK734 := n8_; have BK754 := n9_; have HB := n10_; have BK755 := n11_; have GW755 := n12_; have GE755 := n13_; have NB710_755 := n14_; have NB755_710 := n15_; have NB711_755 := n16_; have NB755_711 := n17_; have NB723_755 := n18_; have NB755_723 := n19_; have NB724_755 := n20_; have NB755_724 := n21_; have NB729_755 := n22_; have NB755_729 := n23_; have NB734_755 := n24_; have NB755_734 := n25_; have NB754_755 := n26_; have NB755_754 := n27_; clear n0_ n1_ n2_ n3_ n4_ n5_ n6_ n7_ n8_ n9_ n10_ n11_ n12_ n13_ n14_ n15_ n16_ n17_ n18_ n19_ n20_ n21_ n22_ n23_ n24_ n25_ n26_ n27_; clear hb hbox hg; have hnb213 := NB755_710.out; have hnc213 := NB710_755.out; have hnb214 := NB755_711.out; have hnc214 := NB711_755.out; have hnb215 := NB755_723.out; have hnc215 := NB723_755.out; have hnb216 := NB755_724.out; have hnc216 := NB724_755.out; have hnb217 := NB755_729.out; have hnc217 := NB729_755.out; have hnb218 := NB755_734.out; have hnc218 := NB734_755.out; have hnb219 := NB755_754.out; have hnc219 := NB754_755.out; obtain ⟨hcz220_0, hcz220_1⟩ := cl2 BK755.out; obtain ⟨hfz220_0, hfz220_1⟩ := fr2 BK755.out; obtain ⟨hcz221_0, hcz221_1⟩ := cl2 BK734.out; obtain ⟨hfz221_0, hfz221_1⟩ := fr2 BK734.out) | ((with_reducible refine gate_callee (f := 25) rfl ?_); refine goesL_ (some 74) rfl rfl Try.func25 (by kernel_rfl) rfl #[.agg #[.bool t730, .slice Ao198 t731.length co198]] rfl (by (try simp only [List.map_toArray, List.map_cons, List.map_nil]); first | done | rfl | (simp only [List.length_drop, List.length_take]; rfl)) ?_; (with_reducible refine (parquetref01_Num_Sign.calls t730 _ _ t731 t756 _ ?side1 ?side2 A163.out).mono ?_); (case side1 => refine (Kd.V_reads' (e := 3) (base := w.heap.size) (ok := fun k_ => ((((k_ ≠ gb710 ∧ (k_ ≠ gb711 ∧ (k_ ≠ gb723 ∧ (k_ ≠ gb724 ∧ k_ ≠ gb729)))) ∧ k_ ≠ gb734) ∧ k_ ≠ gb754) ∧ k_ ≠ gb755)) (n := t731.length) (c := co198) ?_).2.2; exact (by (with_reducible repeat (first | apply Kd.V_alloc | apply Kd.V_drewN | apply Kd.V_drew)); exact (Kd.V_mono (Kd.V_far (p := ⟨gb755, 1, none⟩) (Kd.V_far (p := ⟨gb755, 0, none⟩) (Kd.V_mono HO733.out (fun k_ hk => (⟨hk, hk.2⟩ : _ ∧ k_ ≠ gb755))) (fun _ hk => hk.2) (.bool t730)) (fun _ hk => hk.2) (.slice Ao198 t731.length co198)) (fun _ h_ => h_.1)))); (case side2 => exact (Kd.V_reads' HO733.out).2.1); rintro e w222 ⟨rfl, hb⟩; refine ⟨_, rfl, ?_⟩; have n0_ := Aside0.mk (Kd.V_below (by (with_reducible repeat (first | apply Kd.V_alloc | apply Kd.V_drewN | apply Kd.V_drew)); exact (Kd.V_mono (Kd.V_far (p := ⟨gb755, 1, none⟩) (Kd.V_far (p := ⟨gb755, 0, none⟩) (Kd.V_mono HO728.out (fun k_ hk => (⟨hk, hk.2⟩ : _ ∧ k_ ≠ gb755))) (fun _ hk => hk.2) (.bool t730)) (fun _ hk => hk.2) (.slice Ao198 t731.length co198)) (fun _ h_ => h_.1))) hb); have n1_ := Aside0.mk (Kd.V_below (by (with_reducible repeat (first | apply Kd.V_alloc | apply Kd.V_drewN | apply Kd.V_drew)); exact (Kd.V_mono (Kd.V_far (p := ⟨gb755, 1, none⟩) (Kd.V_far (p := ⟨gb755, 0, none⟩) (Kd.V_mono HO733.out (fun k_ hk => (⟨hk, hk.2⟩ : _ ∧ k_ ≠ gb755))) (fun _ hk => hk.2) (.bool t730)) (fun _ hk => hk.2) (.slice Ao198 t731.length co198)) (fun _ h_ => h_.1))) hb); have n2_ := Aside0.mk (Kd.V_below (by (with_reducible repeat (first | apply Kd.V_alloc | apply Kd.V_drewN | apply Kd.V_drew)); exact (Kd.V_mono (Kd.V_far (p := ⟨gb755, 1, none⟩) (Kd.V_far (p := ⟨gb755, 0, none⟩) (Kd.V_mono HO753.out (fun k_ hk => (⟨hk, hk.2⟩ : _ ∧ k_ ≠ gb755))) (fun _ hk => hk.2) (.bool t730)) (fun _ hk => hk.2) (.slice Ao198 t731.length co198)) (fun _ h_ => h_.1))) hb); have n3_ := Aside0.mk (blk_below (g := gb710) (o := .cells #[.bool a0_0, .int .u64 a0_1, .int .u64 a0_2, .int .u64 a0_3, .int .u64 a0_4] 27 (0, 0)) (by repeat (with_reducible first | exact lb BK710.out | refine blk_far ?_ NB710_755.out _ | refine cn ?_ _ | refine cd ?_ | refine ca ?_ _)) hb); have n4_ := Aside0.mk (blk_below (g := gb711) (o := .cells #[.bool a1_0, .int .u64 a1_1, .int .u64 a1_2, .int .u64 a1_3, .int .u64 a1_4] 27 (0, 0)) (by repeat (with_reducible first | exact lb BK711.out | refine blk_far ?_ NB711_755.out _ | refine cn ?_ _ | refine cd ?_ | refine ca ?_ _)) hb); have n5_ := Aside0.mk (blk_below (g := gb723) (o := .cells #[.bool t712, .int .u64 t713, .int .u64 t714, .int .u64 t715, .int .u64 t716] 27 (0, 0)) (by repeat (with_reducible first | exact lb BK723.out | refine blk_far ?_ NB723_755.out _ | refine cn ?_ _ | refine cd ?_ | refine ca ?_ _)) hb); have n6_ := Aside0.mk (blk_below (g := gb724) (o := .cells #[.bool t717, .int .u64 t718, .int .u64 t719, .int .u64 t720, .int .u64 t721] 27 (0, 0)) (by repeat (with_reducible first | exact lb BK724.out | refine blk_far ?_ NB724_755.out _ | refine cn ?_ _ | refine cd ?_ | refine ca ?_ _)) hb); have n7_ := Aside0.mk (blk_below (g := gb729) (o := .cells #[.bool t725, .slice Ao188 t726.length co188] 38 (0, 0)) (by repeat (with_reducible first | exact lb BK729.out | refine blk_far ?_ NB729_755.out _ | refine cn ?_ _ | refine cd ?_ | refine ca ?_ _)) hb); have n8_ := Aside0.mk (blk_below (g := gb734) (o := .cells #[.bool t730, .slice Ao198 t731.length co198] 38 (0, 0)) (by repeat (with_reducible first | exact lb BK734.out | refine blk_far ?_ NB734_755.out _ | refine cn ?_ _ | refine cd ?_ | refine ca ?_ _)) hb); have n9_ := Aside0.mk (blk_below (g := gb754) (o := .cells #[.bool t750, .slice Ao210 t751.length co210] 38 (0, 0)) (by repeat (with_reducible first | exact lb BK754.out | refine blk_far ?_ NB754_755.out _ | refine cn ?_ _ | refine cd ?_ | refine ca ?_ _)) hb); have n10_ := Aside0.mk (blk_below (g := gb755) (o := .cells #[.bool t730, .slice Ao198 t731.length co198] 38 (0, 0)) (by (with_reducible repeat (first | refine cn ?_ _ | refine cd ?_ | refine ca ?_ _)); refine blk_put (cs := #[.bool t730, .slice none 0 0]) ?_ 1 _ rfl; (with_reducible repeat (first | refine cn ?_ _ | refine cd ?_ | refine ca ?_ _)); refine blk_put (cs := #[.bool false, .slice none 0 0]) ?_ 0 _ rfl; (with_reducible repeat (first | refine cn ?_ _ | refine cd ?_ | refine ca ?_ _)); exact BK755.out) hb); have n11_ := Aside0.mk (below_step (by repeat (first | (with_reducible first | exact HB.out | apply qa | apply qn | apply qd | refine qs ?_ GE710.out | refine qs ?_ GE711.out | refine qs ?_ GE723.out | refine qs ?_ GE724.out | refine qs ?_ GE729.out | refine qs ?_ GE734.out | refine qs ?_ GE754.out | refine qs ?_ GE755.out) | exact HB.out)) hb); clear HO728; clear HO733; clear HO753; clear BK710; clear BK711; clear BK723; clear BK724; clear BK729; clear BK734; clear BK754; clear BK755; clear HB; have HO728 := n0_; have HO733 := n1_; have HO753 := n2_; have BK710 := n3_; have BK711 := n4_; have BK723 := n5_; have BK724 := n6_; have BK729 := n7_; have BK734 := n8_; have BK754 := n9_; have BK755 := n10_; have HB := n11_; clear n0_ n1_ n2_ n3_ n4_ n5_ n6_ n7_ n8_ n9_ n10_ n11_; (try clear hb); (try clear hb2); (try clear hk); (try clear hi)))
 (try simp only [Act.put, List.setIfInBounds_toArray, List.set_cons_zero, List.set_cons_succ])
 go_cut [] (fun wc => ∃ (kq : Nat) (x756000_163 : Bool) (x756001_163 : List Int) (u756001 : Value), Aside0 (parquetlaw01_WideDivs.j0 kq t722 t712 t713 t714 t715 t716 t725 t726 t730 t731 t750 t751 x756000_163 x756001_163 = some r) ∧ Aside0 (kq ≤ k) ∧ Aside0 (Kd.V (Kd.int .i64) 3 wc w.heap.size (fun k_ => k_ ≠ gb710 ∧ k_ ≠ gb711 ∧ k_ ≠ gb723 ∧ k_ ≠ gb724 ∧ k_ ≠ gb729 ∧ k_ ≠ gb734 ∧ k_ ≠ gb754 ∧ k_ ≠ gb755) (.slice Ao188 t726.length co188) t726) ∧ Aside0 (Kd.V (Kd.int .i64) 3 wc w.heap.size (fun k_ => k_ ≠ gb710 ∧ k_ ≠ gb711 ∧ k_ ≠ gb723 ∧ k_ ≠ gb724 ∧ k_ ≠ gb729 ∧ k_ ≠ gb734 ∧ k_ ≠ gb754 ∧ k_ ≠ gb755) (.slice Ao198 t731.length co198) t731) ∧ Aside0 (Kd.V (Kd.int .i64) 3 wc w.heap.size (fun k_ => k_ ≠ gb710 ∧ k_ ≠ gb711 ∧ k_ ≠ gb723 ∧ k_ ≠ gb724 ∧ k_ ≠ gb729 ∧ k_ ≠ gb734 ∧ k_ ≠ gb754 ∧ k_ ≠ gb755) (.slice Ao210 t751.length co210) t751) ∧ Aside0 (Kd.V (Kd.int .i64) 3 wc w.heap.size (fun k_ => k_ ≠ gb710 ∧ k_ ≠ gb711 ∧ k_ ≠ gb723 ∧ k_ ≠ gb724 ∧ k_ ≠ gb729 ∧ k_ ≠ gb734 ∧ k_ ≠ gb754 ∧ k_ ≠ gb755) u756001 x756001_163) ∧ Aside0 (wc.heap[gb710]? = some (.cells #[.bool a0_0, .int .u64 a0_1, .int .u64 a0_2, .int .u64 a0_3, .int .u64 a0_4] 27 (0, 0))) ∧ Aside0 (wc.heap[gb711]? = some (.cells #[.bool a1_0, .int .u64 a1_1, .int .u64 a1_2, .int .u64 a1_3, .int .u64 a1_4] 27 (0, 0))) ∧ Aside0 (wc.heap[gb723]? = some (.cells #[.bool t712, .int .u64 t713, .int .u64 t714, .int .u64 t715, .int .u64 t716] 27 (0, 0))) ∧ Aside0 (wc.heap[gb724]? = some (.cells #[.bool t717, .int .u64 t718, .int .u64 t719, .int .u64 t720, .int .u64 t721] 27 (0, 0))) ∧ Aside0 (wc.heap[gb729]? = some (.cells #[.bool t725, (.slice Ao188 t726.length co188)] 38 (0, 0))) ∧ Aside0 (wc.heap[gb734]? = some (.cells #[.bool t730, (.slice Ao198 t731.length co198)] 38 (0, 0))) ∧ Aside0 (wc.heap[gb754]? = some (.cells #[.bool t750, (.slice Ao210 t751.length co210)] 38 (0, 0))) ∧ Aside0 (wc.heap[gb755]? = some (.cells #[.bool x756000_163, u756001] 38 (0, 0))) ∧ Aside0 (Below w.heap.size w wc))
 case first =>
  have H := HC164.out
  clear HC164
  by_cases c223 : t756 < 0
  rotate_left
  ·rw [if_neg c223] at H
   have c223b0 : decide (t756 < 0) = false := decide_eq_false c223
   clear c223
   (first | rw [c223b0] | (simp only [i64_w, i32_w]; rw [c223b0]) | skip)
   have H' := Aside0.mk H
   clear H
   go_wp2
   go_meet
   case rel => exact ⟨_, (t730), (t731), (.slice Ao198 t731.length co198), H', ⟨by first | omega | exact Nat.le_refl _⟩, ⟨by (with_reducible repeat (first | apply Kd.V_alloc | apply Kd.V_drewN | apply Kd.V_drew)); exact Kd.V_mono HO728.out (fun _ hk => ⟨hk.1.1.1.1.1, ⟨hk.1.1.1.1.2.1, ⟨hk.1.1.1.1.2.2.1, ⟨hk.1.1.1.1.2.2.2, ⟨hk.1.1.1.2, ⟨hk.1.1.2, ⟨hk.1.2, hk.2⟩⟩⟩⟩⟩⟩⟩)⟩, ⟨by (with_reducible repeat (first | apply Kd.V_alloc | apply Kd.V_drewN | apply Kd.V_drew)); exact Kd.V_mono HO733.out (fun _ hk => ⟨hk.1.1.1.1, ⟨hk.1.1.1.2.1, ⟨hk.1.1.1.2.2.1, ⟨hk.1.1.1.2.2.2.1, ⟨hk.1.1.1.2.2.2.2, ⟨hk.1.1.2, ⟨hk.1.2, hk.2⟩⟩⟩⟩⟩⟩⟩)⟩, ⟨by (with_reducible repeat (first | apply Kd.V_alloc | apply Kd.V_drewN | apply Kd.V_drew)); exact Kd.V_mono HO753.out (fun _ hk => ⟨hk.1.1.1, ⟨hk.1.1.2.1, ⟨hk.1.1.2.2.1, ⟨hk.1.1.2.2.2.1, ⟨hk.1.1.2.2.2.2.1, ⟨hk.1.1.2.2.2.2.2, ⟨hk.1.2, hk.2⟩⟩⟩⟩⟩⟩⟩)⟩, ⟨by (with_reducible repeat (first | apply Kd.V_alloc | apply Kd.V_drewN | apply Kd.V_drew)); exact Kd.V_mono HO733.out (fun _ hk => ⟨hk.1.1.1.1, ⟨hk.1.1.1.2.1, ⟨hk.1.1.1.2.2.1, ⟨hk.1.1.1.2.2.2.1, ⟨hk.1.1.1.2.2.2.2, ⟨hk.1.1.2, ⟨hk.1.2, hk.2⟩⟩⟩⟩⟩⟩⟩)⟩, ⟨by (with_reducible repeat (first | refine cn ?_ _ | refine cd ?_ | refine ca ?_ _)); exact BK710.out⟩, ⟨by (with_reducible repeat (first | refine cn ?_ _ | refine cd ?_ | refine ca ?_ _)); exact BK711.out⟩, ⟨by (with_reducible repeat (first | refine cn ?_ _ | refine cd ?_ | refine ca ?_ _)); exact BK723.out⟩, ⟨by (with_reducible repeat (first | refine cn ?_ _ | refine cd ?_ | refine ca ?_ _)); exact BK724.out⟩, ⟨by (with_reducible repeat (first | refine cn ?_ _ | refine cd ?_ | refine ca ?_ _)); exact BK729.out⟩, ⟨by (with_reducible repeat (first | refine cn ?_ _ | refine cd ?_ | refine ca ?_ _)); exact BK734.out⟩, ⟨by (with_reducible repeat (first | refine cn ?_ _ | refine cd ?_ | refine ca ?_ _)); exact BK754.out⟩, ⟨by (with_reducible repeat (first | refine cn ?_ _ | refine cd ?_ | refine ca ?_ _)); exact BK755.out⟩, ⟨by repeat (first | (with_reducible first | exact HB.out | apply qa | apply qn | apply qd | refine qs ?_ GE710.out | refine qs ?_ GE711.out | refine qs ?_ GE723.out | refine qs ?_ GE724.out | refine qs ?_ GE729.out | refine qs ?_ GE734.out | refine qs ?_ GE754.out | refine qs ?_ GE755.out) | exact HB.out)⟩⟩
  rw [if_pos c223] at H
  have c223b0 : decide (t756 < 0) = true := decide_eq_true c223
  clear c223
  (first | rw [c223b0] | (simp only [i64_w, i32_w]; rw [c223b0]) | skip)
  replace H := Option.bind_eq_some_iff.mp H
  obtain ⟨⟨t757, t758⟩, A2240, H⟩ := H
  replace H : (parquetlaw01_WideDivs.j0 k t722 t712 t713 t714 t715 t716 t725 t726 t730 t731 t750 t751 t757 t758) = some r := H
  have A224 := Aside0.mk A2240
  clear A2240
  have H' := Aside0.mk H
  clear H
  have hnb225 := NB734_710.out
  have hnc225 := NB710_734.out
  have hnb226 := NB734_711.out
  have hnc226 := NB711_734.out
  have hnb227 := NB734_723.out
  have hnc227 := NB723_734.out
  have hnb228 := NB734_724.out
  have hnc228 := NB724_734.out
  have hnb229 := NB734_729.out
  have hnc229 := NB729_734.out
  have hnb230 := NB734_754.out
  have hnc230 := NB754_734.out
  have hnb231 := NB734_755.out
  have hnc231 := NB755_734.out
  obtain ⟨hcz232_0, hcz232_1⟩ := cl2 BK734.out
  obtain ⟨hfz232_0, hfz232_1⟩ := fr2 BK734.out
  go_wp2_with (first | ((with_reducible refine gate_callee (f := 28) rfl ?_); refine goesL_ (some 77) rfl rfl Try.func28 (by kernel_rfl) rfl #[.agg #[.bool t730, .slice Ao198 t731.length co198]] rfl (by (try simp only [List.map_toArray, List.map_cons, List.map_nil]); first | done | rfl | (simp only [List.length_drop, List.length_take]; rfl)) ?_; (with_reducible refine (parquetref01_Num_Neg.calls t730 (fun k_ => ((((k_ ≠ gb710 ∧ (k_ ≠ gb711 ∧ (k_ ≠ gb723 ∧ (k_ ≠ gb724 ∧ k_ ≠ gb729)))) ∧ k_ ≠ gb734) ∧ k_ ≠ gb754) ∧ k_ ≠ gb755)) _ _ t731 t757 t758 _ ?side1 A224.out).mono ?_); (case side1 => exact HO733.out); rintro e w233 ⟨v759, rfl, ho0, hb⟩; refine ⟨_, rfl, ?_⟩; have n0_ := Aside0.mk (Kd.V_below (by (with_reducible repeat (first | apply Kd.V_alloc | apply Kd.V_drewN | apply Kd.V_drew)); exact HO728.out) hb); have n1_ := Aside0.mk (Kd.V_below (by (with_reducible repeat (first | apply Kd.V_alloc | apply Kd.V_drewN | apply Kd.V_drew)); exact HO733.out) hb); have n2_ := Aside0.mk (Kd.V_below (by (with_reducible repeat (first | apply Kd.V_alloc | apply Kd.V_drewN | apply Kd.V_drew)); exact HO753.out) hb); have n3_ := Aside0.mk (Kd.V_lower (Kd.V_mono (ok' := fun k_ => k_ ≠ gb710 ∧ k_ ≠ gb711 ∧ k_ ≠ gb723 ∧ k_ ≠ gb724 ∧ k_ ≠ gb729 ∧ k_ ≠ gb734 ∧ k_ ≠ gb754 ∧ k_ ≠ gb755) ho0 (fun k_ hk_ => ⟨Or.elim hk_ (fun hs_ => hs_.1.1.1.1) (fun hn_ => (Kd.freshB (g := gb710) (o := .cells #[.bool a0_0, .int .u64 a0_1, .int .u64 a0_2, .int .u64 a0_3, .int .u64 a0_4] 27 (0, 0)) (by exact lb BK710.out) k_ hn_)), Or.elim hk_ (fun hs_ => hs_.1.1.1.2.1) (fun hn_ => (Kd.freshB (g := gb711) (o := .cells #[.bool a1_0, .int .u64 a1_1, .int .u64 a1_2, .int .u64 a1_3, .int .u64 a1_4] 27 (0, 0)) (by exact lb BK711.out) k_ hn_)), Or.elim hk_ (fun hs_ => hs_.1.1.1.2.2.1) (fun hn_ => (Kd.freshB (g := gb723) (o := .cells #[.bool t712, .int .u64 t713, .int .u64 t714, .int .u64 t715, .int .u64 t716] 27 (0, 0)) (by exact lb BK723.out) k_ hn_)), Or.elim hk_ (fun hs_ => hs_.1.1.1.2.2.2.1) (fun hn_ => (Kd.freshB (g := gb724) (o := .cells #[.bool t717, .int .u64 t718, .int .u64 t719, .int .u64 t720, .int .u64 t721] 27 (0, 0)) (by exact lb BK724.out) k_ hn_)), Or.elim hk_ (fun hs_ => hs_.1.1.1.2.2.2.2) (fun hn_ => (Kd.freshB (g := gb729) (o := .cells #[.bool t725, .slice Ao188 t726.length co188] 38 (0, 0)) (by exact lb BK729.out) k_ hn_)), Or.elim hk_ (fun hs_ => hs_.1.1.2) (fun hn_ => (Kd.freshB (g := gb734) (o := .cells #[.bool t730, .slice Ao198 t731.length co198] 38 (0, 0)) (by exact lb BK734.out) k_ hn_)), Or.elim hk_ (fun hs_ => hs_.1.2) (fun hn_ => (Kd.freshB (g := gb754) (o := .cells #[.bool t750, .slice Ao210 t751.length co210] 38 (0, 0)) (by exact lb BK754.out) k_ hn_)), Or.elim hk_ (fun hs_ => hs_.2) (fun hn_ => (Kd.freshB (g := gb755) (o := .cells #[.bool t730, .slice Ao198 t731.length co198] 38 (0, 0)) (by exact lb BK755.out) k_ hn_))⟩)) (below_size (by repeat (first | (with_reducible first | exact HB.out | apply qa | apply qn | apply qd | refine qs ?_ GE710.out | refine qs ?_ GE711.out | refine qs ?_ GE723.out | refine qs ?_ GE724.out | refine qs ?_ GE729.out | refine qs ?_ GE734.out | refine qs ?_ GE754.out | refine qs ?_ GE755.out) | exact HB.out)))); have n4_ := bb BK710 hb; have n5_ := bb BK711 hb; have n6_ := bb BK723 hb; have n7_ := bb BK724 hb; have n8_ := bb BK729 hb; have n9_ := bb BK734 hb; have n10_ := bb BK754 hb; have n11_ := bb BK755 hb; have n12_ := Aside0.mk (below_step (by repeat (first | (with_reducible first | exact HB.out | apply qa | apply qn | apply qd | refine qs ?_ GE710.out | refine qs ?_ GE711.out | refine qs ?_ GE723.out | refine qs ?_ GE724.out | refine qs ?_ GE729.out | refine qs ?_ GE734.out | refine qs ?_ GE754.out | refine qs ?_ GE755.out) | exact HB.out)) hb); clear HO728; clear HO733; clear HO753; clear BK710; clear BK711; clear BK723; clear BK724; clear BK729; clear BK734; clear BK754; clear BK755; clear HB; have HO728 := n0_; have HO733 := n1_; have HO753 := n2_; have HO760 := n3_; have BK710 := n4_; have BK711 := n5_; have BK723 := n6_; have BK724 := n7_; have BK729 := n8_; have BK734 := n9_; have BK754 := n10_; have BK755 := n11_; have HB := n12_; clear n0_ n1_ n2_ n3_ n4_ n5_ n6_ n7_ n8_ n9_ n10_ n11_ n12_; (try clear hb); (try clear hb2); (try clear hk); (try clear hi); (try clear ho0); have hnb234 := NB755_710.out; have hnc234 := NB710_755.out; have hnb235 := NB755_711.out; have hnc235 := NB711_755.out; have hnb236 := NB755_723.out; have hnc236 := NB723_755.out; have hnb237 := NB755_724.out; have hnc237 := NB724_755.out; have hnb238 := NB755_729.out; have hnc238 := NB729_755.out; have hnb239 := NB755_754.out; have hnc239 := NB754_755.out; obtain ⟨hcz240_0, hcz240_1⟩ := cl2 BK755.out; obtain ⟨hfz240_0, hfz240_1⟩ := fr2 BK755.out; obtain ⟨Ao241, co241, eo241⟩ := Kd.V_slice HO760.out; subst eo241))
  go_meet
  case rel => exact ⟨_, (t757), (t758), (.slice Ao241 t758.length co241), H', ⟨by first | omega | exact Nat.le_refl _⟩, ⟨by (with_reducible repeat (first | apply Kd.V_alloc | apply Kd.V_drewN | apply Kd.V_drew)); exact Kd.V_mono (Kd.V_far (p := ⟨gb755, 1, none⟩) (Kd.V_far (p := ⟨gb755, 0, none⟩) (Kd.V_mono HO728.out (fun k_ hk => (⟨hk, hk.2⟩ : _ ∧ k_ ≠ gb755))) (fun _ hk => hk.2) (.bool t757)) (fun _ hk => hk.2) (.slice Ao241 t758.length co241)) (fun _ hk => ⟨hk.1.1.1.1.1.1, ⟨hk.1.1.1.1.1.2.1, ⟨hk.1.1.1.1.1.2.2.1, ⟨hk.1.1.1.1.1.2.2.2, ⟨hk.1.1.1.1.2, ⟨hk.1.1.1.2, ⟨hk.1.1.2, hk.1.2⟩⟩⟩⟩⟩⟩⟩)⟩, ⟨by (with_reducible repeat (first | apply Kd.V_alloc | apply Kd.V_drewN | apply Kd.V_drew)); exact Kd.V_mono (Kd.V_far (p := ⟨gb755, 1, none⟩) (Kd.V_far (p := ⟨gb755, 0, none⟩) (Kd.V_mono HO733.out (fun k_ hk => (⟨hk, hk.2⟩ : _ ∧ k_ ≠ gb755))) (fun _ hk => hk.2) (.bool t757)) (fun _ hk => hk.2) (.slice Ao241 t758.length co241)) (fun _ hk => ⟨hk.1.1.1.1.1, ⟨hk.1.1.1.1.2.1, ⟨hk.1.1.1.1.2.2.1, ⟨hk.1.1.1.1.2.2.2.1, ⟨hk.1.1.1.1.2.2.2.2, ⟨hk.1.1.1.2, ⟨hk.1.1.2, hk.1.2⟩⟩⟩⟩⟩⟩⟩)⟩, ⟨by (with_reducible repeat (first | apply Kd.V_alloc | apply Kd.V_drewN | apply Kd.V_drew)); exact Kd.V_mono (Kd.V_far (p := ⟨gb755, 1, none⟩) (Kd.V_far (p := ⟨gb755, 0, none⟩) (Kd.V_mono HO753.out (fun k_ hk => (⟨hk, hk.2⟩ : _ ∧ k_ ≠ gb755))) (fun _ hk => hk.2) (.bool t757)) (fun _ hk => hk.2) (.slice Ao241 t758.length co241)) (fun _ hk => ⟨hk.1.1.1.1, ⟨hk.1.1.1.2.1, ⟨hk.1.1.1.2.2.1, ⟨hk.1.1.1.2.2.2.1, ⟨hk.1.1.1.2.2.2.2.1, ⟨hk.1.1.1.2.2.2.2.2, ⟨hk.1.1.2, hk.1.2⟩⟩⟩⟩⟩⟩⟩)⟩, ⟨by (with_reducible repeat (first | apply Kd.V_alloc | apply Kd.V_drewN | apply Kd.V_drew)); exact Kd.V_mono (Kd.V_far (p := ⟨gb755, 1, none⟩) (Kd.V_far (p := ⟨gb755, 0, none⟩) (Kd.V_mono HO760.out (fun k_ hk => (⟨hk, hk.2.2.2.2.2.2.2⟩ : _ ∧ k_ ≠ gb755))) (fun _ hk => hk.2) (.bool t757)) (fun _ hk => hk.2) (.slice Ao241 t758.length co241)) (fun _ hk => ⟨hk.1.1, ⟨hk.1.2.1, ⟨hk.1.2.2.1, ⟨hk.1.2.2.2.1, ⟨hk.1.2.2.2.2.1, ⟨hk.1.2.2.2.2.2.1, ⟨hk.1.2.2.2.2.2.2.1, hk.1.2.2.2.2.2.2.2⟩⟩⟩⟩⟩⟩⟩)⟩, ⟨by repeat (with_reducible first | exact lb BK710.out | refine blk_far ?_ NB710_755.out _ | refine cn ?_ _ | refine cd ?_ | refine ca ?_ _)⟩, ⟨by repeat (with_reducible first | exact lb BK711.out | refine blk_far ?_ NB711_755.out _ | refine cn ?_ _ | refine cd ?_ | refine ca ?_ _)⟩, ⟨by repeat (with_reducible first | exact lb BK723.out | refine blk_far ?_ NB723_755.out _ | refine cn ?_ _ | refine cd ?_ | refine ca ?_ _)⟩, ⟨by repeat (with_reducible first | exact lb BK724.out | refine blk_far ?_ NB724_755.out _ | refine cn ?_ _ | refine cd ?_ | refine ca ?_ _)⟩, ⟨by repeat (with_reducible first | exact lb BK729.out | refine blk_far ?_ NB729_755.out _ | refine cn ?_ _ | refine cd ?_ | refine ca ?_ _)⟩, ⟨by repeat (with_reducible first | exact lb BK734.out | refine blk_far ?_ NB734_755.out _ | refine cn ?_ _ | refine cd ?_ | refine ca ?_ _)⟩, ⟨by repeat (with_reducible first | exact lb BK754.out | refine blk_far ?_ NB754_755.out _ | refine cn ?_ _ | refine cd ?_ | refine ca ?_ _)⟩, ⟨by (with_reducible repeat (first | refine cn ?_ _ | refine cd ?_ | refine ca ?_ _)); refine blk_put (cs := #[.bool t757, .slice Ao198 t731.length co198]) ?_ 1 _ rfl; (with_reducible repeat (first | refine cn ?_ _ | refine cd ?_ | refine ca ?_ _)); refine blk_put (cs := #[.bool t730, .slice Ao198 t731.length co198]) ?_ 0 _ rfl; (with_reducible repeat (first | refine cn ?_ _ | refine cd ?_ | refine ca ?_ _)); exact BK755.out⟩, ⟨by repeat (first | (with_reducible first | exact HB.out | apply qa | apply qn | apply qd | refine qs ?_ GE710.out | refine qs ?_ GE711.out | refine qs ?_ GE723.out | refine qs ?_ GE724.out | refine qs ?_ GE729.out | refine qs ?_ GE734.out | refine qs ?_ GE754.out | refine qs ?_ GE755.out) | exact HB.out)⟩⟩
 case rest =>
  clear HC164
  try clear c1
  try clear c2
  try clear p2
  try clear c4
  try clear c5
  try clear c10
  try clear c11
  try clear c12
  try clear c13
  try clear c14
  try clear c15
  try clear c16
  try clear c17
  try clear c18
  try clear c19
  try clear c20
  try clear c21
  try clear c22
  try clear c23
  try clear c24
  try clear c25
  try clear c26
  try clear c27
  try clear c28
  try clear c50
  try clear c50b0
  try clear c50b1
  try clear c52
  try clear c52b0
  try clear c53
  try clear c53b0
  try clear c55
  try clear c55b0
  try clear c55b1
  try clear c108
  try clear c108b0
  try clear c108b1
  try clear c112
  try clear c118
  try clear c119
  try clear c120
  try clear c122
  try clear c123
  try clear c128
  try clear c129
  try clear c130
  try clear c131
  try clear c137
  try clear c138
  try clear c139
  try clear c140
  try clear c141
  try clear c147
  try clear c148
  try clear c149
  try clear c150
  try clear c151
  try clear c152
  try clear c167
  try clear c173
  try clear c174
  try clear c175
  try clear c177
  try clear c178
  try clear c183
  try clear c184
  try clear c185
  try clear c186
  try clear c192
  try clear c193
  try clear c194
  try clear c195
  try clear c196
  try clear c203
  try clear c204
  try clear c205
  try clear c206
  try clear c207
  try clear c208
  try clear c213
  try clear c214
  try clear c215
  try clear c216
  try clear c217
  try clear c218
  try clear c219
  try clear c223
  try clear c223b0
  try clear c225
  try clear c226
  try clear c227
  try clear c228
  try clear c229
  try clear c230
  try clear c231
  try clear c234
  try clear c235
  try clear c236
  try clear c237
  try clear c238
  try clear c239
  try clear hcz113_0
  try clear hcz113_1
  try clear hcz113_2
  try clear hcz113_3
  try clear hcz113_4
  try clear hcz114_0
  try clear hcz114_1
  try clear hcz114_2
  try clear hcz114_3
  try clear hcz114_4
  try clear hcz121_0
  try clear hcz121_1
  try clear hcz121_2
  try clear hcz121_3
  try clear hcz121_4
  try clear hcz124_0
  try clear hcz124_1
  try clear hcz124_2
  try clear hcz124_3
  try clear hcz124_4
  try clear hcz125_0
  try clear hcz125_1
  try clear hcz125_2
  try clear hcz125_3
  try clear hcz125_4
  try clear hcz132_0
  try clear hcz132_1
  try clear hcz134_0
  try clear hcz134_1
  try clear hcz134_2
  try clear hcz134_3
  try clear hcz134_4
  try clear hcz142_0
  try clear hcz142_1
  try clear hcz153_0
  try clear hcz153_1
  try clear hcz168_0
  try clear hcz168_1
  try clear hcz168_2
  try clear hcz168_3
  try clear hcz168_4
  try clear hcz169_0
  try clear hcz169_1
  try clear hcz169_2
  try clear hcz169_3
  try clear hcz169_4
  try clear hcz176_0
  try clear hcz176_1
  try clear hcz176_2
  try clear hcz176_3
  try clear hcz176_4
  try clear hcz179_0
  try clear hcz179_1
  try clear hcz179_2
  try clear hcz179_3
  try clear hcz179_4
  try clear hcz180_0
  try clear hcz180_1
  try clear hcz180_2
  try clear hcz180_3
  try clear hcz180_4
  try clear hcz187_0
  try clear hcz187_1
  try clear hcz189_0
  try clear hcz189_1
  try clear hcz189_2
  try clear hcz189_3
  try clear hcz189_4
  try clear hcz197_0
  try clear hcz197_1
  try clear hcz200_0
  try clear hcz200_1
  try clear hcz200_2
  try clear hcz200_3
  try clear hcz200_4
  try clear hcz209_0
  try clear hcz209_1
  try clear hcz211_0
  try clear hcz211_1
  try clear hcz220_0
  try clear hcz220_1
  try clear hcz221_0
  try clear hcz221_1
  try clear hcz232_0
  try clear hcz232_1
  try clear hcz240_0
  try clear hcz240_1
  try clear hfz113_0
  try clear hfz113_1
  try clear hfz113_2
  try clear hfz113_3
  try clear hfz113_4
  try clear hfz114_0
  try clear hfz114_1
  try clear hfz114_2
  try clear hfz114_3
  try clear hfz114_4
  try clear hfz121_0
  try clear hfz121_1
  try clear hfz121_2
  try clear hfz121_3
  try clear hfz121_4
  try clear hfz124_0
  try clear hfz124_1
  try clear hfz124_2
  try clear hfz124_3
  try clear hfz124_4
  try clear hfz125_0
  try clear hfz125_1
  try clear hfz125_2
  try clear hfz125_3
  try clear hfz125_4
  try clear hfz132_0
  try clear hfz132_1
  try clear hfz134_0
  try clear hfz134_1
  try clear hfz134_2
  try clear hfz134_3
  try clear hfz134_4
  try clear hfz142_0
  try clear hfz142_1
  try clear hfz153_0
  try clear hfz153_1
  try clear hfz168_0
  try clear hfz168_1
  try clear hfz168_2
  try clear hfz168_3
  try clear hfz168_4
  try clear hfz169_0
  try clear hfz169_1
  try clear hfz169_2
  try clear hfz169_3
  try clear hfz169_4
  try clear hfz176_0
  try clear hfz176_1
  try clear hfz176_2
  try clear hfz176_3
  try clear hfz176_4
  try clear hfz179_0
  try clear hfz179_1
  try clear hfz179_2
  try clear hfz179_3
  try clear hfz179_4
  try clear hfz180_0
  try clear hfz180_1
  try clear hfz180_2
  try clear hfz180_3
  try clear hfz180_4
  try clear hfz187_0
  try clear hfz187_1
  try clear hfz189_0
  try clear hfz189_1
  try clear hfz189_2
  try clear hfz189_3
  try clear hfz189_4
  try clear hfz197_0
  try clear hfz197_1
  try clear hfz200_0
  try clear hfz200_1
  try clear hfz200_2
  try clear hfz200_3
  try clear hfz200_4
  try clear hfz209_0
  try clear hfz209_1
  try clear hfz211_0
  try clear hfz211_1
  try clear hfz220_0
  try clear hfz220_1
  try clear hfz221_0
  try clear hfz221_1
  try clear hfz232_0
  try clear hfz232_1
  try clear hfz240_0
  try clear hfz240_1
  obtain ⟨kq, x756000_163, x756001_163, u756001, HA, HJ163, HO_730001, HO_735001, HO_755001, HO_756001, BK710, BK711, BK723, BK724, BK729, BK734, BK754, BK755, HB⟩ := hcut
  cases kq with
  | zero => exact absurd HA.out (by simp [parquetlaw01_WideDivs.j0])
  | succ kj163 =>
   have H := HA.out
   clear HA
   simp only [parquetlaw01_WideDivs.j0] at H
   replace H := Option.bind_eq_some_iff.mp H
   obtain ⟨⟨t761, t762⟩, A2420, H⟩ := H
   try dsimp only at H
   have A242 := Aside0.mk A2420
   clear A2420
   replace H := Option.bind_eq_some_iff.mp H
   obtain ⟨⟨t765, t766⟩, A2430, H⟩ := H
   try dsimp only at H
   have A243 := Aside0.mk A2430
   clear A2430
   replace H := Option.bind_eq_some_iff.mp H
   obtain ⟨⟨t769, t770⟩, A2440, H⟩ := H
   try dsimp only at H
   have A244 := Aside0.mk A2440
   clear A2440
   by_cases c245 : t722 = 0
   rotate_left
   ·rw [if_neg c245] at H
    have c245b0 : (t722 == 0) = false := beq_eq_false_iff_ne.mpr c245
    have c245b1 : (t722 != 0) = true := bne_iff_ne.mpr c245
    exact absurd ((Option.some.inj H).trans hr_) (by decide)
   rw [if_pos c245] at H
   have c245b0 : (t722 == 0) = true := beq_iff_eq.mpr c245
   have c245b1 : (t722 != 0) = false := bne_eq_false_iff_eq.mpr c245
   clear c245
   replace H := Option.bind_eq_some_iff.mp H
   obtain ⟨t774, A2460, H⟩ := H
   try dsimp only at H
   have A246 := Aside0.mk A2460
   clear A2460
   by_cases c247 : t774 = 0
   rotate_left
   ·rw [if_neg c247] at H
    have c247b0 : (t774 == 0) = false := beq_eq_false_iff_ne.mpr c247
    have c247b1 : (t774 != 0) = true := bne_iff_ne.mpr c247
    exact absurd ((Option.some.inj H).trans hr_) (by decide)
   rw [if_pos c247] at H
   have c247b0 : (t774 == 0) = true := beq_iff_eq.mpr c247
   have c247b1 : (t774 != 0) = false := bne_eq_false_iff_eq.mpr c247
   clear c247
   replace H := Option.bind_eq_some_iff.mp H
   obtain ⟨t775, A2480, H⟩ := H
   replace H : (if t775 ≥ 0 then ((parquetref01_Num_Cmp.f kj163 t750 t751 x756000_163 x756001_163).bind fun t776 => (if t776 < 0 then ((parquetlaw01_known.f).bind fun t777 => (some t777)) else (some false))) else (some false)) = some r := H
   have A248 := Aside0.mk A2480
   clear A2480
   by_cases c249 : t775 ≥ 0
   rotate_left
   ·rw [if_neg c249] at H
    have c249b0 : decide (0 ≤ t775) = false := decide_eq_false c249
    clear c249
    exact absurd ((Option.some.inj H).trans hr_) (by decide)
   rw [if_pos c249] at H
   have c249b0 : decide (0 ≤ t775) = true := decide_eq_true c249
   clear c249
   replace H := Option.bind_eq_some_iff.mp H
   obtain ⟨t776, A2500, H⟩ := H
   replace H : (if t776 < 0 then ((parquetlaw01_known.f).bind fun t777 => (some t777)) else (some false)) = some r := H
   have A250 := Aside0.mk A2500
   clear A2500
   by_cases c251 : t776 < 0
   rotate_left
   ·rw [if_neg c251] at H
    have c251b0 : decide (t776 < 0) = false := decide_eq_false c251
    clear c251
    exact absurd ((Option.some.inj H).trans hr_) (by decide)
   rw [if_pos c251] at H
   have c251b0 : decide (t776 < 0) = true := decide_eq_true c251
   clear c251
   replace H := Option.bind_eq_some_iff.mp H
   obtain ⟨t777, A2520, H⟩ := H
   replace H : (some t777) = some r := H
   have A252 := Aside0.mk A2520
   clear A2520
   obtain rfl := Option.some.inj H
   try go_wp2
   have n0_ := Aside0.mk (Kd.V_drew HO_730001.out)
   have n1_ := Aside0.mk (Kd.V_drew HO_735001.out)
   have n2_ := Aside0.mk (Kd.V_drew HO_755001.out)
   have n3_ := Aside0.mk (Kd.V_drew HO_756001.out)
   have n4_ := Aside0.mk (blk_drew BK710.out)
   have n5_ := Aside0.mk (blk_drew BK711.out)
   have n6_ := Aside0.mk (blk_drew BK723.out)
   have n7_ := Aside0.mk (blk_drew BK724.out)
   have n8_ := Aside0.mk (blk_drew BK729.out)
   have n9_ := Aside0.mk (blk_drew BK734.out)
   have n10_ := Aside0.mk (blk_drew BK754.out)
   have n11_ := Aside0.mk (blk_drew BK755.out)
   have n12_ := Aside0.mk (below_drew1 HB.out)
   clear HO_730001
   clear HO_735001
   clear HO_755001
   clear HO_756001
   clear BK710
   clear BK711
   clear BK723
   clear BK724
   clear BK729
   clear BK734
   clear BK754
   clear BK755
   clear HB
   have HO_730001 := n0_
   have HO_735001 := n1_
   have HO_755001 := n2_
   have HO_756001 := n3_
   have BK710 := n4_
   have BK711 := n5_
   have BK723 := n6_
   have BK724 := n7_
   have BK729 := n8_
   have BK734 := n9_
   have BK754 := n10_
   have BK755 := n11_
   have HB := n12_
   clear n0_ n1_ n2_ n3_ n4_ n5_ n6_ n7_ n8_ n9_ n10_ n11_ n12_
   refine start_ (n := 8) (S := fun w' => w'.cell? ⟨gb723, 0, none⟩ = some (.bool t712) ∧ w'.cell? ⟨gb723, 1, none⟩ = some (.int .u64 t713) ∧ w'.cell? ⟨gb723, 2, none⟩ = some (.int .u64 t714) ∧ w'.cell? ⟨gb723, 3, none⟩ = some (.int .u64 t715) ∧ w'.cell? ⟨gb723, 4, none⟩ = some (.int .u64 t716) ∧ w'.cell? ⟨gb734, 0, none⟩ = some (.bool t730) ∧ w'.cell? ⟨gb734, 1, none⟩ = some (.slice Ao198 t731.length co198) ∧ w'.cell? ⟨gb754, 0, none⟩ = some (.bool t750) ∧ w'.cell? ⟨gb754, 1, none⟩ = some (.slice Ao210 t751.length co210)) (ds := []) #[Ff, Ff, Ff, Ff, Ff, Ff, Ff, Ff] (by kernel_rfl) rfl rfl ⟨(blk_cell BK723.out 0).trans rfl, (blk_cell BK723.out 1).trans rfl, (blk_cell BK723.out 2).trans rfl, (blk_cell BK723.out 3).trans rfl, (blk_cell BK723.out 4).trans rfl, (blk_cell BK734.out 0).trans rfl, (blk_cell BK734.out 1).trans rfl, (blk_cell BK754.out 0).trans rfl, (blk_cell BK754.out 1).trans rfl⟩ (fun hHeld => ?_); refine with_tabW parquetlaw01_WideDivs.tab13 parquetlaw01_WideDivs.bits13 (fun HT_ HW_ => ?_)
   generalize wc.drew = w253 at HO_730001 HO_735001 HO_755001 HO_756001 BK710 BK711 BK723 BK724 BK729 BK734 BK754 BK755 HB hHeld ⊢
   refine take_ (i := 0) (N := some 78) (v := ?_) (a' := ?_) #[Tt, Ff, Ff, Ff, Ff, Ff, Ff, Ff] rfl rfl (take_ofW HT_.out HW_.out (by kernel_rfl)) (fun _ _ _ h => h) (Or.inl ⟨by rfl, ?_⟩) hHeld ?_ ?_
   rotate_left
   ·rintro w' ⟨s0, s1, s2, s3, s4, s5, s6, s7, s8⟩
    go_simp
    with_reducible rfl
   rotate_left
   ·simp only [Act.put, List.setIfInBounds_toArray, List.set_cons_zero, List.set_cons_succ, i64_w, i32_w]
    rfl
   refine take_ (i := 2) (N := some 80) (v := ?_) (a' := ?_) #[Tt, Ff, Tt, Ff, Ff, Ff, Ff, Ff] rfl rfl (take_ofW HT_.out HW_.out (by kernel_rfl)) (fun _ _ _ h => h) (Or.inl ⟨by rfl, ?_⟩) hHeld ?_ ?_
   rotate_left
   ·rintro w' ⟨s0, s1, s2, s3, s4, s5, s6, s7, s8⟩
    go_simp
    with_reducible rfl
   rotate_left
   ·simp only [Act.put, List.setIfInBounds_toArray, List.set_cons_zero, List.set_cons_succ, i64_w, i32_w]
    rfl
   refine take_ (i := 4) (N := some 82) (v := ?_) (a' := ?_) #[Tt, Ff, Tt, Ff, Tt, Ff, Ff, Ff] rfl rfl (take_ofW HT_.out HW_.out (by kernel_rfl)) (fun _ _ _ h => h) (Or.inl ⟨by rfl, ?_⟩) hHeld ?_ ?_
   rotate_left
   ·rintro w' ⟨s0, s1, s2, s3, s4, s5, s6, s7, s8⟩
    go_simp
    with_reducible rfl
   rotate_left
   ·simp only [Act.put, List.setIfInBounds_toArray, List.set_cons_zero, List.set_cons_succ, i64_w, i32_w]
    rfl
   refine join_ (σ := Value × Value × Value × Nat) 1 #[Tt, Tt, Tt, Tt, Tt, Tt, Tt, Ff] (fun s_ => [(79, .agg #[.bool t761, s_.1]), (81, .agg #[.bool t765, s_.2.1]), (83, .agg #[.bool t769, s_.2.2.1]), (13, .pointer (some ⟨s_.2.2.2, 0, none⟩))]) (fun s_ w' => (w'.cell? ⟨gb723, 0, none⟩ = some (.bool t712) ∧ w'.cell? ⟨gb723, 1, none⟩ = some (.int .u64 t713) ∧ w'.cell? ⟨gb723, 2, none⟩ = some (.int .u64 t714) ∧ w'.cell? ⟨gb723, 3, none⟩ = some (.int .u64 t715) ∧ w'.cell? ⟨gb723, 4, none⟩ = some (.int .u64 t716) ∧ w'.cell? ⟨gb734, 0, none⟩ = some (.bool t730) ∧ w'.cell? ⟨gb734, 1, none⟩ = some (.slice Ao198 t731.length co198) ∧ w'.cell? ⟨gb754, 0, none⟩ = some (.bool t750) ∧ w'.cell? ⟨gb754, 1, none⟩ = some (.slice Ao210 t751.length co210)) ∧ (Kd.V (Kd.int .i64) 3 w' w.heap.size (fun k_ => k_ ≠ gb710 ∧ k_ ≠ gb711 ∧ k_ ≠ gb723 ∧ k_ ≠ gb724 ∧ k_ ≠ gb729 ∧ k_ ≠ gb734 ∧ k_ ≠ gb754 ∧ k_ ≠ gb755 ∧ k_ ≠ s_.2.2.2) s_.1 t762) ∧ (Kd.V (Kd.int .i64) 3 w' w.heap.size (fun k_ => k_ ≠ gb710 ∧ k_ ≠ gb711 ∧ k_ ≠ gb723 ∧ k_ ≠ gb724 ∧ k_ ≠ gb729 ∧ k_ ≠ gb734 ∧ k_ ≠ gb754 ∧ k_ ≠ gb755 ∧ k_ ≠ s_.2.2.2) s_.2.1 t766) ∧ (Kd.V (Kd.int .i64) 3 w' w.heap.size (fun k_ => k_ ≠ gb710 ∧ k_ ≠ gb711 ∧ k_ ≠ gb723 ∧ k_ ≠ gb724 ∧ k_ ≠ gb729 ∧ k_ ≠ gb734 ∧ k_ ≠ gb754 ∧ k_ ≠ gb755 ∧ k_ ≠ s_.2.2.2) s_.2.2.1 t770) ∧ (Kd.V (Kd.int .i64) 3 w' w.heap.size (fun k_ => k_ ≠ gb710 ∧ k_ ≠ gb711 ∧ k_ ≠ gb723 ∧ k_ ≠ gb724 ∧ k_ ≠ gb729 ∧ k_ ≠ gb734 ∧ k_ ≠ gb754 ∧ k_ ≠ gb755 ∧ k_ ≠ s_.2.2.2) (.slice Ao188 t726.length co188) t726) ∧ (Kd.V (Kd.int .i64) 3 w' w.heap.size (fun k_ => k_ ≠ gb710 ∧ k_ ≠ gb711 ∧ k_ ≠ gb723 ∧ k_ ≠ gb724 ∧ k_ ≠ gb729 ∧ k_ ≠ gb734 ∧ k_ ≠ gb754 ∧ k_ ≠ gb755 ∧ k_ ≠ s_.2.2.2) (.slice Ao198 t731.length co198) t731) ∧ (Kd.V (Kd.int .i64) 3 w' w.heap.size (fun k_ => k_ ≠ gb710 ∧ k_ ≠ gb711 ∧ k_ ≠ gb723 ∧ k_ ≠ gb724 ∧ k_ ≠ gb729 ∧ k_ ≠ gb734 ∧ k_ ≠ gb754 ∧ k_ ≠ gb755 ∧ k_ ≠ s_.2.2.2) (.slice Ao210 t751.length co210) t751) ∧ (Kd.V (Kd.int .i64) 3 w' w.heap.size (fun k_ => k_ ≠ gb710 ∧ k_ ≠ gb711 ∧ k_ ≠ gb723 ∧ k_ ≠ gb724 ∧ k_ ≠ gb729 ∧ k_ ≠ gb734 ∧ k_ ≠ gb754 ∧ k_ ≠ gb755 ∧ k_ ≠ s_.2.2.2) u756001 x756001_163) ∧ (w'.heap[gb710]? = some (.cells #[.bool a0_0, .int .u64 a0_1, .int .u64 a0_2, .int .u64 a0_3, .int .u64 a0_4] 27 (0, 0))) ∧ (w'.heap[gb711]? = some (.cells #[.bool a1_0, .int .u64 a1_1, .int .u64 a1_2, .int .u64 a1_3, .int .u64 a1_4] 27 (0, 0))) ∧ (w'.heap[gb723]? = some (.cells #[.bool t712, .int .u64 t713, .int .u64 t714, .int .u64 t715, .int .u64 t716] 27 (0, 0))) ∧ (w'.heap[gb724]? = some (.cells #[.bool t717, .int .u64 t718, .int .u64 t719, .int .u64 t720, .int .u64 t721] 27 (0, 0))) ∧ (w'.heap[gb729]? = some (.cells #[.bool t725, .slice Ao188 t726.length co188] 38 (0, 0))) ∧ (w'.heap[gb734]? = some (.cells #[.bool t730, .slice Ao198 t731.length co198] 38 (0, 0))) ∧ (w'.heap[gb754]? = some (.cells #[.bool t750, .slice Ao210 t751.length co210] 38 (0, 0))) ∧ (w'.heap[gb755]? = some (.cells #[.bool x756000_163, u756001] 38 (0, 0))) ∧ (w'.heap[s_.2.2.2]? = some (.cells #[.bool false, .slice none 0 0] 38 (0, 0))) ∧ (w.heap.size ≤ s_.2.2.2) ∧ (w.heap.size ≤ s_.2.2.2) ∧ (gb710 ≠ s_.2.2.2) ∧ (s_.2.2.2 ≠ gb710) ∧ (gb711 ≠ s_.2.2.2) ∧ (s_.2.2.2 ≠ gb711) ∧ (gb723 ≠ s_.2.2.2) ∧ (s_.2.2.2 ≠ gb723) ∧ (gb724 ≠ s_.2.2.2) ∧ (s_.2.2.2 ≠ gb724) ∧ (gb729 ≠ s_.2.2.2) ∧ (s_.2.2.2 ≠ gb729) ∧ (gb734 ≠ s_.2.2.2) ∧ (s_.2.2.2 ≠ gb734) ∧ (gb754 ≠ s_.2.2.2) ∧ (s_.2.2.2 ≠ gb754) ∧ (gb755 ≠ s_.2.2.2) ∧ (s_.2.2.2 ≠ gb755) ∧ (Below w.heap.size w w')) ?_ ?_
   rotate_left
   ·intro hCont
    refine two_ (i := 1) (j := 6) (Ni := some 79) (Nj := some 13) #[Tt, Tt, Tt, Ff, Tt, Ff, Ff, Ff] #[Tt, Ff, Tt, Ff, Tt, Ff, Tt, Ff] rfl rfl rfl rfl (two_of HT_.out (by kernel_rfl)) (by decide) (by decide) (fun K hK => ?_) (fun K hK => ?_)
    ·skip
     refine goes_ Try.func24 (by kernel_rfl) rfl #[.agg #[.bool t712, .int .u64 t713, .int .u64 t714, .int .u64 t715, .int .u64 t716]] (by rfl) rfl rfl (by (try simp only [List.map_toArray, List.map_cons, List.map_nil]); first | done | rfl | (simp only [List.length_drop, List.length_take]; rfl)) ?_
     with_reducible refine (parquetref01_Of.calls kj163 t712 t713 t714 t715 t716 t761 t762 _ A242.out).mono ?_
     rintro e w254 ⟨v763, rfl, ho0, hb⟩
     refine ⟨_, rfl, ?_⟩
     have n0_ := Aside0.mk (Kd.V_below (by (with_reducible repeat (first | apply Kd.V_alloc | apply Kd.V_drewN | apply Kd.V_drew)); exact HO_730001.out) hb)
     have n1_ := Aside0.mk (Kd.V_below (by (with_reducible repeat (first | apply Kd.V_alloc | apply Kd.V_drewN | apply Kd.V_drew)); exact HO_735001.out) hb)
     have n2_ := Aside0.mk (Kd.V_below (by (with_reducible repeat (first | apply Kd.V_alloc | apply Kd.V_drewN | apply Kd.V_drew)); exact HO_755001.out) hb)
     have n3_ := Aside0.mk (Kd.V_below (by (with_reducible repeat (first | apply Kd.V_alloc | apply Kd.V_drewN | apply Kd.V_drew)); exact HO_756001.out) hb)
     have n4_ := Aside0.mk (Kd.V_lower (Kd.V_mono (ok' := fun k_ => k_ ≠ gb710 ∧ k_ ≠ gb711 ∧ k_ ≠ gb723 ∧ k_ ≠ gb724 ∧ k_ ≠ gb729 ∧ k_ ≠ gb734 ∧ k_ ≠ gb754 ∧ k_ ≠ gb755) ho0 (fun k_ hk_ => ⟨(Kd.freshB (g := gb710) (o := .cells #[.bool a0_0, .int .u64 a0_1, .int .u64 a0_2, .int .u64 a0_3, .int .u64 a0_4] 27 (0, 0)) (by exact lb BK710.out) k_ hk_), (Kd.freshB (g := gb711) (o := .cells #[.bool a1_0, .int .u64 a1_1, .int .u64 a1_2, .int .u64 a1_3, .int .u64 a1_4] 27 (0, 0)) (by exact lb BK711.out) k_ hk_), (Kd.freshB (g := gb723) (o := .cells #[.bool t712, .int .u64 t713, .int .u64 t714, .int .u64 t715, .int .u64 t716] 27 (0, 0)) (by exact lb BK723.out) k_ hk_), (Kd.freshB (g := gb724) (o := .cells #[.bool t717, .int .u64 t718, .int .u64 t719, .int .u64 t720, .int .u64 t721] 27 (0, 0)) (by exact lb BK724.out) k_ hk_), (Kd.freshB (g := gb729) (o := .cells #[.bool t725, .slice Ao188 t726.length co188] 38 (0, 0)) (by exact lb BK729.out) k_ hk_), (Kd.freshB (g := gb734) (o := .cells #[.bool t730, .slice Ao198 t731.length co198] 38 (0, 0)) (by exact lb BK734.out) k_ hk_), (Kd.freshB (g := gb754) (o := .cells #[.bool t750, .slice Ao210 t751.length co210] 38 (0, 0)) (by exact lb BK754.out) k_ hk_), (Kd.freshB (g := gb755) (o := .cells #[.bool x756000_163, u756001] 38 (0, 0)) (by exact lb BK755.out) k_ hk_)⟩)) (below_size (by repeat (first | (with_reducible first | exact HB.out | apply qa | apply qn | apply qd | refine qs ?_ GE710.out | refine qs ?_ GE711.out | refine qs ?_ GE723.out | refine qs ?_ GE724.out | refine qs ?_ GE729.out | refine qs ?_ GE734.out | refine qs ?_ GE754.out | refine qs ?_ GE755.out) | exact HB.out))))
     have n5_ := bb BK710 hb
     have n6_ := bb BK711 hb
     have n7_ := bb BK723 hb
     have n8_ := bb BK724 hb
     have n9_ := bb BK729 hb
     have n10_ := bb BK734 hb
     have n11_ := bb BK754 hb
     have n12_ := bb BK755 hb
     have n13_ := Aside0.mk (below_step (by repeat (first | (with_reducible first | exact HB.out | apply qa | apply qn | apply qd | refine qs ?_ GE710.out | refine qs ?_ GE711.out | refine qs ?_ GE723.out | refine qs ?_ GE724.out | refine qs ?_ GE729.out | refine qs ?_ GE734.out | refine qs ?_ GE754.out | refine qs ?_ GE755.out) | exact HB.out)) hb)
     clear HO_730001
     clear HO_735001
     clear HO_755001
     clear HO_756001
     clear BK710
     clear BK711
     clear BK723
     clear BK724
     clear BK729
     clear BK734
     clear BK754
     clear BK755
     clear HB
     have HO_730001 := n0_
     have HO_735001 := n1_
     have HO_755001 := n2_
     have HO_756001 := n3_
     have HO764 := n4_
     have BK710 := n5_
     have BK711 := n6_
     have BK723 := n7_
     have BK724 := n8_
     have BK729 := n9_
     have BK734 := n10_
     have BK754 := n11_
     have BK755 := n12_
     have HB := n13_
     clear n0_ n1_ n2_ n3_ n4_ n5_ n6_ n7_ n8_ n9_ n10_ n11_ n12_ n13_
     (try clear hb)
     (try clear hb2)
     (try clear hk)
     (try clear hi)
     (try clear ho0)
     obtain ⟨Ao255, co255, eo255⟩ := Kd.V_slice HO764.out
     (first | subst eo255 | (injection eo255 with f1_ f2_ f3_; have f4_ := f1_.symm; have f5_ := f3_.symm; clear f1_ f2_ f3_; subst f4_; subst f5_))
     refine hK.out _ _ ⟨(blk_cell BK723.out 0).trans rfl, (blk_cell BK723.out 1).trans rfl, (blk_cell BK723.out 2).trans rfl, (blk_cell BK723.out 3).trans rfl, (blk_cell BK723.out 4).trans rfl, (blk_cell BK734.out 0).trans rfl, (blk_cell BK734.out 1).trans rfl, (blk_cell BK754.out 0).trans rfl, (blk_cell BK754.out 1).trans rfl⟩ (fun hHeld => ?_)
     clear hK K
     refine norm_ (a' := ?_) ?_ ?_
     rotate_left
     ·show Act.put _ (some 79) _ = _
      simp only [Act.put, List.setIfInBounds_toArray, List.set_cons_zero, List.set_cons_succ, i64_w, i32_w]
      rfl
     refine two_ (i := 3) (j := 6) (Ni := some 81) (Nj := some 13) #[Tt, Tt, Tt, Tt, Tt, Ff, Ff, Ff] #[Tt, Tt, Tt, Ff, Tt, Ff, Tt, Ff] rfl rfl rfl rfl (two_of HT_.out (by kernel_rfl)) (by decide) (by decide) (fun K hK => ?_) (fun K hK => ?_)
     ·skip
      refine goes_ Try.func29 (by kernel_rfl) rfl #[.agg #[.bool t761, .slice Ao255 t762.length co255], .agg #[.bool t730, .slice Ao198 t731.length co198]] (by rfl) rfl rfl (by (try simp only [List.map_toArray, List.map_cons, List.map_nil]); first | done | rfl | (simp only [List.length_drop, List.length_take]; rfl)) ?_
      with_reducible refine (parquetref01_Num_Times.calls kj163 t761 _ _ t762 t730 _ _ t731 t765 t766 _ ?side1 ?side2 ?side3 ?side4 A243.out).mono ?_
      (case side1 => repeat (first | exact (Kd.V_reads' HO764.out).2.2 | (with_reducible refine Kd.C_alloc ?_ _) | (with_reducible refine Kd.C_drewN ?_ _) | (with_reducible refine Kd.C_drew ?_)))
      (case side2 => exact (Kd.V_reads' HO764.out).2.1)
      (case side3 => repeat (first | exact (Kd.V_reads' HO_735001.out).2.2 | (with_reducible refine Kd.C_alloc ?_ _) | (with_reducible refine Kd.C_drewN ?_ _) | (with_reducible refine Kd.C_drew ?_)))
      (case side4 => exact (Kd.V_reads' HO_735001.out).2.1)
      rintro e w256 ⟨v767, rfl, ho0, hb⟩
      refine ⟨_, rfl, ?_⟩
      have n0_ := Aside0.mk (Kd.V_below (by (with_reducible repeat (first | apply Kd.V_alloc | apply Kd.V_drewN | apply Kd.V_drew)); exact HO_730001.out) hb)
      have n1_ := Aside0.mk (Kd.V_below (by (with_reducible repeat (first | apply Kd.V_alloc | apply Kd.V_drewN | apply Kd.V_drew)); exact HO_735001.out) hb)
      have n2_ := Aside0.mk (Kd.V_below (by (with_reducible repeat (first | apply Kd.V_alloc | apply Kd.V_drewN | apply Kd.V_drew)); exact HO_755001.out) hb)
      have n3_ := Aside0.mk (Kd.V_below (by (with_reducible repeat (first | apply Kd.V_alloc | apply Kd.V_drewN | apply Kd.V_drew)); exact HO_756001.out) hb)
      have n4_ := Aside0.mk (Kd.V_below (by (with_reducible repeat (first | apply Kd.V_alloc | apply Kd.V_drewN | apply Kd.V_drew)); exact HO764.out) hb)
      have n5_ := Aside0.mk (Kd.V_lower (Kd.V_mono (ok' := fun k_ => k_ ≠ gb710 ∧ k_ ≠ gb711 ∧ k_ ≠ gb723 ∧ k_ ≠ gb724 ∧ k_ ≠ gb729 ∧ k_ ≠ gb734 ∧ k_ ≠ gb754 ∧ k_ ≠ gb755) ho0 (fun k_ hk_ => ⟨(Kd.freshB (g := gb710) (o := .cells #[.bool a0_0, .int .u64 a0_1, .int .u64 a0_2, .int .u64 a0_3, .int .u64 a0_4] 27 (0, 0)) (by exact lb BK710.out) k_ hk_), (Kd.freshB (g := gb711) (o := .cells #[.bool a1_0, .int .u64 a1_1, .int .u64 a1_2, .int .u64 a1_3, .int .u64 a1_4] 27 (0, 0)) (by exact lb BK711.out) k_ hk_), (Kd.freshB (g := gb723) (o := .cells #[.bool t712, .int .u64 t713, .int .u64 t714, .int .u64 t715, .int .u64 t716] 27 (0, 0)) (by exact lb BK723.out) k_ hk_), (Kd.freshB (g := gb724) (o := .cells #[.bool t717, .int .u64 t718, .int .u64 t719, .int .u64 t720, .int .u64 t721] 27 (0, 0)) (by exact lb BK724.out) k_ hk_), (Kd.freshB (g := gb729) (o := .cells #[.bool t725, .slice Ao188 t726.length co188] 38 (0, 0)) (by exact lb BK729.out) k_ hk_), (Kd.freshB (g := gb734) (o := .cells #[.bool t730, .slice Ao198 t731.length co198] 38 (0, 0)) (by exact lb BK734.out) k_ hk_), (Kd.freshB (g := gb754) (o := .cells #[.bool t750, .slice Ao210 t751.length co210] 38 (0, 0)) (by exact lb BK754.out) k_ hk_), (Kd.freshB (g := gb755) (o := .cells #[.bool x756000_163, u756001] 38 (0, 0)) (by exact lb BK755.out) k_ hk_)⟩)) (below_size (by repeat (first | (with_reducible first | exact HB.out | apply qa | apply qn | apply qd | refine qs ?_ GE710.out | refine qs ?_ GE711.out | refine qs ?_ GE723.out | refine qs ?_ GE724.out | refine qs ?_ GE729.out | refine qs ?_ GE734.out | refine qs ?_ GE754.out | refine qs ?_ GE755.out) | exact HB.out))))
      have n6_ := bb BK710 hb
      have n7_ := bb BK711 hb
      have n8_ := bb BK723 hb
      have n9_ := bb BK724 hb
      have n10_ := bb BK729 hb
      have n11_ := bb BK734 hb
      have n12_ := bb BK754 hb
      have n13_ := bb BK755 hb
      have n14_ := Aside0.mk (below_step (by repeat (first | (with_reducible first | exact HB.out | apply qa | apply qn | apply qd | refine qs ?_ GE710.out | refine qs ?_ GE711.out | refine qs ?_ GE723.out | refine qs ?_ GE724.out | refine qs ?_ GE729.out | refine qs ?_ GE734.out | refine qs ?_ GE754.out | refine qs ?_ GE755.out) | exact HB.out)) hb)
      clear HO_730001
      clear HO_735001
      clear HO_755001
      clear HO_756001
      clear HO764
      clear BK710
      clear BK711
      clear BK723
      clear BK724
      clear BK729
      clear BK734
      clear BK754
      clear BK755
      clear HB
      have HO_730001 := n0_
      have HO_735001 := n1_
      have HO_755001 := n2_
      have HO_756001 := n3_
      have HO764 := n4_
      have HO768 := n5_
      have BK710 := n6_
      have BK711 := n7_
      have BK723 := n8_
      have BK724 := n9_
      have BK729 := n10_
      have BK734 := n11_
      have BK754 := n12_
      have BK755 := n13_
      have HB := n14_
      clear n0_ n1_ n2_ n3_ n4_ n5_ n6_ n7_ n8_ n9_ n10_ n11_ n12_ n13_ n14_
      (try clear hb)
      (try clear hb2)
      (try clear hk)
      (try clear hi)
      (try clear ho0)
      obtain ⟨Ao257, co257, eo257⟩ := Kd.V_slice HO768.out
      (first | subst eo257 | (injection eo257 with f1_ f2_ f3_; have f4_ := f1_.symm; have f5_ := f3_.symm; clear f1_ f2_ f3_; subst f4_; subst f5_))
      refine hK.out _ _ ⟨(blk_cell BK723.out 0).trans rfl, (blk_cell BK723.out 1).trans rfl, (blk_cell BK723.out 2).trans rfl, (blk_cell BK723.out 3).trans rfl, (blk_cell BK723.out 4).trans rfl, (blk_cell BK734.out 0).trans rfl, (blk_cell BK734.out 1).trans rfl, (blk_cell BK754.out 0).trans rfl, (blk_cell BK754.out 1).trans rfl⟩ (fun hHeld => ?_)
      clear hK K
      refine norm_ (a' := ?_) ?_ ?_
      rotate_left
      ·show Act.put _ (some 81) _ = _
       simp only [Act.put, List.setIfInBounds_toArray, List.set_cons_zero, List.set_cons_succ, i64_w, i32_w]
       rfl
      refine two_ (i := 5) (j := 6) (Ni := some 83) (Nj := some 13) #[Tt, Tt, Tt, Tt, Tt, Tt, Ff, Ff] #[Tt, Tt, Tt, Tt, Tt, Ff, Tt, Ff] rfl rfl rfl rfl (two_of HT_.out (by kernel_rfl)) (by decide) (by decide) (fun K hK => ?_) (fun K hK => ?_)
      ·skip
       refine goes_ Try.func30 (by kernel_rfl) rfl #[.agg #[.bool t765, .slice Ao257 t766.length co257], .agg #[.bool t750, .slice Ao210 t751.length co210]] (by rfl) rfl rfl (by (try simp only [List.map_toArray, List.map_cons, List.map_nil]); first | done | rfl | (simp only [List.length_drop, List.length_take]; rfl)) ?_
       with_reducible refine (parquetref01_Num_Plus.calls kj163 t765 (fun k_ => (k_ ≠ gb710 ∧ (k_ ≠ gb711 ∧ (k_ ≠ gb723 ∧ (k_ ≠ gb724 ∧ (k_ ≠ gb729 ∧ (k_ ≠ gb734 ∧ (k_ ≠ gb754 ∧ k_ ≠ gb755)))))))) _ _ t766 t750 (fun k_ => (k_ ≠ gb710 ∧ (k_ ≠ gb711 ∧ (k_ ≠ gb723 ∧ (k_ ≠ gb724 ∧ (k_ ≠ gb729 ∧ (k_ ≠ gb734 ∧ (k_ ≠ gb754 ∧ k_ ≠ gb755)))))))) _ _ t751 t769 t770 _ ?side1 ?side2 A244.out).mono ?_
       (case side1 => exact HO768.out)
       (case side2 => exact HO_755001.out)
       rintro e w258 ⟨v771, rfl, ho0, hb⟩
       refine ⟨_, rfl, ?_⟩
       have n0_ := Aside0.mk (Kd.V_below (by (with_reducible repeat (first | apply Kd.V_alloc | apply Kd.V_drewN | apply Kd.V_drew)); exact HO_730001.out) hb)
       have n1_ := Aside0.mk (Kd.V_below (by (with_reducible repeat (first | apply Kd.V_alloc | apply Kd.V_drewN | apply Kd.V_drew)); exact HO_735001.out) hb)
       have n2_ := Aside0.mk (Kd.V_below (by (with_reducible repeat (first | apply Kd.V_alloc | apply Kd.V_drewN | apply Kd.V_drew)); exact HO_755001.out) hb)
       have n3_ := Aside0.mk (Kd.V_below (by (with_reducible repeat (first | apply Kd.V_alloc | apply Kd.V_drewN | apply Kd.V_drew)); exact HO_756001.out) hb)
       have n4_ := Aside0.mk (Kd.V_below (by (with_reducible repeat (first | apply Kd.V_alloc | apply Kd.V_drewN | apply Kd.V_drew)); exact HO764.out) hb)
       have n5_ := Aside0.mk (Kd.V_below (by (with_reducible repeat (first | apply Kd.V_alloc | apply Kd.V_drewN | apply Kd.V_drew)); exact HO768.out) hb)
       have n6_ := Aside0.mk (Kd.V_lower (Kd.V_mono (ok' := fun k_ => k_ ≠ gb710 ∧ k_ ≠ gb711 ∧ k_ ≠ gb723 ∧ k_ ≠ gb724 ∧ k_ ≠ gb729 ∧ k_ ≠ gb734 ∧ k_ ≠ gb754 ∧ k_ ≠ gb755) ho0 (fun k_ hk_ => ⟨Or.elim hk_ (fun hs_ => Or.elim hs_ (fun hs_ => hs_.1) (fun hs_ => hs_.1)) (fun hn_ => (Kd.freshB (g := gb710) (o := .cells #[.bool a0_0, .int .u64 a0_1, .int .u64 a0_2, .int .u64 a0_3, .int .u64 a0_4] 27 (0, 0)) (by exact lb BK710.out) k_ hn_)), Or.elim hk_ (fun hs_ => Or.elim hs_ (fun hs_ => hs_.2.1) (fun hs_ => hs_.2.1)) (fun hn_ => (Kd.freshB (g := gb711) (o := .cells #[.bool a1_0, .int .u64 a1_1, .int .u64 a1_2, .int .u64 a1_3, .int .u64 a1_4] 27 (0, 0)) (by exact lb BK711.out) k_ hn_)), Or.elim hk_ (fun hs_ => Or.elim hs_ (fun hs_ => hs_.2.2.1) (fun hs_ => hs_.2.2.1)) (fun hn_ => (Kd.freshB (g := gb723) (o := .cells #[.bool t712, .int .u64 t713, .int .u64 t714, .int .u64 t715, .int .u64 t716] 27 (0, 0)) (by exact lb BK723.out) k_ hn_)), Or.elim hk_ (fun hs_ => Or.elim hs_ (fun hs_ => hs_.2.2.2.1) (fun hs_ => hs_.2.2.2.1)) (fun hn_ => (Kd.freshB (g := gb724) (o := .cells #[.bool t717, .int .u64 t718, .int .u64 t719, .int .u64 t720, .int .u64 t721] 27 (0, 0)) (by exact lb BK724.out) k_ hn_)), Or.elim hk_ (fun hs_ => Or.elim hs_ (fun hs_ => hs_.2.2.2.2.1) (fun hs_ => hs_.2.2.2.2.1)) (fun hn_ => (Kd.freshB (g := gb729) (o := .cells #[.bool t725, .slice Ao188 t726.length co188] 38 (0, 0)) (by exact lb BK729.out) k_ hn_)), Or.elim hk_ (fun hs_ => Or.elim hs_ (fun hs_ => hs_.2.2.2.2.2.1) (fun hs_ => hs_.2.2.2.2.2.1)) (fun hn_ => (Kd.freshB (g := gb734) (o := .cells #[.bool t730, .slice Ao198 t731.length co198] 38 (0, 0)) (by exact lb BK734.out) k_ hn_)), Or.elim hk_ (fun hs_ => Or.elim hs_ (fun hs_ => hs_.2.2.2.2.2.2.1) (fun hs_ => hs_.2.2.2.2.2.2.1)) (fun hn_ => (Kd.freshB (g := gb754) (o := .cells #[.bool t750, .slice Ao210 t751.length co210] 38 (0, 0)) (by exact lb BK754.out) k_ hn_)), Or.elim hk_ (fun hs_ => Or.elim hs_ (fun hs_ => hs_.2.2.2.2.2.2.2) (fun hs_ => hs_.2.2.2.2.2.2.2)) (fun hn_ => (Kd.freshB (g := gb755) (o := .cells #[.bool x756000_163, u756001] 38 (0, 0)) (by exact lb BK755.out) k_ hn_))⟩)) (below_size (by repeat (first | (with_reducible first | exact HB.out | apply qa | apply qn | apply qd | refine qs ?_ GE710.out | refine qs ?_ GE711.out | refine qs ?_ GE723.out | refine qs ?_ GE724.out | refine qs ?_ GE729.out | refine qs ?_ GE734.out | refine qs ?_ GE754.out | refine qs ?_ GE755.out) | exact HB.out))))
       have n7_ := bb BK710 hb
       have n8_ := bb BK711 hb
       have n9_ := bb BK723 hb
       have n10_ := bb BK724 hb
       have n11_ := bb BK729 hb
       have n12_ := bb BK734 hb
       have n13_ := bb BK754 hb
       have n14_ := bb BK755 hb
       have n15_ := Aside0.mk (below_step (by repeat (first | (with_reducible first | exact HB.out | apply qa | apply qn | apply qd | refine qs ?_ GE710.out | refine qs ?_ GE711.out | refine qs ?_ GE723.out | refine qs ?_ GE724.out | refine qs ?_ GE729.out | refine qs ?_ GE734.out | refine qs ?_ GE754.out | refine qs ?_ GE755.out) | exact HB.out)) hb)
       clear HO_730001
       clear HO_735001
       clear HO_755001
       clear HO_756001
       clear HO764
       clear HO768
       clear BK710
       clear BK711
       clear BK723
       clear BK724
       clear BK729
       clear BK734
       clear BK754
       clear BK755
       clear HB
       have HO_730001 := n0_
       have HO_735001 := n1_
       have HO_755001 := n2_
       have HO_756001 := n3_
       have HO764 := n4_
       have HO768 := n5_
       have HO772 := n6_
       have BK710 := n7_
       have BK711 := n8_
       have BK723 := n9_
       have BK724 := n10_
       have BK729 := n11_
       have BK734 := n12_
       have BK754 := n13_
       have BK755 := n14_
       have HB := n15_
       clear n0_ n1_ n2_ n3_ n4_ n5_ n6_ n7_ n8_ n9_ n10_ n11_ n12_ n13_ n14_ n15_
       (try clear hb)
       (try clear hb2)
       (try clear hk)
       (try clear hi)
       (try clear ho0)
       refine hK.out _ _ ⟨(blk_cell BK723.out 0).trans rfl, (blk_cell BK723.out 1).trans rfl, (blk_cell BK723.out 2).trans rfl, (blk_cell BK723.out 3).trans rfl, (blk_cell BK723.out 4).trans rfl, (blk_cell BK734.out 0).trans rfl, (blk_cell BK734.out 1).trans rfl, (blk_cell BK754.out 0).trans rfl, (blk_cell BK754.out 1).trans rfl⟩ (fun hHeld => ?_)
       clear hK K
       refine norm_ (a' := ?_) ?_ ?_
       rotate_left
       ·show Act.put _ (some 83) _ = _
        simp only [Act.put, List.setIfInBounds_toArray, List.set_cons_zero, List.set_cons_succ, i64_w, i32_w]
        rfl
       refine one_ (i := 6) (N := some 13) #[Tt, Tt, Tt, Tt, Tt, Tt, Tt, Ff] rfl rfl (one_of HT_.out (by kernel_rfl)) (by decide) (fun K hK => ?_)
       refine box_step ?hg (N := 13) ?hd (cs := #[.bool false, .slice none 0 0]) (t := 38) ?hr ?_; (case hd => rfl); (case hg => rfl); (case hr => first | (go_simp; done) | (go_simp; rfl))
       intro gb773 hg w259 hbox hb
       have n0_ := Aside0.mk (Kd.V_below (Kd.V_elderB (by (with_reducible repeat (first | apply Kd.V_alloc | apply Kd.V_drewN | apply Kd.V_drew)); exact HO_730001.out) gb773 (Nat.le_of_eq hg.symm)) hb)
       have n1_ := Aside0.mk (Kd.V_below (Kd.V_elderB (by (with_reducible repeat (first | apply Kd.V_alloc | apply Kd.V_drewN | apply Kd.V_drew)); exact HO_735001.out) gb773 (Nat.le_of_eq hg.symm)) hb)
       have n2_ := Aside0.mk (Kd.V_below (Kd.V_elderB (by (with_reducible repeat (first | apply Kd.V_alloc | apply Kd.V_drewN | apply Kd.V_drew)); exact HO_755001.out) gb773 (Nat.le_of_eq hg.symm)) hb)
       have n3_ := Aside0.mk (Kd.V_below (Kd.V_elderB (by (with_reducible repeat (first | apply Kd.V_alloc | apply Kd.V_drewN | apply Kd.V_drew)); exact HO_756001.out) gb773 (Nat.le_of_eq hg.symm)) hb)
       have n4_ := Aside0.mk (Kd.V_below (Kd.V_elderB (by (with_reducible repeat (first | apply Kd.V_alloc | apply Kd.V_drewN | apply Kd.V_drew)); exact HO764.out) gb773 (Nat.le_of_eq hg.symm)) hb)
       have n5_ := Aside0.mk (Kd.V_below (Kd.V_elderB (by (with_reducible repeat (first | apply Kd.V_alloc | apply Kd.V_drewN | apply Kd.V_drew)); exact HO768.out) gb773 (Nat.le_of_eq hg.symm)) hb)
       have n6_ := Aside0.mk (Kd.V_below (Kd.V_elderB (by (with_reducible repeat (first | apply Kd.V_alloc | apply Kd.V_drewN | apply Kd.V_drew)); exact HO772.out) gb773 (Nat.le_of_eq hg.symm)) hb)
       have n7_ := bb BK710 hb
       have n8_ := bb BK711 hb
       have n9_ := bb BK723 hb
       have n10_ := bb BK724 hb
       have n11_ := bb BK729 hb
       have n12_ := bb BK734 hb
       have n13_ := bb BK754 hb
       have n14_ := bb BK755 hb
       have n15_ := Aside0.mk (below_step (by repeat (first | (with_reducible first | exact HB.out | apply qa | apply qn | apply qd | refine qs ?_ GE710.out | refine qs ?_ GE711.out | refine qs ?_ GE723.out | refine qs ?_ GE724.out | refine qs ?_ GE729.out | refine qs ?_ GE734.out | refine qs ?_ GE754.out | refine qs ?_ GE755.out) | exact HB.out)) hb)
       have n16_ := Aside0.mk (hbox)
       have n17_ := bgw HB hg
       have n18_ := bgw HB hg
       have n19_ := bnl BK710 hg
       have n20_ := bng BK710 hg
       have n21_ := bnl BK711 hg
       have n22_ := bng BK711 hg
       have n23_ := bnl BK723 hg
       have n24_ := bng BK723 hg
       have n25_ := bnl BK724 hg
       have n26_ := bng BK724 hg
       have n27_ := bnl BK729 hg
       have n28_ := bng BK729 hg
       have n29_ := bnl BK734 hg
       have n30_ := bng BK734 hg
       have n31_ := bnl BK754 hg
       have n32_ := bng BK754 hg
       have n33_ := bnl BK755 hg
       have n34_ := bng BK755 hg
       clear HO_730001
       clear HO_735001
       clear HO_755001
       clear HO_756001
       clear HO764
       clear HO768
       clear HO772
       clear BK710
       clear BK711
       clear BK723
       clear BK724
       clear BK729
       clear BK734
       clear BK754
       clear BK755
       clear HB
       have HO_730001 := n0_
       have HO_735001 := n1_
       have HO_755001 := n2_
       have HO_756001 := n3_
       have HO764 := n4_
       have HO768 := n5_
       have HO772 := n6_
       have BK710 := n7_
       have BK711 := n8_
       have BK723 := n9_
       have BK724 := n10_
       have BK729 := n11_
       have BK734 := n12_
       have BK754 := n13_
       have BK755 := n14_
       have HB := n15_
       have BK773 := n16_
       have GW773 := n17_
       have GE773 := n18_
       have NB710_773 := n19_
       have NB773_710 := n20_
       have NB711_773 := n21_
       have NB773_711 := n22_
       have NB723_773 := n23_
       have NB773_723 := n24_
       have NB724_773 := n25_
       have NB773_724 := n26_
       have NB729_773 := n27_
       have NB773_729 := n28_
       have NB734_773 := n29_
       have NB773_734 := n30_
       have NB754_773 := n31_
       have NB773_754 := n32_
       have NB755_773 := n33_
       have NB773_755 := n34_
       clear n0_ n1_ n2_ n3_ n4_ n5_ n6_ n7_ n8_ n9_ n10_ n11_ n12_ n13_ n14_ n15_ n16_ n17_ n18_ n19_ n20_ n21_ n22_ n23_ n24_ n25_ n26_ n27_ n28_ n29_ n30_ n31_ n32_ n33_ n34_
       clear hb hbox hg
       refine hK.out _ _ ⟨(blk_cell BK723.out 0).trans rfl, (blk_cell BK723.out 1).trans rfl, (blk_cell BK723.out 2).trans rfl, (blk_cell BK723.out 3).trans rfl, (blk_cell BK723.out 4).trans rfl, (blk_cell BK734.out 0).trans rfl, (blk_cell BK734.out 1).trans rfl, (blk_cell BK754.out 0).trans rfl, (blk_cell BK754.out 1).trans rfl⟩ (fun hHeld => ?_)
       clear hK K
       refine norm_ (a' := ?_) ?_ ?_
       rotate_left
       ·show Act.put _ (some 13) _ = _
        simp only [Act.put, List.setIfInBounds_toArray, List.set_cons_zero, List.set_cons_succ, i64_w, i32_w]
        rfl
       exact norm_ (by simp only [putAll, Act.put, List.setIfInBounds_toArray, List.set_cons_zero, List.set_cons_succ]) (hCont (.slice Ao255 t762.length co255, .slice Ao257 t766.length co257, v771, gb773) _ ⟨hHeld, (by (with_reducible repeat (first | apply Kd.V_alloc | apply Kd.V_drewN | apply Kd.V_drew)); exact Kd.V_mono HO764.out (fun _ hk => ⟨hk.1.1, ⟨hk.1.2.1, ⟨hk.1.2.2.1, ⟨hk.1.2.2.2.1, ⟨hk.1.2.2.2.2.1, ⟨hk.1.2.2.2.2.2.1, ⟨hk.1.2.2.2.2.2.2.1, ⟨hk.1.2.2.2.2.2.2.2, hk.2⟩⟩⟩⟩⟩⟩⟩⟩)), (by (with_reducible repeat (first | apply Kd.V_alloc | apply Kd.V_drewN | apply Kd.V_drew)); exact Kd.V_mono HO768.out (fun _ hk => ⟨hk.1.1, ⟨hk.1.2.1, ⟨hk.1.2.2.1, ⟨hk.1.2.2.2.1, ⟨hk.1.2.2.2.2.1, ⟨hk.1.2.2.2.2.2.1, ⟨hk.1.2.2.2.2.2.2.1, ⟨hk.1.2.2.2.2.2.2.2, hk.2⟩⟩⟩⟩⟩⟩⟩⟩)), (by (with_reducible repeat (first | apply Kd.V_alloc | apply Kd.V_drewN | apply Kd.V_drew)); exact Kd.V_mono HO772.out (fun _ hk => ⟨hk.1.1, ⟨hk.1.2.1, ⟨hk.1.2.2.1, ⟨hk.1.2.2.2.1, ⟨hk.1.2.2.2.2.1, ⟨hk.1.2.2.2.2.2.1, ⟨hk.1.2.2.2.2.2.2.1, ⟨hk.1.2.2.2.2.2.2.2, hk.2⟩⟩⟩⟩⟩⟩⟩⟩)), (by (with_reducible repeat (first | apply Kd.V_alloc | apply Kd.V_drewN | apply Kd.V_drew)); exact Kd.V_mono HO_730001.out (fun _ hk => ⟨hk.1.1, ⟨hk.1.2.1, ⟨hk.1.2.2.1, ⟨hk.1.2.2.2.1, ⟨hk.1.2.2.2.2.1, ⟨hk.1.2.2.2.2.2.1, ⟨hk.1.2.2.2.2.2.2.1, ⟨hk.1.2.2.2.2.2.2.2, hk.2⟩⟩⟩⟩⟩⟩⟩⟩)), (by (with_reducible repeat (first | apply Kd.V_alloc | apply Kd.V_drewN | apply Kd.V_drew)); exact Kd.V_mono HO_735001.out (fun _ hk => ⟨hk.1.1, ⟨hk.1.2.1, ⟨hk.1.2.2.1, ⟨hk.1.2.2.2.1, ⟨hk.1.2.2.2.2.1, ⟨hk.1.2.2.2.2.2.1, ⟨hk.1.2.2.2.2.2.2.1, ⟨hk.1.2.2.2.2.2.2.2, hk.2⟩⟩⟩⟩⟩⟩⟩⟩)), (by (with_reducible repeat (first | apply Kd.V_alloc | apply Kd.V_drewN | apply Kd.V_drew)); exact Kd.V_mono HO_755001.out (fun _ hk => ⟨hk.1.1, ⟨hk.1.2.1, ⟨hk.1.2.2.1, ⟨hk.1.2.2.2.1, ⟨hk.1.2.2.2.2.1, ⟨hk.1.2.2.2.2.2.1, ⟨hk.1.2.2.2.2.2.2.1, ⟨hk.1.2.2.2.2.2.2.2, hk.2⟩⟩⟩⟩⟩⟩⟩⟩)), (by (with_reducible repeat (first | apply Kd.V_alloc | apply Kd.V_drewN | apply Kd.V_drew)); exact Kd.V_mono HO_756001.out (fun _ hk => ⟨hk.1.1, ⟨hk.1.2.1, ⟨hk.1.2.2.1, ⟨hk.1.2.2.2.1, ⟨hk.1.2.2.2.2.1, ⟨hk.1.2.2.2.2.2.1, ⟨hk.1.2.2.2.2.2.2.1, ⟨hk.1.2.2.2.2.2.2.2, hk.2⟩⟩⟩⟩⟩⟩⟩⟩)), (by exact lb BK710.out), (by exact lb BK711.out), (by exact lb BK723.out), (by exact lb BK724.out), (by exact lb BK729.out), (by exact lb BK734.out), (by exact lb BK754.out), (by exact lb BK755.out), (by exact lb BK773.out), GW773.out, GE773.out, NB710_773.out, NB773_710.out, NB711_773.out, NB773_711.out, NB723_773.out, NB773_723.out, NB724_773.out, NB773_724.out, NB729_773.out, NB773_729.out, NB734_773.out, NB773_734.out, NB754_773.out, NB773_754.out, NB755_773.out, NB773_755.out, (by repeat (first | (with_reducible first | exact HB.out | apply qa | apply qn | apply qd | refine qs ?_ GE710.out | refine qs ?_ GE711.out | refine qs ?_ GE723.out | refine qs ?_ GE724.out | refine qs ?_ GE729.out | refine qs ?_ GE734.out | refine qs ?_ GE754.out | refine qs ?_ GE755.out | refine qs ?_ GE773.out) | exact HB.out))⟩)
      ·skip
       refine box_step ?hg (N := 13) ?hd (cs := #[.bool false, .slice none 0 0]) (t := 38) ?hr ?_; (case hd => rfl); (case hg => rfl); (case hr => first | (go_simp; done) | (go_simp; rfl))
       intro gb773 hg w257 hbox hb
       have n0_ := Aside0.mk (Kd.V_below (Kd.V_elderB (by (with_reducible repeat (first | apply Kd.V_alloc | apply Kd.V_drewN | apply Kd.V_drew)); exact HO_730001.out) gb773 (Nat.le_of_eq hg.symm)) hb)
       have n1_ := Aside0.mk (Kd.V_below (Kd.V_elderB (by (with_reducible repeat (first | apply Kd.V_alloc | apply Kd.V_drewN | apply Kd.V_drew)); exact HO_735001.out) gb773 (Nat.le_of_eq hg.symm)) hb)
       have n2_ := Aside0.mk (Kd.V_below (Kd.V_elderB (by (with_reducible repeat (first | apply Kd.V_alloc | apply Kd.V_drewN | apply Kd.V_drew)); exact HO_755001.out) gb773 (Nat.le_of_eq hg.symm)) hb)
       have n3_ := Aside0.mk (Kd.V_below (Kd.V_elderB (by (with_reducible repeat (first | apply Kd.V_alloc | apply Kd.V_drewN | apply Kd.V_drew)); exact HO_756001.out) gb773 (Nat.le_of_eq hg.symm)) hb)
       have n4_ := Aside0.mk (Kd.V_below (Kd.V_elderB (by (with_reducible repeat (first | apply Kd.V_alloc | apply Kd.V_drewN | apply Kd.V_drew)); exact HO764.out) gb773 (Nat.le_of_eq hg.symm)) hb)
       have n5_ := Aside0.mk (Kd.V_below (Kd.V_elderB (by (with_reducible repeat (first | apply Kd.V_alloc | apply Kd.V_drewN | apply Kd.V_drew)); exact HO768.out) gb773 (Nat.le_of_eq hg.symm)) hb)
       have n6_ := bb BK710 hb
       have n7_ := bb BK711 hb
       have n8_ := bb BK723 hb
       have n9_ := bb BK724 hb
       have n10_ := bb BK729 hb
       have n11_ := bb BK734 hb
       have n12_ := bb BK754 hb
       have n13_ := bb BK755 hb
       have n14_ := Aside0.mk (below_step (by repeat (first | (with_reducible first | exact HB.out | apply qa | apply qn | apply qd | refine qs ?_ GE710.out | refine qs ?_ GE711.out | refine qs ?_ GE723.out | refine qs ?_ GE724.out | refine qs ?_ GE729.out | refine qs ?_ GE734.out | refine qs ?_ GE754.out | refine qs ?_ GE755.out) | exact HB.out)) hb)
       have n15_ := Aside0.mk (hbox)
       have n16_ := bgw HB hg
       have n17_ := bgw HB hg
       have n18_ := bnl BK710 hg
       have n19_ := bng BK710 hg
       have n20_ := bnl BK711 hg
       have n21_ := bng BK711 hg
       have n22_ := bnl BK723 hg
       have n23_ := bng BK723 hg
       have n24_ := bnl BK724 hg
       have n25_ := bng BK724 hg
       have n26_ := bnl BK729 hg
       have n27_ := bng BK729 hg
       have n28_ := bnl BK734 hg
       have n29_ := bng BK734 hg
       have n30_ := bnl BK754 hg
       have n31_ := bng BK754 hg
       have n32_ := bnl BK755 hg
       have n33_ := bng BK755 hg
       clear HO_730001
       clear HO_735001
       clear HO_755001
       clear HO_756001
       clear HO764
       clear HO768
       clear BK710
       clear BK711
       clear BK723
       clear BK724
       clear BK729
       clear BK734
       clear BK754
       clear BK755
       clear HB
       have HO_730001 := n0_
       have HO_735001 := n1_
       have HO_755001 := n2_
       have HO_756001 := n3_
       have HO764 := n4_
       have HO768 := n5_
       have BK710 := n6_
       have BK711 := n7_
       have BK723 := n8_
       have BK724 := n9_
       have BK729 := n10_
       have BK734 := n11_
       have BK754 := n12_
       have BK755 := n13_
       have HB := n14_
       have BK773 := n15_
       have GW773 := n16_
       have GE773 := n17_
       have NB710_773 := n18_
       have NB773_710 := n19_
       have NB711_773 := n20_
       have NB773_711 := n21_
       have NB723_773 := n22_
       have NB773_723 := n23_
       have NB724_773 := n24_
       have NB773_724 := n25_
       have NB729_773 := n26_
       have NB773_729 := n27_
       have NB734_773 := n28_
       have NB773_734 := n29_
       have NB754_773 := n30_
       have NB773_754 := n31_
       have NB755_773 := n32_
       have NB773_755 := n33_
       clear n0_ n1_ n2_ n3_ n4_ n5_ n6_ n7_ n8_ n9_ n10_ n11_ n12_ n13_ n14_ n15_ n16_ n17_ n18_ n19_ n20_ n21_ n22_ n23_ n24_ n25_ n26_ n27_ n28_ n29_ n30_ n31_ n32_ n33_
       clear hb hbox hg
       obtain ⟨Ao258, co258, eo258⟩ := Kd.V_slice HO768.out
       (first | subst eo258 | (injection eo258 with f1_ f2_ f3_; have f4_ := f1_.symm; have f5_ := f3_.symm; clear f1_ f2_ f3_; subst f4_; subst f5_))
       refine hK.out _ _ ⟨(blk_cell BK723.out 0).trans rfl, (blk_cell BK723.out 1).trans rfl, (blk_cell BK723.out 2).trans rfl, (blk_cell BK723.out 3).trans rfl, (blk_cell BK723.out 4).trans rfl, (blk_cell BK734.out 0).trans rfl, (blk_cell BK734.out 1).trans rfl, (blk_cell BK754.out 0).trans rfl, (blk_cell BK754.out 1).trans rfl⟩ (fun hHeld => ?_)
       clear hK K
       refine norm_ (a' := ?_) ?_ ?_
       rotate_left
       ·show Act.put _ (some 13) _ = _
        simp only [Act.put, List.setIfInBounds_toArray, List.set_cons_zero, List.set_cons_succ, i64_w, i32_w]
        rfl
       refine one_ (i := 5) (N := some 83) #[Tt, Tt, Tt, Tt, Tt, Tt, Tt, Ff] rfl rfl (one_of HT_.out (by kernel_rfl)) (by decide) (fun K hK => ?_)
       refine goes_ Try.func30 (by kernel_rfl) rfl #[.agg #[.bool t765, .slice Ao258 t766.length co258], .agg #[.bool t750, .slice Ao210 t751.length co210]] (by rfl) rfl rfl (by (try simp only [List.map_toArray, List.map_cons, List.map_nil]); first | done | rfl | (simp only [List.length_drop, List.length_take]; rfl)) ?_
       with_reducible refine (parquetref01_Num_Plus.calls kj163 t765 (fun k_ => ((k_ ≠ gb710 ∧ (k_ ≠ gb711 ∧ (k_ ≠ gb723 ∧ (k_ ≠ gb724 ∧ (k_ ≠ gb729 ∧ (k_ ≠ gb734 ∧ (k_ ≠ gb754 ∧ k_ ≠ gb755))))))) ∧ k_ ≠ gb773)) _ _ t766 t750 (fun k_ => ((k_ ≠ gb710 ∧ (k_ ≠ gb711 ∧ (k_ ≠ gb723 ∧ (k_ ≠ gb724 ∧ (k_ ≠ gb729 ∧ (k_ ≠ gb734 ∧ (k_ ≠ gb754 ∧ k_ ≠ gb755))))))) ∧ k_ ≠ gb773)) _ _ t751 t769 t770 _ ?side1 ?side2 A244.out).mono ?_
       (case side1 => exact HO768.out)
       (case side2 => exact HO_755001.out)
       rintro e w259 ⟨v771, rfl, ho0, hb⟩
       refine ⟨_, rfl, ?_⟩
       have n0_ := Aside0.mk (Kd.V_below (by (with_reducible repeat (first | apply Kd.V_alloc | apply Kd.V_drewN | apply Kd.V_drew)); exact HO_730001.out) hb)
       have n1_ := Aside0.mk (Kd.V_below (by (with_reducible repeat (first | apply Kd.V_alloc | apply Kd.V_drewN | apply Kd.V_drew)); exact HO_735001.out) hb)
       have n2_ := Aside0.mk (Kd.V_below (by (with_reducible repeat (first | apply Kd.V_alloc | apply Kd.V_drewN | apply Kd.V_drew)); exact HO_755001.out) hb)
       have n3_ := Aside0.mk (Kd.V_below (by (with_reducible repeat (first | apply Kd.V_alloc | apply Kd.V_drewN | apply Kd.V_drew)); exact HO_756001.out) hb)
       have n4_ := Aside0.mk (Kd.V_below (by (with_reducible repeat (first | apply Kd.V_alloc | apply Kd.V_drewN | apply Kd.V_drew)); exact HO764.out) hb)
       have n5_ := Aside0.mk (Kd.V_below (by (with_reducible repeat (first | apply Kd.V_alloc | apply Kd.V_drewN | apply Kd.V_drew)); exact HO768.out) hb)
       have n6_ := Aside0.mk (Kd.V_lower (Kd.V_mono (ok' := fun k_ => k_ ≠ gb710 ∧ k_ ≠ gb711 ∧ k_ ≠ gb723 ∧ k_ ≠ gb724 ∧ k_ ≠ gb729 ∧ k_ ≠ gb734 ∧ k_ ≠ gb754 ∧ k_ ≠ gb755 ∧ k_ ≠ gb773) ho0 (fun k_ hk_ => ⟨Or.elim hk_ (fun hs_ => Or.elim hs_ (fun hs_ => hs_.1.1) (fun hs_ => hs_.1.1)) (fun hn_ => (Kd.freshB (g := gb710) (o := .cells #[.bool a0_0, .int .u64 a0_1, .int .u64 a0_2, .int .u64 a0_3, .int .u64 a0_4] 27 (0, 0)) (by exact lb BK710.out) k_ hn_)), Or.elim hk_ (fun hs_ => Or.elim hs_ (fun hs_ => hs_.1.2.1) (fun hs_ => hs_.1.2.1)) (fun hn_ => (Kd.freshB (g := gb711) (o := .cells #[.bool a1_0, .int .u64 a1_1, .int .u64 a1_2, .int .u64 a1_3, .int .u64 a1_4] 27 (0, 0)) (by exact lb BK711.out) k_ hn_)), Or.elim hk_ (fun hs_ => Or.elim hs_ (fun hs_ => hs_.1.2.2.1) (fun hs_ => hs_.1.2.2.1)) (fun hn_ => (Kd.freshB (g := gb723) (o := .cells #[.bool t712, .int .u64 t713, .int .u64 t714, .int .u64 t715, .int .u64 t716] 27 (0, 0)) (by exact lb BK723.out) k_ hn_)), Or.elim hk_ (fun hs_ => Or.elim hs_ (fun hs_ => hs_.1.2.2.2.1) (fun hs_ => hs_.1.2.2.2.1)) (fun hn_ => (Kd.freshB (g := gb724) (o := .cells #[.bool t717, .int .u64 t718, .int .u64 t719, .int .u64 t720, .int .u64 t721] 27 (0, 0)) (by exact lb BK724.out) k_ hn_)), Or.elim hk_ (fun hs_ => Or.elim hs_ (fun hs_ => hs_.1.2.2.2.2.1) (fun hs_ => hs_.1.2.2.2.2.1)) (fun hn_ => (Kd.freshB (g := gb729) (o := .cells #[.bool t725, .slice Ao188 t726.length co188] 38 (0, 0)) (by exact lb BK729.out) k_ hn_)), Or.elim hk_ (fun hs_ => Or.elim hs_ (fun hs_ => hs_.1.2.2.2.2.2.1) (fun hs_ => hs_.1.2.2.2.2.2.1)) (fun hn_ => (Kd.freshB (g := gb734) (o := .cells #[.bool t730, .slice Ao198 t731.length co198] 38 (0, 0)) (by exact lb BK734.out) k_ hn_)), Or.elim hk_ (fun hs_ => Or.elim hs_ (fun hs_ => hs_.1.2.2.2.2.2.2.1) (fun hs_ => hs_.1.2.2.2.2.2.2.1)) (fun hn_ => (Kd.freshB (g := gb754) (o := .cells #[.bool t750, .slice Ao210 t751.length co210] 38 (0, 0)) (by exact lb BK754.out) k_ hn_)), Or.elim hk_ (fun hs_ => Or.elim hs_ (fun hs_ => hs_.1.2.2.2.2.2.2.2) (fun hs_ => hs_.1.2.2.2.2.2.2.2)) (fun hn_ => (Kd.freshB (g := gb755) (o := .cells #[.bool x756000_163, u756001] 38 (0, 0)) (by exact lb BK755.out) k_ hn_)), Or.elim hk_ (fun hs_ => Or.elim hs_ (fun hs_ => hs_.2) (fun hs_ => hs_.2)) (fun hn_ => (Kd.freshB (g := gb773) (o := .cells #[.bool false, .slice none 0 0] 38 (0, 0)) (by exact lb BK773.out) k_ hn_))⟩)) (below_size (by repeat (first | (with_reducible first | exact HB.out | apply qa | apply qn | apply qd | refine qs ?_ GE710.out | refine qs ?_ GE711.out | refine qs ?_ GE723.out | refine qs ?_ GE724.out | refine qs ?_ GE729.out | refine qs ?_ GE734.out | refine qs ?_ GE754.out | refine qs ?_ GE755.out | refine qs ?_ GE773.out) | exact HB.out))))
       have n7_ := bb BK710 hb
       have n8_ := bb BK711 hb
       have n9_ := bb BK723 hb
       have n10_ := bb BK724 hb
       have n11_ := bb BK729 hb
       have n12_ := bb BK734 hb
       have n13_ := bb BK754 hb
       have n14_ := bb BK755 hb
       have n15_ := bb BK773 hb
       have n16_ := Aside0.mk (below_step (by repeat (first | (with_reducible first | exact HB.out | apply qa | apply qn | apply qd | refine qs ?_ GE710.out | refine qs ?_ GE711.out | refine qs ?_ GE723.out | refine qs ?_ GE724.out | refine qs ?_ GE729.out | refine qs ?_ GE734.out | refine qs ?_ GE754.out | refine qs ?_ GE755.out | refine qs ?_ GE773.out) | exact HB.out)) hb)
       clear HO_730001
       clear HO_735001
       clear HO_755001
       clear HO_756001
       clear HO764
       clear HO768
       clear BK710
       clear BK711
       clear BK723
       clear BK724
       clear BK729
       clear BK734
       clear BK754
       clear BK755
       clear BK773
       clear HB
       have HO_730001 := n0_
       have HO_735001 := n1_
       have HO_755001 := n2_
       have HO_756001 := n3_
       have HO764 := n4_
       have HO768 := n5_
       have HO772 := n6_
       have BK710 := n7_
       have BK711 := n8_
       have BK723 := n9_
       have BK724 := n10_
       have BK729 := n11_
       have BK734 := n12_
       have BK754 := n13_
       have BK755 := n14_
       have BK773 := n15_
       have HB := n16_
       clear n0_ n1_ n2_ n3_ n4_ n5_ n6_ n7_ n8_ n9_ n10_ n11_ n12_ n13_ n14_ n15_ n16_
       (try clear hb)
       (try clear hb2)
       (try clear hk)
       (try clear hi)
       (try clear ho0)
       refine hK.out _ _ ⟨(blk_cell BK723.out 0).trans rfl, (blk_cell BK723.out 1).trans rfl, (blk_cell BK723.out 2).trans rfl, (blk_cell BK723.out 3).trans rfl, (blk_cell BK723.out 4).trans rfl, (blk_cell BK734.out 0).trans rfl, (blk_cell BK734.out 1).trans rfl, (blk_cell BK754.out 0).trans rfl, (blk_cell BK754.out 1).trans rfl⟩ (fun hHeld => ?_)
       clear hK K
       refine norm_ (a' := ?_) ?_ ?_
       rotate_left
       ·show Act.put _ (some 83) _ = _
        simp only [Act.put, List.setIfInBounds_toArray, List.set_cons_zero, List.set_cons_succ, i64_w, i32_w]
        rfl
       exact norm_ (by simp only [putAll, Act.put, List.setIfInBounds_toArray, List.set_cons_zero, List.set_cons_succ]) (hCont (.slice Ao255 t762.length co255, .slice Ao258 t766.length co258, v771, gb773) _ ⟨hHeld, (by (with_reducible repeat (first | apply Kd.V_alloc | apply Kd.V_drewN | apply Kd.V_drew)); exact Kd.V_mono HO764.out (fun _ hk => ⟨hk.1.1, ⟨hk.1.2.1, ⟨hk.1.2.2.1, ⟨hk.1.2.2.2.1, ⟨hk.1.2.2.2.2.1, ⟨hk.1.2.2.2.2.2.1, ⟨hk.1.2.2.2.2.2.2.1, ⟨hk.1.2.2.2.2.2.2.2, hk.2⟩⟩⟩⟩⟩⟩⟩⟩)), (by (with_reducible repeat (first | apply Kd.V_alloc | apply Kd.V_drewN | apply Kd.V_drew)); exact Kd.V_mono HO768.out (fun _ hk => ⟨hk.1.1, ⟨hk.1.2.1, ⟨hk.1.2.2.1, ⟨hk.1.2.2.2.1, ⟨hk.1.2.2.2.2.1, ⟨hk.1.2.2.2.2.2.1, ⟨hk.1.2.2.2.2.2.2.1, ⟨hk.1.2.2.2.2.2.2.2, hk.2⟩⟩⟩⟩⟩⟩⟩⟩)), (by (with_reducible repeat (first | apply Kd.V_alloc | apply Kd.V_drewN | apply Kd.V_drew)); exact HO772.out), (by (with_reducible repeat (first | apply Kd.V_alloc | apply Kd.V_drewN | apply Kd.V_drew)); exact Kd.V_mono HO_730001.out (fun _ hk => ⟨hk.1.1, ⟨hk.1.2.1, ⟨hk.1.2.2.1, ⟨hk.1.2.2.2.1, ⟨hk.1.2.2.2.2.1, ⟨hk.1.2.2.2.2.2.1, ⟨hk.1.2.2.2.2.2.2.1, ⟨hk.1.2.2.2.2.2.2.2, hk.2⟩⟩⟩⟩⟩⟩⟩⟩)), (by (with_reducible repeat (first | apply Kd.V_alloc | apply Kd.V_drewN | apply Kd.V_drew)); exact Kd.V_mono HO_735001.out (fun _ hk => ⟨hk.1.1, ⟨hk.1.2.1, ⟨hk.1.2.2.1, ⟨hk.1.2.2.2.1, ⟨hk.1.2.2.2.2.1, ⟨hk.1.2.2.2.2.2.1, ⟨hk.1.2.2.2.2.2.2.1, ⟨hk.1.2.2.2.2.2.2.2, hk.2⟩⟩⟩⟩⟩⟩⟩⟩)), (by (with_reducible repeat (first | apply Kd.V_alloc | apply Kd.V_drewN | apply Kd.V_drew)); exact Kd.V_mono HO_755001.out (fun _ hk => ⟨hk.1.1, ⟨hk.1.2.1, ⟨hk.1.2.2.1, ⟨hk.1.2.2.2.1, ⟨hk.1.2.2.2.2.1, ⟨hk.1.2.2.2.2.2.1, ⟨hk.1.2.2.2.2.2.2.1, ⟨hk.1.2.2.2.2.2.2.2, hk.2⟩⟩⟩⟩⟩⟩⟩⟩)), (by (with_reducible repeat (first | apply Kd.V_alloc | apply Kd.V_drewN | apply Kd.V_drew)); exact Kd.V_mono HO_756001.out (fun _ hk => ⟨hk.1.1, ⟨hk.1.2.1, ⟨hk.1.2.2.1, ⟨hk.1.2.2.2.1, ⟨hk.1.2.2.2.2.1, ⟨hk.1.2.2.2.2.2.1, ⟨hk.1.2.2.2.2.2.2.1, ⟨hk.1.2.2.2.2.2.2.2, hk.2⟩⟩⟩⟩⟩⟩⟩⟩)), (by exact lb BK710.out), (by exact lb BK711.out), (by exact lb BK723.out), (by exact lb BK724.out), (by exact lb BK729.out), (by exact lb BK734.out), (by exact lb BK754.out), (by exact lb BK755.out), (by exact lb BK773.out), GW773.out, GE773.out, NB710_773.out, NB773_710.out, NB711_773.out, NB773_711.out, NB723_773.out, NB773_723.out, NB724_773.out, NB773_724.out, NB729_773.out, NB773_729.out, NB734_773.out, NB773_734.out, NB754_773.out, NB773_754.out, NB755_773.out, NB773_755.out, (by repeat (first | (with_reducible first | exact HB.out | apply qa | apply qn | apply qd | refine qs ?_ GE710.out | refine qs ?_ GE711.out | refine qs ?_ GE723.out | refine qs ?_ GE724.out | refine qs ?_ GE729.out | refine qs ?_ GE734.out | refine qs ?_ GE754.out | refine qs ?_ GE755.out | refine qs ?_ GE773.out) | exact HB.out))⟩)
     ·skip
      refine box_step ?hg (N := 13) ?hd (cs := #[.bool false, .slice none 0 0]) (t := 38) ?hr ?_; (case hd => rfl); (case hg => rfl); (case hr => first | (go_simp; done) | (go_simp; rfl))
      intro gb773 hg w255 hbox hb
      have n0_ := Aside0.mk (Kd.V_below (Kd.V_elderB (by (with_reducible repeat (first | apply Kd.V_alloc | apply Kd.V_drewN | apply Kd.V_drew)); exact HO_730001.out) gb773 (Nat.le_of_eq hg.symm)) hb)
      have n1_ := Aside0.mk (Kd.V_below (Kd.V_elderB (by (with_reducible repeat (first | apply Kd.V_alloc | apply Kd.V_drewN | apply Kd.V_drew)); exact HO_735001.out) gb773 (Nat.le_of_eq hg.symm)) hb)
      have n2_ := Aside0.mk (Kd.V_below (Kd.V_elderB (by (with_reducible repeat (first | apply Kd.V_alloc | apply Kd.V_drewN | apply Kd.V_drew)); exact HO_755001.out) gb773 (Nat.le_of_eq hg.symm)) hb)
      have n3_ := Aside0.mk (Kd.V_below (Kd.V_elderB (by (with_reducible repeat (first | apply Kd.V_alloc | apply Kd.V_drewN | apply Kd.V_drew)); exact HO_756001.out) gb773 (Nat.le_of_eq hg.symm)) hb)
      have n4_ := Aside0.mk (Kd.V_below (Kd.V_elderB (by (with_reducible repeat (first | apply Kd.V_alloc | apply Kd.V_drewN | apply Kd.V_drew)); exact HO764.out) gb773 (Nat.le_of_eq hg.symm)) hb)
      have n5_ := bb BK710 hb
      have n6_ := bb BK711 hb
      have n7_ := bb BK723 hb
      have n8_ := bb BK724 hb
      have n9_ := bb BK729 hb
      have n10_ := bb BK734 hb
      have n11_ := bb BK754 hb
      have n12_ := bb BK755 hb
      have n13_ := Aside0.mk (below_step (by repeat (first | (with_reducible first | exact HB.out | apply qa | apply qn | apply qd | refine qs ?_ GE710.out | refine qs ?_ GE711.out | refine qs ?_ GE723.out | refine qs ?_ GE724.out | refine qs ?_ GE729.out | refine qs ?_ GE734.out | refine qs ?_ GE754.out | refine qs ?_ GE755.out) | exact HB.out)) hb)
      have n14_ := Aside0.mk (hbox)
      have n15_ := bgw HB hg
      have n16_ := bgw HB hg
      have n17_ := bnl BK710 hg
      have n18_ := bng BK710 hg
      have n19_ := bnl BK711 hg
      have n20_ := bng BK711 hg
      have n21_ := bnl BK723 hg
      have n22_ := bng BK723 hg
      have n23_ := bnl BK724 hg
      have n24_ := bng BK724 hg
      have n25_ := bnl BK729 hg
      have n26_ := bng BK729 hg
      have n27_ := bnl BK734 hg
      have n28_ := bng BK734 hg
      have n29_ := bnl BK754 hg
      have n30_ := bng BK754 hg
      have n31_ := bnl BK755 hg
      have n32_ := bng BK755 hg
      clear HO_730001
      clear HO_735001
      clear HO_755001
      clear HO_756001
      clear HO764
      clear BK710
      clear BK711
      clear BK723
      clear BK724
      clear BK729
      clear BK734
      clear BK754
      clear BK755
      clear HB
      have HO_730001 := n0_
      have HO_735001 := n1_
      have HO_755001 := n2_
      have HO_756001 := n3_
      have HO764 := n4_
      have BK710 := n5_
      have BK711 := n6_
      have BK723 := n7_
      have BK724 := n8_
      have BK729 := n9_
      have BK734 := n10_
      have BK754 := n11_
      have BK755 := n12_
      have HB := n13_
      have BK773 := n14_
      have GW773 := n15_
      have GE773 := n16_
      have NB710_773 := n17_
      have NB773_710 := n18_
      have NB711_773 := n19_
      have NB773_711 := n20_
      have NB723_773 := n21_
      have NB773_723 := n22_
      have NB724_773 := n23_
      have NB773_724 := n24_
      have NB729_773 := n25_
      have NB773_729 := n26_
      have NB734_773 := n27_
      have NB773_734 := n28_
      have NB754_773 := n29_
      have NB773_754 := n30_
      have NB755_773 := n31_
      have NB773_755 := n32_
      clear n0_ n1_ n2_ n3_ n4_ n5_ n6_ n7_ n8_ n9_ n10_ n11_ n12_ n13_ n14_ n15_ n16_ n17_ n18_ n19_ n20_ n21_ n22_ n23_ n24_ n25_ n26_ n27_ n28_ n29_ n30_ n31_ n32_
      clear hb hbox hg
      obtain ⟨Ao256, co256, eo256⟩ := Kd.V_slice HO764.out
      (first | subst eo256 | (injection eo256 with f1_ f2_ f3_; have f4_ := f1_.symm; have f5_ := f3_.symm; clear f1_ f2_ f3_; subst f4_; subst f5_))
      refine hK.out _ _ ⟨(blk_cell BK723.out 0).trans rfl, (blk_cell BK723.out 1).trans rfl, (blk_cell BK723.out 2).trans rfl, (blk_cell BK723.out 3).trans rfl, (blk_cell BK723.out 4).trans rfl, (blk_cell BK734.out 0).trans rfl, (blk_cell BK734.out 1).trans rfl, (blk_cell BK754.out 0).trans rfl, (blk_cell BK754.out 1).trans rfl⟩ (fun hHeld => ?_)
      clear hK K
      refine norm_ (a' := ?_) ?_ ?_
      rotate_left
      ·show Act.put _ (some 13) _ = _
       simp only [Act.put, List.setIfInBounds_toArray, List.set_cons_zero, List.set_cons_succ, i64_w, i32_w]
       rfl
      refine one_ (i := 3) (N := some 81) #[Tt, Tt, Tt, Tt, Tt, Ff, Tt, Ff] rfl rfl (one_of HT_.out (by kernel_rfl)) (by decide) (fun K hK => ?_)
      refine goes_ Try.func29 (by kernel_rfl) rfl #[.agg #[.bool t761, .slice Ao256 t762.length co256], .agg #[.bool t730, .slice Ao198 t731.length co198]] (by rfl) rfl rfl (by (try simp only [List.map_toArray, List.map_cons, List.map_nil]); first | done | rfl | (simp only [List.length_drop, List.length_take]; rfl)) ?_
      with_reducible refine (parquetref01_Num_Times.calls kj163 t761 _ _ t762 t730 _ _ t731 t765 t766 _ ?side1 ?side2 ?side3 ?side4 A243.out).mono ?_
      (case side1 => repeat (first | exact (Kd.V_reads' HO764.out).2.2 | (with_reducible refine Kd.C_alloc ?_ _) | (with_reducible refine Kd.C_drewN ?_ _) | (with_reducible refine Kd.C_drew ?_)))
      (case side2 => exact (Kd.V_reads' HO764.out).2.1)
      (case side3 => repeat (first | exact (Kd.V_reads' HO_735001.out).2.2 | (with_reducible refine Kd.C_alloc ?_ _) | (with_reducible refine Kd.C_drewN ?_ _) | (with_reducible refine Kd.C_drew ?_)))
      (case side4 => exact (Kd.V_reads' HO_735001.out).2.1)
      rintro e w257 ⟨v767, rfl, ho0, hb⟩
      refine ⟨_, rfl, ?_⟩
      have n0_ := Aside0.mk (Kd.V_below (by (with_reducible repeat (first | apply Kd.V_alloc | apply Kd.V_drewN | apply Kd.V_drew)); exact HO_730001.out) hb)
      have n1_ := Aside0.mk (Kd.V_below (by (with_reducible repeat (first | apply Kd.V_alloc | apply Kd.V_drewN | apply Kd.V_drew)); exact HO_735001.out) hb)
      have n2_ := Aside0.mk (Kd.V_below (by (with_reducible repeat (first | apply Kd.V_alloc | apply Kd.V_drewN | apply Kd.V_drew)); exact HO_755001.out) hb)
      have n3_ := Aside0.mk (Kd.V_below (by (with_reducible repeat (first | apply Kd.V_alloc | apply Kd.V_drewN | apply Kd.V_drew)); exact HO_756001.out) hb)
      have n4_ := Aside0.mk (Kd.V_below (by (with_reducible repeat (first | apply Kd.V_alloc | apply Kd.V_drewN | apply Kd.V_drew)); exact HO764.out) hb)
      have n5_ := Aside0.mk (Kd.V_lower (Kd.V_mono (ok' := fun k_ => k_ ≠ gb710 ∧ k_ ≠ gb711 ∧ k_ ≠ gb723 ∧ k_ ≠ gb724 ∧ k_ ≠ gb729 ∧ k_ ≠ gb734 ∧ k_ ≠ gb754 ∧ k_ ≠ gb755 ∧ k_ ≠ gb773) ho0 (fun k_ hk_ => ⟨(Kd.freshB (g := gb710) (o := .cells #[.bool a0_0, .int .u64 a0_1, .int .u64 a0_2, .int .u64 a0_3, .int .u64 a0_4] 27 (0, 0)) (by exact lb BK710.out) k_ hk_), (Kd.freshB (g := gb711) (o := .cells #[.bool a1_0, .int .u64 a1_1, .int .u64 a1_2, .int .u64 a1_3, .int .u64 a1_4] 27 (0, 0)) (by exact lb BK711.out) k_ hk_), (Kd.freshB (g := gb723) (o := .cells #[.bool t712, .int .u64 t713, .int .u64 t714, .int .u64 t715, .int .u64 t716] 27 (0, 0)) (by exact lb BK723.out) k_ hk_), (Kd.freshB (g := gb724) (o := .cells #[.bool t717, .int .u64 t718, .int .u64 t719, .int .u64 t720, .int .u64 t721] 27 (0, 0)) (by exact lb BK724.out) k_ hk_), (Kd.freshB (g := gb729) (o := .cells #[.bool t725, .slice Ao188 t726.length co188] 38 (0, 0)) (by exact lb BK729.out) k_ hk_), (Kd.freshB (g := gb734) (o := .cells #[.bool t730, .slice Ao198 t731.length co198] 38 (0, 0)) (by exact lb BK734.out) k_ hk_), (Kd.freshB (g := gb754) (o := .cells #[.bool t750, .slice Ao210 t751.length co210] 38 (0, 0)) (by exact lb BK754.out) k_ hk_), (Kd.freshB (g := gb755) (o := .cells #[.bool x756000_163, u756001] 38 (0, 0)) (by exact lb BK755.out) k_ hk_), (Kd.freshB (g := gb773) (o := .cells #[.bool false, .slice none 0 0] 38 (0, 0)) (by exact lb BK773.out) k_ hk_)⟩)) (below_size (by repeat (first | (with_reducible first | exact HB.out | apply qa | apply qn | apply qd | refine qs ?_ GE710.out | refine qs ?_ GE711.out | refine qs ?_ GE723.out | refine qs ?_ GE724.out | refine qs ?_ GE729.out | refine qs ?_ GE734.out | refine qs ?_ GE754.out | refine qs ?_ GE755.out | refine qs ?_ GE773.out) | exact HB.out))))
      have n6_ := bb BK710 hb
      have n7_ := bb BK711 hb
      have n8_ := bb BK723 hb
      have n9_ := bb BK724 hb
      have n10_ := bb BK729 hb
      have n11_ := bb BK734 hb
      have n12_ := bb BK754 hb
      have n13_ := bb BK755 hb
      have n14_ := bb BK773 hb
      have n15_ := Aside0.mk (below_step (by repeat (first | (with_reducible first | exact HB.out | apply qa | apply qn | apply qd | refine qs ?_ GE710.out | refine qs ?_ GE711.out | refine qs ?_ GE723.out | refine qs ?_ GE724.out | refine qs ?_ GE729.out | refine qs ?_ GE734.out | refine qs ?_ GE754.out | refine qs ?_ GE755.out | refine qs ?_ GE773.out) | exact HB.out)) hb)
      clear HO_730001
      clear HO_735001
      clear HO_755001
      clear HO_756001
      clear HO764
      clear BK710
      clear BK711
      clear BK723
      clear BK724
      clear BK729
      clear BK734
      clear BK754
      clear BK755
      clear BK773
      clear HB
      have HO_730001 := n0_
      have HO_735001 := n1_
      have HO_755001 := n2_
      have HO_756001 := n3_
      have HO764 := n4_
      have HO768 := n5_
      have BK710 := n6_
      have BK711 := n7_
      have BK723 := n8_
      have BK724 := n9_
      have BK729 := n10_
      have BK734 := n11_
      have BK754 := n12_
      have BK755 := n13_
      have BK773 := n14_
      have HB := n15_
      clear n0_ n1_ n2_ n3_ n4_ n5_ n6_ n7_ n8_ n9_ n10_ n11_ n12_ n13_ n14_ n15_
      (try clear hb)
      (try clear hb2)
      (try clear hk)
      (try clear hi)
      (try clear ho0)
      obtain ⟨Ao258, co258, eo258⟩ := Kd.V_slice HO768.out
      (first | subst eo258 | (injection eo258 with f1_ f2_ f3_; have f4_ := f1_.symm; have f5_ := f3_.symm; clear f1_ f2_ f3_; subst f4_; subst f5_))
      refine hK.out _ _ ⟨(blk_cell BK723.out 0).trans rfl, (blk_cell BK723.out 1).trans rfl, (blk_cell BK723.out 2).trans rfl, (blk_cell BK723.out 3).trans rfl, (blk_cell BK723.out 4).trans rfl, (blk_cell BK734.out 0).trans rfl, (blk_cell BK734.out 1).trans rfl, (blk_cell BK754.out 0).trans rfl, (blk_cell BK754.out 1).trans rfl⟩ (fun hHeld => ?_)
      clear hK K
      refine norm_ (a' := ?_) ?_ ?_
      rotate_left
      ·show Act.put _ (some 81) _ = _
       simp only [Act.put, List.setIfInBounds_toArray, List.set_cons_zero, List.set_cons_succ, i64_w, i32_w]
       rfl
      refine one_ (i := 5) (N := some 83) #[Tt, Tt, Tt, Tt, Tt, Tt, Tt, Ff] rfl rfl (one_of HT_.out (by kernel_rfl)) (by decide) (fun K hK => ?_)
      refine goes_ Try.func30 (by kernel_rfl) rfl #[.agg #[.bool t765, .slice Ao258 t766.length co258], .agg #[.bool t750, .slice Ao210 t751.length co210]] (by rfl) rfl rfl (by (try simp only [List.map_toArray, List.map_cons, List.map_nil]); first | done | rfl | (simp only [List.length_drop, List.length_take]; rfl)) ?_
      with_reducible refine (parquetref01_Num_Plus.calls kj163 t765 (fun k_ => (k_ ≠ gb710 ∧ (k_ ≠ gb711 ∧ (k_ ≠ gb723 ∧ (k_ ≠ gb724 ∧ (k_ ≠ gb729 ∧ (k_ ≠ gb734 ∧ (k_ ≠ gb754 ∧ (k_ ≠ gb755 ∧ k_ ≠ gb773))))))))) _ _ t766 t750 (fun k_ => ((k_ ≠ gb710 ∧ (k_ ≠ gb711 ∧ (k_ ≠ gb723 ∧ (k_ ≠ gb724 ∧ (k_ ≠ gb729 ∧ (k_ ≠ gb734 ∧ (k_ ≠ gb754 ∧ k_ ≠ gb755))))))) ∧ k_ ≠ gb773)) _ _ t751 t769 t770 _ ?side1 ?side2 A244.out).mono ?_
      (case side1 => exact HO768.out)
      (case side2 => exact HO_755001.out)
      rintro e w259 ⟨v771, rfl, ho0, hb⟩
      refine ⟨_, rfl, ?_⟩
      have n0_ := Aside0.mk (Kd.V_below (by (with_reducible repeat (first | apply Kd.V_alloc | apply Kd.V_drewN | apply Kd.V_drew)); exact HO_730001.out) hb)
      have n1_ := Aside0.mk (Kd.V_below (by (with_reducible repeat (first | apply Kd.V_alloc | apply Kd.V_drewN | apply Kd.V_drew)); exact HO_735001.out) hb)
      have n2_ := Aside0.mk (Kd.V_below (by (with_reducible repeat (first | apply Kd.V_alloc | apply Kd.V_drewN | apply Kd.V_drew)); exact HO_755001.out) hb)
      have n3_ := Aside0.mk (Kd.V_below (by (with_reducible repeat (first | apply Kd.V_alloc | apply Kd.V_drewN | apply Kd.V_drew)); exact HO_756001.out) hb)
      have n4_ := Aside0.mk (Kd.V_below (by (with_reducible repeat (first | apply Kd.V_alloc | apply Kd.V_drewN | apply Kd.V_drew)); exact HO764.out) hb)
      have n5_ := Aside0.mk (Kd.V_below (by (with_reducible repeat (first | apply Kd.V_alloc | apply Kd.V_drewN | apply Kd.V_drew)); exact HO768.out) hb)
      have n6_ := Aside0.mk (Kd.V_lower (Kd.V_mono (ok' := fun k_ => k_ ≠ gb710 ∧ k_ ≠ gb711 ∧ k_ ≠ gb723 ∧ k_ ≠ gb724 ∧ k_ ≠ gb729 ∧ k_ ≠ gb734 ∧ k_ ≠ gb754 ∧ k_ ≠ gb755 ∧ k_ ≠ gb773) ho0 (fun k_ hk_ => ⟨Or.elim hk_ (fun hs_ => Or.elim hs_ (fun hs_ => hs_.1) (fun hs_ => hs_.1.1)) (fun hn_ => (Kd.freshB (g := gb710) (o := .cells #[.bool a0_0, .int .u64 a0_1, .int .u64 a0_2, .int .u64 a0_3, .int .u64 a0_4] 27 (0, 0)) (by exact lb BK710.out) k_ hn_)), Or.elim hk_ (fun hs_ => Or.elim hs_ (fun hs_ => hs_.2.1) (fun hs_ => hs_.1.2.1)) (fun hn_ => (Kd.freshB (g := gb711) (o := .cells #[.bool a1_0, .int .u64 a1_1, .int .u64 a1_2, .int .u64 a1_3, .int .u64 a1_4] 27 (0, 0)) (by exact lb BK711.out) k_ hn_)), Or.elim hk_ (fun hs_ => Or.elim hs_ (fun hs_ => hs_.2.2.1) (fun hs_ => hs_.1.2.2.1)) (fun hn_ => (Kd.freshB (g := gb723) (o := .cells #[.bool t712, .int .u64 t713, .int .u64 t714, .int .u64 t715, .int .u64 t716] 27 (0, 0)) (by exact lb BK723.out) k_ hn_)), Or.elim hk_ (fun hs_ => Or.elim hs_ (fun hs_ => hs_.2.2.2.1) (fun hs_ => hs_.1.2.2.2.1)) (fun hn_ => (Kd.freshB (g := gb724) (o := .cells #[.bool t717, .int .u64 t718, .int .u64 t719, .int .u64 t720, .int .u64 t721] 27 (0, 0)) (by exact lb BK724.out) k_ hn_)), Or.elim hk_ (fun hs_ => Or.elim hs_ (fun hs_ => hs_.2.2.2.2.1) (fun hs_ => hs_.1.2.2.2.2.1)) (fun hn_ => (Kd.freshB (g := gb729) (o := .cells #[.bool t725, .slice Ao188 t726.length co188] 38 (0, 0)) (by exact lb BK729.out) k_ hn_)), Or.elim hk_ (fun hs_ => Or.elim hs_ (fun hs_ => hs_.2.2.2.2.2.1) (fun hs_ => hs_.1.2.2.2.2.2.1)) (fun hn_ => (Kd.freshB (g := gb734) (o := .cells #[.bool t730, .slice Ao198 t731.length co198] 38 (0, 0)) (by exact lb BK734.out) k_ hn_)), Or.elim hk_ (fun hs_ => Or.elim hs_ (fun hs_ => hs_.2.2.2.2.2.2.1) (fun hs_ => hs_.1.2.2.2.2.2.2.1)) (fun hn_ => (Kd.freshB (g := gb754) (o := .cells #[.bool t750, .slice Ao210 t751.length co210] 38 (0, 0)) (by exact lb BK754.out) k_ hn_)), Or.elim hk_ (fun hs_ => Or.elim hs_ (fun hs_ => hs_.2.2.2.2.2.2.2.1) (fun hs_ => hs_.1.2.2.2.2.2.2.2)) (fun hn_ => (Kd.freshB (g := gb755) (o := .cells #[.bool x756000_163, u756001] 38 (0, 0)) (by exact lb BK755.out) k_ hn_)), Or.elim hk_ (fun hs_ => Or.elim hs_ (fun hs_ => hs_.2.2.2.2.2.2.2.2) (fun hs_ => hs_.2)) (fun hn_ => (Kd.freshB (g := gb773) (o := .cells #[.bool false, .slice none 0 0] 38 (0, 0)) (by exact lb BK773.out) k_ hn_))⟩)) (below_size (by repeat (first | (with_reducible first | exact HB.out | apply qa | apply qn | apply qd | refine qs ?_ GE710.out | refine qs ?_ GE711.out | refine qs ?_ GE723.out | refine qs ?_ GE724.out | refine qs ?_ GE729.out | refine qs ?_ GE734.out | refine qs ?_ GE754.out | refine qs ?_ GE755.out | refine qs ?_ GE773.out) | exact HB.out))))
      have n7_ := bb BK710 hb
      have n8_ := bb BK711 hb
      have n9_ := bb BK723 hb
      have n10_ := bb BK724 hb
      have n11_ := bb BK729 hb
      have n12_ := bb BK734 hb
      have n13_ := bb BK754 hb
      have n14_ := bb BK755 hb
      have n15_ := bb BK773 hb
      have n16_ := Aside0.mk (below_step (by repeat (first | (with_reducible first | exact HB.out | apply qa | apply qn | apply qd | refine qs ?_ GE710.out | refine qs ?_ GE711.out | refine qs ?_ GE723.out | refine qs ?_ GE724.out | refine qs ?_ GE729.out | refine qs ?_ GE734.out | refine qs ?_ GE754.out | refine qs ?_ GE755.out | refine qs ?_ GE773.out) | exact HB.out)) hb)
      clear HO_730001
      clear HO_735001
      clear HO_755001
      clear HO_756001
      clear HO764
      clear HO768
      clear BK710
      clear BK711
      clear BK723
      clear BK724
      clear BK729
      clear BK734
      clear BK754
      clear BK755
      clear BK773
      clear HB
      have HO_730001 := n0_
      have HO_735001 := n1_
      have HO_755001 := n2_
      have HO_756001 := n3_
      have HO764 := n4_
      have HO768 := n5_
      have HO772 := n6_
      have BK710 := n7_
      have BK711 := n8_
      have BK723 := n9_
      have BK724 := n10_
      have BK729 := n11_
      have BK734 := n12_
      have BK754 := n13_
      have BK755 := n14_
      have BK773 := n15_
      have HB := n16_
      clear n0_ n1_ n2_ n3_ n4_ n5_ n6_ n7_ n8_ n9_ n10_ n11_ n12_ n13_ n14_ n15_ n16_
      (try clear hb)
      (try clear hb2)
      (try clear hk)
      (try clear hi)
      (try clear ho0)
      refine hK.out _ _ ⟨(blk_cell BK723.out 0).trans rfl, (blk_cell BK723.out 1).trans rfl, (blk_cell BK723.out 2).trans rfl, (blk_cell BK723.out 3).trans rfl, (blk_cell BK723.out 4).trans rfl, (blk_cell BK734.out 0).trans rfl, (blk_cell BK734.out 1).trans rfl, (blk_cell BK754.out 0).trans rfl, (blk_cell BK754.out 1).trans rfl⟩ (fun hHeld => ?_)
      clear hK K
      refine norm_ (a' := ?_) ?_ ?_
      rotate_left
      ·show Act.put _ (some 83) _ = _
       simp only [Act.put, List.setIfInBounds_toArray, List.set_cons_zero, List.set_cons_succ, i64_w, i32_w]
       rfl
      exact norm_ (by simp only [putAll, Act.put, List.setIfInBounds_toArray, List.set_cons_zero, List.set_cons_succ]) (hCont (.slice Ao256 t762.length co256, .slice Ao258 t766.length co258, v771, gb773) _ ⟨hHeld, (by (with_reducible repeat (first | apply Kd.V_alloc | apply Kd.V_drewN | apply Kd.V_drew)); exact Kd.V_mono HO764.out (fun _ hk => ⟨hk.1.1, ⟨hk.1.2.1, ⟨hk.1.2.2.1, ⟨hk.1.2.2.2.1, ⟨hk.1.2.2.2.2.1, ⟨hk.1.2.2.2.2.2.1, ⟨hk.1.2.2.2.2.2.2.1, ⟨hk.1.2.2.2.2.2.2.2, hk.2⟩⟩⟩⟩⟩⟩⟩⟩)), (by (with_reducible repeat (first | apply Kd.V_alloc | apply Kd.V_drewN | apply Kd.V_drew)); exact HO768.out), (by (with_reducible repeat (first | apply Kd.V_alloc | apply Kd.V_drewN | apply Kd.V_drew)); exact HO772.out), (by (with_reducible repeat (first | apply Kd.V_alloc | apply Kd.V_drewN | apply Kd.V_drew)); exact Kd.V_mono HO_730001.out (fun _ hk => ⟨hk.1.1, ⟨hk.1.2.1, ⟨hk.1.2.2.1, ⟨hk.1.2.2.2.1, ⟨hk.1.2.2.2.2.1, ⟨hk.1.2.2.2.2.2.1, ⟨hk.1.2.2.2.2.2.2.1, ⟨hk.1.2.2.2.2.2.2.2, hk.2⟩⟩⟩⟩⟩⟩⟩⟩)), (by (with_reducible repeat (first | apply Kd.V_alloc | apply Kd.V_drewN | apply Kd.V_drew)); exact Kd.V_mono HO_735001.out (fun _ hk => ⟨hk.1.1, ⟨hk.1.2.1, ⟨hk.1.2.2.1, ⟨hk.1.2.2.2.1, ⟨hk.1.2.2.2.2.1, ⟨hk.1.2.2.2.2.2.1, ⟨hk.1.2.2.2.2.2.2.1, ⟨hk.1.2.2.2.2.2.2.2, hk.2⟩⟩⟩⟩⟩⟩⟩⟩)), (by (with_reducible repeat (first | apply Kd.V_alloc | apply Kd.V_drewN | apply Kd.V_drew)); exact Kd.V_mono HO_755001.out (fun _ hk => ⟨hk.1.1, ⟨hk.1.2.1, ⟨hk.1.2.2.1, ⟨hk.1.2.2.2.1, ⟨hk.1.2.2.2.2.1, ⟨hk.1.2.2.2.2.2.1, ⟨hk.1.2.2.2.2.2.2.1, ⟨hk.1.2.2.2.2.2.2.2, hk.2⟩⟩⟩⟩⟩⟩⟩⟩)), (by (with_reducible repeat (first | apply Kd.V_alloc | apply Kd.V_drewN | apply Kd.V_drew)); exact Kd.V_mono HO_756001.out (fun _ hk => ⟨hk.1.1, ⟨hk.1.2.1, ⟨hk.1.2.2.1, ⟨hk.1.2.2.2.1, ⟨hk.1.2.2.2.2.1, ⟨hk.1.2.2.2.2.2.1, ⟨hk.1.2.2.2.2.2.2.1, ⟨hk.1.2.2.2.2.2.2.2, hk.2⟩⟩⟩⟩⟩⟩⟩⟩)), (by exact lb BK710.out), (by exact lb BK711.out), (by exact lb BK723.out), (by exact lb BK724.out), (by exact lb BK729.out), (by exact lb BK734.out), (by exact lb BK754.out), (by exact lb BK755.out), (by exact lb BK773.out), GW773.out, GE773.out, NB710_773.out, NB773_710.out, NB711_773.out, NB773_711.out, NB723_773.out, NB773_723.out, NB724_773.out, NB773_724.out, NB729_773.out, NB773_729.out, NB734_773.out, NB773_734.out, NB754_773.out, NB773_754.out, NB755_773.out, NB773_755.out, (by repeat (first | (with_reducible first | exact HB.out | apply qa | apply qn | apply qd | refine qs ?_ GE710.out | refine qs ?_ GE711.out | refine qs ?_ GE723.out | refine qs ?_ GE724.out | refine qs ?_ GE729.out | refine qs ?_ GE734.out | refine qs ?_ GE754.out | refine qs ?_ GE755.out | refine qs ?_ GE773.out) | exact HB.out))⟩)
    ·skip
     refine box_step ?hg (N := 13) ?hd (cs := #[.bool false, .slice none 0 0]) (t := 38) ?hr ?_; (case hd => rfl); (case hg => rfl); (case hr => first | (go_simp; done) | (go_simp; rfl))
     intro gb773 hg w254 hbox hb
     have n0_ := Aside0.mk (Kd.V_below (Kd.V_elderB (by (with_reducible repeat (first | apply Kd.V_alloc | apply Kd.V_drewN | apply Kd.V_drew)); exact HO_730001.out) gb773 (Nat.le_of_eq hg.symm)) hb)
     have n1_ := Aside0.mk (Kd.V_below (Kd.V_elderB (by (with_reducible repeat (first | apply Kd.V_alloc | apply Kd.V_drewN | apply Kd.V_drew)); exact HO_735001.out) gb773 (Nat.le_of_eq hg.symm)) hb)
     have n2_ := Aside0.mk (Kd.V_below (Kd.V_elderB (by (with_reducible repeat (first | apply Kd.V_alloc | apply Kd.V_drewN | apply Kd.V_drew)); exact HO_755001.out) gb773 (Nat.le_of_eq hg.symm)) hb)
     have n3_ := Aside0.mk (Kd.V_below (Kd.V_elderB (by (with_reducible repeat (first | apply Kd.V_alloc | apply Kd.V_drewN | apply Kd.V_drew)); exact HO_756001.out) gb773 (Nat.le_of_eq hg.symm)) hb)
     have n4_ := bb BK710 hb
     have n5_ := bb BK711 hb
     have n6_ := bb BK723 hb
     have n7_ := bb BK724 hb
     have n8_ := bb BK729 hb
     have n9_ := bb BK734 hb
     have n10_ := bb BK754 hb
     have n11_ := bb BK755 hb
     have n12_ := Aside0.mk (below_step (by repeat (first | (with_reducible first | exact HB.out | apply qa | apply qn | apply qd | refine qs ?_ GE710.out | refine qs ?_ GE711.out | refine qs ?_ GE723.out | refine qs ?_ GE724.out | refine qs ?_ GE729.out | refine qs ?_ GE734.out | refine qs ?_ GE754.out | refine qs ?_ GE755.out) | exact HB.out)) hb)
     have n13_ := Aside0.mk (hbox)
     have n14_ := bgw HB hg
     have n15_ := bgw HB hg
     have n16_ := bnl BK710 hg
     have n17_ := bng BK710 hg
     have n18_ := bnl BK711 hg
     have n19_ := bng BK711 hg
     have n20_ := bnl BK723 hg
     have n21_ := bng BK723 hg
     have n22_ := bnl BK724 hg
     have n23_ := bng BK724 hg
     have n24_ := bnl BK729 hg
     have n25_ := bng BK729 hg
     have n26_ := bnl BK734 hg
     have n27_ := bng BK734 hg
     have n28_ := bnl BK754 hg
     have n29_ := bng BK754 hg
     have n30_ := bnl BK755 hg
     have n31_ := bng BK755 hg
     clear HO_730001
     clear HO_735001
     clear HO_755001
     clear HO_756001
     clear BK710
     clear BK711
     clear BK723
     clear BK724
     clear BK729
     clear BK734
     clear BK754
     clear BK755
     clear HB
     have HO_730001 := n0_
     have HO_735001 := n1_
     have HO_755001 := n2_
     have HO_756001 := n3_
     have BK710 := n4_
     have BK711 := n5_
     have BK723 := n6_
     have BK724 := n7_
     have BK729 := n8_
     have BK734 := n9_
     have BK754 := n10_
     have BK755 := n11_
     have HB := n12_
     have BK773 := n13_
     have GW773 := n14_
     have GE773 := n15_
     have NB710_773 := n16_
     have NB773_710 := n17_
     have NB711_773 := n18_
     have NB773_711 := n19_
     have NB723_773 := n20_
     have NB773_723 := n21_
     have NB724_773 := n22_
     have NB773_724 := n23_
     have NB729_773 := n24_
     have NB773_729 := n25_
     have NB734_773 := n26_
     have NB773_734 := n27_
     have NB754_773 := n28_
     have NB773_754 := n29_
     have NB755_773 := n30_
     have NB773_755 := n31_
     clear n0_ n1_ n2_ n3_ n4_ n5_ n6_ n7_ n8_ n9_ n10_ n11_ n12_ n13_ n14_ n15_ n16_ n17_ n18_ n19_ n20_ n21_ n22_ n23_ n24_ n25_ n26_ n27_ n28_ n29_ n30_ n31_
     clear hb hbox hg
     refine hK.out _ _ ⟨(blk_cell BK723.out 0).trans rfl, (blk_cell BK723.out 1).trans rfl, (blk_cell BK723.out 2).trans rfl, (blk_cell BK723.out 3).trans rfl, (blk_cell BK723.out 4).trans rfl, (blk_cell BK734.out 0).trans rfl, (blk_cell BK734.out 1).trans rfl, (blk_cell BK754.out 0).trans rfl, (blk_cell BK754.out 1).trans rfl⟩ (fun hHeld => ?_)
     clear hK K
     refine norm_ (a' := ?_) ?_ ?_
     rotate_left
     ·show Act.put _ (some 13) _ = _
      simp only [Act.put, List.setIfInBounds_toArray, List.set_cons_zero, List.set_cons_succ, i64_w, i32_w]
      rfl
     refine one_ (i := 1) (N := some 79) #[Tt, Tt, Tt, Ff, Tt, Ff, Tt, Ff] rfl rfl (one_of HT_.out (by kernel_rfl)) (by decide) (fun K hK => ?_)
     refine goes_ Try.func24 (by kernel_rfl) rfl #[.agg #[.bool t712, .int .u64 t713, .int .u64 t714, .int .u64 t715, .int .u64 t716]] (by rfl) rfl rfl (by (try simp only [List.map_toArray, List.map_cons, List.map_nil]); first | done | rfl | (simp only [List.length_drop, List.length_take]; rfl)) ?_
     with_reducible refine (parquetref01_Of.calls kj163 t712 t713 t714 t715 t716 t761 t762 _ A242.out).mono ?_
     rintro e w255 ⟨v763, rfl, ho0, hb⟩
     refine ⟨_, rfl, ?_⟩
     have n0_ := Aside0.mk (Kd.V_below (by (with_reducible repeat (first | apply Kd.V_alloc | apply Kd.V_drewN | apply Kd.V_drew)); exact HO_730001.out) hb)
     have n1_ := Aside0.mk (Kd.V_below (by (with_reducible repeat (first | apply Kd.V_alloc | apply Kd.V_drewN | apply Kd.V_drew)); exact HO_735001.out) hb)
     have n2_ := Aside0.mk (Kd.V_below (by (with_reducible repeat (first | apply Kd.V_alloc | apply Kd.V_drewN | apply Kd.V_drew)); exact HO_755001.out) hb)
     have n3_ := Aside0.mk (Kd.V_below (by (with_reducible repeat (first | apply Kd.V_alloc | apply Kd.V_drewN | apply Kd.V_drew)); exact HO_756001.out) hb)
     have n4_ := Aside0.mk (Kd.V_lower (Kd.V_mono (ok' := fun k_ => k_ ≠ gb710 ∧ k_ ≠ gb711 ∧ k_ ≠ gb723 ∧ k_ ≠ gb724 ∧ k_ ≠ gb729 ∧ k_ ≠ gb734 ∧ k_ ≠ gb754 ∧ k_ ≠ gb755 ∧ k_ ≠ gb773) ho0 (fun k_ hk_ => ⟨(Kd.freshB (g := gb710) (o := .cells #[.bool a0_0, .int .u64 a0_1, .int .u64 a0_2, .int .u64 a0_3, .int .u64 a0_4] 27 (0, 0)) (by exact lb BK710.out) k_ hk_), (Kd.freshB (g := gb711) (o := .cells #[.bool a1_0, .int .u64 a1_1, .int .u64 a1_2, .int .u64 a1_3, .int .u64 a1_4] 27 (0, 0)) (by exact lb BK711.out) k_ hk_), (Kd.freshB (g := gb723) (o := .cells #[.bool t712, .int .u64 t713, .int .u64 t714, .int .u64 t715, .int .u64 t716] 27 (0, 0)) (by exact lb BK723.out) k_ hk_), (Kd.freshB (g := gb724) (o := .cells #[.bool t717, .int .u64 t718, .int .u64 t719, .int .u64 t720, .int .u64 t721] 27 (0, 0)) (by exact lb BK724.out) k_ hk_), (Kd.freshB (g := gb729) (o := .cells #[.bool t725, .slice Ao188 t726.length co188] 38 (0, 0)) (by exact lb BK729.out) k_ hk_), (Kd.freshB (g := gb734) (o := .cells #[.bool t730, .slice Ao198 t731.length co198] 38 (0, 0)) (by exact lb BK734.out) k_ hk_), (Kd.freshB (g := gb754) (o := .cells #[.bool t750, .slice Ao210 t751.length co210] 38 (0, 0)) (by exact lb BK754.out) k_ hk_), (Kd.freshB (g := gb755) (o := .cells #[.bool x756000_163, u756001] 38 (0, 0)) (by exact lb BK755.out) k_ hk_), (Kd.freshB (g := gb773) (o := .cells #[.bool false, .slice none 0 0] 38 (0, 0)) (by exact lb BK773.out) k_ hk_)⟩)) (below_size (by repeat (first | (with_reducible first | exact HB.out | apply qa | apply qn | apply qd | refine qs ?_ GE710.out | refine qs ?_ GE711.out | refine qs ?_ GE723.out | refine qs ?_ GE724.out | refine qs ?_ GE729.out | refine qs ?_ GE734.out | refine qs ?_ GE754.out | refine qs ?_ GE755.out | refine qs ?_ GE773.out) | exact HB.out))))
     have n5_ := bb BK710 hb
     have n6_ := bb BK711 hb
     have n7_ := bb BK723 hb
     have n8_ := bb BK724 hb
     have n9_ := bb BK729 hb
     have n10_ := bb BK734 hb
     have n11_ := bb BK754 hb
     have n12_ := bb BK755 hb
     have n13_ := bb BK773 hb
     have n14_ := Aside0.mk (below_step (by repeat (first | (with_reducible first | exact HB.out | apply qa | apply qn | apply qd | refine qs ?_ GE710.out | refine qs ?_ GE711.out | refine qs ?_ GE723.out | refine qs ?_ GE724.out | refine qs ?_ GE729.out | refine qs ?_ GE734.out | refine qs ?_ GE754.out | refine qs ?_ GE755.out | refine qs ?_ GE773.out) | exact HB.out)) hb)
     clear HO_730001
     clear HO_735001
     clear HO_755001
     clear HO_756001
     clear BK710
     clear BK711
     clear BK723
     clear BK724
     clear BK729
     clear BK734
     clear BK754
     clear BK755
     clear BK773
     clear HB
     have HO_730001 := n0_
     have HO_735001 := n1_
     have HO_755001 := n2_
     have HO_756001 := n3_
     have HO764 := n4_
     have BK710 := n5_
     have BK711 := n6_
     have BK723 := n7_
     have BK724 := n8_
     have BK729 := n9_
     have BK734 := n10_
     have BK754 := n11_
     have BK755 := n12_
     have BK773 := n13_
     have HB := n14_
     clear n0_ n1_ n2_ n3_ n4_ n5_ n6_ n7_ n8_ n9_ n10_ n11_ n12_ n13_ n14_
     (try clear hb)
     (try clear hb2)
     (try clear hk)
     (try clear hi)
     (try clear ho0)
     obtain ⟨Ao256, co256, eo256⟩ := Kd.V_slice HO764.out
     (first | subst eo256 | (injection eo256 with f1_ f2_ f3_; have f4_ := f1_.symm; have f5_ := f3_.symm; clear f1_ f2_ f3_; subst f4_; subst f5_))
     refine hK.out _ _ ⟨(blk_cell BK723.out 0).trans rfl, (blk_cell BK723.out 1).trans rfl, (blk_cell BK723.out 2).trans rfl, (blk_cell BK723.out 3).trans rfl, (blk_cell BK723.out 4).trans rfl, (blk_cell BK734.out 0).trans rfl, (blk_cell BK734.out 1).trans rfl, (blk_cell BK754.out 0).trans rfl, (blk_cell BK754.out 1).trans rfl⟩ (fun hHeld => ?_)
     clear hK K
     refine norm_ (a' := ?_) ?_ ?_
     rotate_left
     ·show Act.put _ (some 79) _ = _
      simp only [Act.put, List.setIfInBounds_toArray, List.set_cons_zero, List.set_cons_succ, i64_w, i32_w]
      rfl
     refine one_ (i := 3) (N := some 81) #[Tt, Tt, Tt, Tt, Tt, Ff, Tt, Ff] rfl rfl (one_of HT_.out (by kernel_rfl)) (by decide) (fun K hK => ?_)
     refine goes_ Try.func29 (by kernel_rfl) rfl #[.agg #[.bool t761, .slice Ao256 t762.length co256], .agg #[.bool t730, .slice Ao198 t731.length co198]] (by rfl) rfl rfl (by (try simp only [List.map_toArray, List.map_cons, List.map_nil]); first | done | rfl | (simp only [List.length_drop, List.length_take]; rfl)) ?_
     with_reducible refine (parquetref01_Num_Times.calls kj163 t761 _ _ t762 t730 _ _ t731 t765 t766 _ ?side1 ?side2 ?side3 ?side4 A243.out).mono ?_
     (case side1 => repeat (first | exact (Kd.V_reads' HO764.out).2.2 | (with_reducible refine Kd.C_alloc ?_ _) | (with_reducible refine Kd.C_drewN ?_ _) | (with_reducible refine Kd.C_drew ?_)))
     (case side2 => exact (Kd.V_reads' HO764.out).2.1)
     (case side3 => repeat (first | exact (Kd.V_reads' HO_735001.out).2.2 | (with_reducible refine Kd.C_alloc ?_ _) | (with_reducible refine Kd.C_drewN ?_ _) | (with_reducible refine Kd.C_drew ?_)))
     (case side4 => exact (Kd.V_reads' HO_735001.out).2.1)
     rintro e w257 ⟨v767, rfl, ho0, hb⟩
     refine ⟨_, rfl, ?_⟩
     have n0_ := Aside0.mk (Kd.V_below (by (with_reducible repeat (first | apply Kd.V_alloc | apply Kd.V_drewN | apply Kd.V_drew)); exact HO_730001.out) hb)
     have n1_ := Aside0.mk (Kd.V_below (by (with_reducible repeat (first | apply Kd.V_alloc | apply Kd.V_drewN | apply Kd.V_drew)); exact HO_735001.out) hb)
     have n2_ := Aside0.mk (Kd.V_below (by (with_reducible repeat (first | apply Kd.V_alloc | apply Kd.V_drewN | apply Kd.V_drew)); exact HO_755001.out) hb)
     have n3_ := Aside0.mk (Kd.V_below (by (with_reducible repeat (first | apply Kd.V_alloc | apply Kd.V_drewN | apply Kd.V_drew)); exact HO_756001.out) hb)
     have n4_ := Aside0.mk (Kd.V_below (by (with_reducible repeat (first | apply Kd.V_alloc | apply Kd.V_drewN | apply Kd.V_drew)); exact HO764.out) hb)
     have n5_ := Aside0.mk (Kd.V_lower (Kd.V_mono (ok' := fun k_ => k_ ≠ gb710 ∧ k_ ≠ gb711 ∧ k_ ≠ gb723 ∧ k_ ≠ gb724 ∧ k_ ≠ gb729 ∧ k_ ≠ gb734 ∧ k_ ≠ gb754 ∧ k_ ≠ gb755 ∧ k_ ≠ gb773) ho0 (fun k_ hk_ => ⟨(Kd.freshB (g := gb710) (o := .cells #[.bool a0_0, .int .u64 a0_1, .int .u64 a0_2, .int .u64 a0_3, .int .u64 a0_4] 27 (0, 0)) (by exact lb BK710.out) k_ hk_), (Kd.freshB (g := gb711) (o := .cells #[.bool a1_0, .int .u64 a1_1, .int .u64 a1_2, .int .u64 a1_3, .int .u64 a1_4] 27 (0, 0)) (by exact lb BK711.out) k_ hk_), (Kd.freshB (g := gb723) (o := .cells #[.bool t712, .int .u64 t713, .int .u64 t714, .int .u64 t715, .int .u64 t716] 27 (0, 0)) (by exact lb BK723.out) k_ hk_), (Kd.freshB (g := gb724) (o := .cells #[.bool t717, .int .u64 t718, .int .u64 t719, .int .u64 t720, .int .u64 t721] 27 (0, 0)) (by exact lb BK724.out) k_ hk_), (Kd.freshB (g := gb729) (o := .cells #[.bool t725, .slice Ao188 t726.length co188] 38 (0, 0)) (by exact lb BK729.out) k_ hk_), (Kd.freshB (g := gb734) (o := .cells #[.bool t730, .slice Ao198 t731.length co198] 38 (0, 0)) (by exact lb BK734.out) k_ hk_), (Kd.freshB (g := gb754) (o := .cells #[.bool t750, .slice Ao210 t751.length co210] 38 (0, 0)) (by exact lb BK754.out) k_ hk_), (Kd.freshB (g := gb755) (o := .cells #[.bool x756000_163, u756001] 38 (0, 0)) (by exact lb BK755.out) k_ hk_), (Kd.freshB (g := gb773) (o := .cells #[.bool false, .slice none 0 0] 38 (0, 0)) (by exact lb BK773.out) k_ hk_)⟩)) (below_size (by repeat (first | (with_reducible first | exact HB.out | apply qa | apply qn | apply qd | refine qs ?_ GE710.out | refine qs ?_ GE711.out | refine qs ?_ GE723.out | refine qs ?_ GE724.out | refine qs ?_ GE729.out | refine qs ?_ GE734.out | refine qs ?_ GE754.out | refine qs ?_ GE755.out | refine qs ?_ GE773.out) | exact HB.out))))
     have n6_ := bb BK710 hb
     have n7_ := bb BK711 hb
     have n8_ := bb BK723 hb
     have n9_ := bb BK724 hb
     have n10_ := bb BK729 hb
     have n11_ := bb BK734 hb
     have n12_ := bb BK754 hb
     have n13_ := bb BK755 hb
     have n14_ := bb BK773 hb
     have n15_ := Aside0.mk (below_step (by repeat (first | (with_reducible first | exact HB.out | apply qa | apply qn | apply qd | refine qs ?_ GE710.out | refine qs ?_ GE711.out | refine qs ?_ GE723.out | refine qs ?_ GE724.out | refine qs ?_ GE729.out | refine qs ?_ GE734.out | refine qs ?_ GE754.out | refine qs ?_ GE755.out | refine qs ?_ GE773.out) | exact HB.out)) hb)
     clear HO_730001
     clear HO_735001
     clear HO_755001
     clear HO_756001
     clear HO764
     clear BK710
     clear BK711
     clear BK723
     clear BK724
     clear BK729
     clear BK734
     clear BK754
     clear BK755
     clear BK773
     clear HB
     have HO_730001 := n0_
     have HO_735001 := n1_
     have HO_755001 := n2_
     have HO_756001 := n3_
     have HO764 := n4_
     have HO768 := n5_
     have BK710 := n6_
     have BK711 := n7_
     have BK723 := n8_
     have BK724 := n9_
     have BK729 := n10_
     have BK734 := n11_
     have BK754 := n12_
     have BK755 := n13_
     have BK773 := n14_
     have HB := n15_
     clear n0_ n1_ n2_ n3_ n4_ n5_ n6_ n7_ n8_ n9_ n10_ n11_ n12_ n13_ n14_ n15_
     (try clear hb)
     (try clear hb2)
     (try clear hk)
     (try clear hi)
     (try clear ho0)
     obtain ⟨Ao258, co258, eo258⟩ := Kd.V_slice HO768.out
     (first | subst eo258 | (injection eo258 with f1_ f2_ f3_; have f4_ := f1_.symm; have f5_ := f3_.symm; clear f1_ f2_ f3_; subst f4_; subst f5_))
     refine hK.out _ _ ⟨(blk_cell BK723.out 0).trans rfl, (blk_cell BK723.out 1).trans rfl, (blk_cell BK723.out 2).trans rfl, (blk_cell BK723.out 3).trans rfl, (blk_cell BK723.out 4).trans rfl, (blk_cell BK734.out 0).trans rfl, (blk_cell BK734.out 1).trans rfl, (blk_cell BK754.out 0).trans rfl, (blk_cell BK754.out 1).trans rfl⟩ (fun hHeld => ?_)
     clear hK K
     refine norm_ (a' := ?_) ?_ ?_
     rotate_left
     ·show Act.put _ (some 81) _ = _
      simp only [Act.put, List.setIfInBounds_toArray, List.set_cons_zero, List.set_cons_succ, i64_w, i32_w]
      rfl
     refine one_ (i := 5) (N := some 83) #[Tt, Tt, Tt, Tt, Tt, Tt, Tt, Ff] rfl rfl (one_of HT_.out (by kernel_rfl)) (by decide) (fun K hK => ?_)
     refine goes_ Try.func30 (by kernel_rfl) rfl #[.agg #[.bool t765, .slice Ao258 t766.length co258], .agg #[.bool t750, .slice Ao210 t751.length co210]] (by rfl) rfl rfl (by (try simp only [List.map_toArray, List.map_cons, List.map_nil]); first | done | rfl | (simp only [List.length_drop, List.length_take]; rfl)) ?_
     with_reducible refine (parquetref01_Num_Plus.calls kj163 t765 (fun k_ => (k_ ≠ gb710 ∧ (k_ ≠ gb711 ∧ (k_ ≠ gb723 ∧ (k_ ≠ gb724 ∧ (k_ ≠ gb729 ∧ (k_ ≠ gb734 ∧ (k_ ≠ gb754 ∧ (k_ ≠ gb755 ∧ k_ ≠ gb773))))))))) _ _ t766 t750 (fun k_ => ((k_ ≠ gb710 ∧ (k_ ≠ gb711 ∧ (k_ ≠ gb723 ∧ (k_ ≠ gb724 ∧ (k_ ≠ gb729 ∧ (k_ ≠ gb734 ∧ (k_ ≠ gb754 ∧ k_ ≠ gb755))))))) ∧ k_ ≠ gb773)) _ _ t751 t769 t770 _ ?side1 ?side2 A244.out).mono ?_
     (case side1 => exact HO768.out)
     (case side2 => exact HO_755001.out)
     rintro e w259 ⟨v771, rfl, ho0, hb⟩
     refine ⟨_, rfl, ?_⟩
     have n0_ := Aside0.mk (Kd.V_below (by (with_reducible repeat (first | apply Kd.V_alloc | apply Kd.V_drewN | apply Kd.V_drew)); exact HO_730001.out) hb)
     have n1_ := Aside0.mk (Kd.V_below (by (with_reducible repeat (first | apply Kd.V_alloc | apply Kd.V_drewN | apply Kd.V_drew)); exact HO_735001.out) hb)
     have n2_ := Aside0.mk (Kd.V_below (by (with_reducible repeat (first | apply Kd.V_alloc | apply Kd.V_drewN | apply Kd.V_drew)); exact HO_755001.out) hb)
     have n3_ := Aside0.mk (Kd.V_below (by (with_reducible repeat (first | apply Kd.V_alloc | apply Kd.V_drewN | apply Kd.V_drew)); exact HO_756001.out) hb)
     have n4_ := Aside0.mk (Kd.V_below (by (with_reducible repeat (first | apply Kd.V_alloc | apply Kd.V_drewN | apply Kd.V_drew)); exact HO764.out) hb)
     have n5_ := Aside0.mk (Kd.V_below (by (with_reducible repeat (first | apply Kd.V_alloc | apply Kd.V_drewN | apply Kd.V_drew)); exact HO768.out) hb)
     have n6_ := Aside0.mk (Kd.V_lower (Kd.V_mono (ok' := fun k_ => k_ ≠ gb710 ∧ k_ ≠ gb711 ∧ k_ ≠ gb723 ∧ k_ ≠ gb724 ∧ k_ ≠ gb729 ∧ k_ ≠ gb734 ∧ k_ ≠ gb754 ∧ k_ ≠ gb755 ∧ k_ ≠ gb773) ho0 (fun k_ hk_ => ⟨Or.elim hk_ (fun hs_ => Or.elim hs_ (fun hs_ => hs_.1) (fun hs_ => hs_.1.1)) (fun hn_ => (Kd.freshB (g := gb710) (o := .cells #[.bool a0_0, .int .u64 a0_1, .int .u64 a0_2, .int .u64 a0_3, .int .u64 a0_4] 27 (0, 0)) (by exact lb BK710.out) k_ hn_)), Or.elim hk_ (fun hs_ => Or.elim hs_ (fun hs_ => hs_.2.1) (fun hs_ => hs_.1.2.1)) (fun hn_ => (Kd.freshB (g := gb711) (o := .cells #[.bool a1_0, .int .u64 a1_1, .int .u64 a1_2, .int .u64 a1_3, .int .u64 a1_4] 27 (0, 0)) (by exact lb BK711.out) k_ hn_)), Or.elim hk_ (fun hs_ => Or.elim hs_ (fun hs_ => hs_.2.2.1) (fun hs_ => hs_.1.2.2.1)) (fun hn_ => (Kd.freshB (g := gb723) (o := .cells #[.bool t712, .int .u64 t713, .int .u64 t714, .int .u64 t715, .int .u64 t716] 27 (0, 0)) (by exact lb BK723.out) k_ hn_)), Or.elim hk_ (fun hs_ => Or.elim hs_ (fun hs_ => hs_.2.2.2.1) (fun hs_ => hs_.1.2.2.2.1)) (fun hn_ => (Kd.freshB (g := gb724) (o := .cells #[.bool t717, .int .u64 t718, .int .u64 t719, .int .u64 t720, .int .u64 t721] 27 (0, 0)) (by exact lb BK724.out) k_ hn_)), Or.elim hk_ (fun hs_ => Or.elim hs_ (fun hs_ => hs_.2.2.2.2.1) (fun hs_ => hs_.1.2.2.2.2.1)) (fun hn_ => (Kd.freshB (g := gb729) (o := .cells #[.bool t725, .slice Ao188 t726.length co188] 38 (0, 0)) (by exact lb BK729.out) k_ hn_)), Or.elim hk_ (fun hs_ => Or.elim hs_ (fun hs_ => hs_.2.2.2.2.2.1) (fun hs_ => hs_.1.2.2.2.2.2.1)) (fun hn_ => (Kd.freshB (g := gb734) (o := .cells #[.bool t730, .slice Ao198 t731.length co198] 38 (0, 0)) (by exact lb BK734.out) k_ hn_)), Or.elim hk_ (fun hs_ => Or.elim hs_ (fun hs_ => hs_.2.2.2.2.2.2.1) (fun hs_ => hs_.1.2.2.2.2.2.2.1)) (fun hn_ => (Kd.freshB (g := gb754) (o := .cells #[.bool t750, .slice Ao210 t751.length co210] 38 (0, 0)) (by exact lb BK754.out) k_ hn_)), Or.elim hk_ (fun hs_ => Or.elim hs_ (fun hs_ => hs_.2.2.2.2.2.2.2.1) (fun hs_ => hs_.1.2.2.2.2.2.2.2)) (fun hn_ => (Kd.freshB (g := gb755) (o := .cells #[.bool x756000_163, u756001] 38 (0, 0)) (by exact lb BK755.out) k_ hn_)), Or.elim hk_ (fun hs_ => Or.elim hs_ (fun hs_ => hs_.2.2.2.2.2.2.2.2) (fun hs_ => hs_.2)) (fun hn_ => (Kd.freshB (g := gb773) (o := .cells #[.bool false, .slice none 0 0] 38 (0, 0)) (by exact lb BK773.out) k_ hn_))⟩)) (below_size (by repeat (first | (with_reducible first | exact HB.out | apply qa | apply qn | apply qd | refine qs ?_ GE710.out | refine qs ?_ GE711.out | refine qs ?_ GE723.out | refine qs ?_ GE724.out | refine qs ?_ GE729.out | refine qs ?_ GE734.out | refine qs ?_ GE754.out | refine qs ?_ GE755.out | refine qs ?_ GE773.out) | exact HB.out))))
     have n7_ := bb BK710 hb
     have n8_ := bb BK711 hb
     have n9_ := bb BK723 hb
     have n10_ := bb BK724 hb
     have n11_ := bb BK729 hb
     have n12_ := bb BK734 hb
     have n13_ := bb BK754 hb
     have n14_ := bb BK755 hb
     have n15_ := bb BK773 hb
     have n16_ := Aside0.mk (below_step (by repeat (first | (with_reducible first | exact HB.out | apply qa | apply qn | apply qd | refine qs ?_ GE710.out | refine qs ?_ GE711.out | refine qs ?_ GE723.out | refine qs ?_ GE724.out | refine qs ?_ GE729.out | refine qs ?_ GE734.out | refine qs ?_ GE754.out | refine qs ?_ GE755.out | refine qs ?_ GE773.out) | exact HB.out)) hb)
     clear HO_730001
     clear HO_735001
     clear HO_755001
     clear HO_756001
     clear HO764
     clear HO768
     clear BK710
     clear BK711
     clear BK723
     clear BK724
     clear BK729
     clear BK734
     clear BK754
     clear BK755
     clear BK773
     clear HB
     have HO_730001 := n0_
     have HO_735001 := n1_
     have HO_755001 := n2_
     have HO_756001 := n3_
     have HO764 := n4_
     have HO768 := n5_
     have HO772 := n6_
     have BK710 := n7_
     have BK711 := n8_
     have BK723 := n9_
     have BK724 := n10_
     have BK729 := n11_
     have BK734 := n12_
     have BK754 := n13_
     have BK755 := n14_
     have BK773 := n15_
     have HB := n16_
     clear n0_ n1_ n2_ n3_ n4_ n5_ n6_ n7_ n8_ n9_ n10_ n11_ n12_ n13_ n14_ n15_ n16_
     (try clear hb)
     (try clear hb2)
     (try clear hk)
     (try clear hi)
     (try clear ho0)
     refine hK.out _ _ ⟨(blk_cell BK723.out 0).trans rfl, (blk_cell BK723.out 1).trans rfl, (blk_cell BK723.out 2).trans rfl, (blk_cell BK723.out 3).trans rfl, (blk_cell BK723.out 4).trans rfl, (blk_cell BK734.out 0).trans rfl, (blk_cell BK734.out 1).trans rfl, (blk_cell BK754.out 0).trans rfl, (blk_cell BK754.out 1).trans rfl⟩ (fun hHeld => ?_)
     clear hK K
     refine norm_ (a' := ?_) ?_ ?_
     rotate_left
     ·show Act.put _ (some 83) _ = _
      simp only [Act.put, List.setIfInBounds_toArray, List.set_cons_zero, List.set_cons_succ, i64_w, i32_w]
      rfl
     exact norm_ (by simp only [putAll, Act.put, List.setIfInBounds_toArray, List.set_cons_zero, List.set_cons_succ]) (hCont (.slice Ao256 t762.length co256, .slice Ao258 t766.length co258, v771, gb773) _ ⟨hHeld, (by (with_reducible repeat (first | apply Kd.V_alloc | apply Kd.V_drewN | apply Kd.V_drew)); exact HO764.out), (by (with_reducible repeat (first | apply Kd.V_alloc | apply Kd.V_drewN | apply Kd.V_drew)); exact HO768.out), (by (with_reducible repeat (first | apply Kd.V_alloc | apply Kd.V_drewN | apply Kd.V_drew)); exact HO772.out), (by (with_reducible repeat (first | apply Kd.V_alloc | apply Kd.V_drewN | apply Kd.V_drew)); exact Kd.V_mono HO_730001.out (fun _ hk => ⟨hk.1.1, ⟨hk.1.2.1, ⟨hk.1.2.2.1, ⟨hk.1.2.2.2.1, ⟨hk.1.2.2.2.2.1, ⟨hk.1.2.2.2.2.2.1, ⟨hk.1.2.2.2.2.2.2.1, ⟨hk.1.2.2.2.2.2.2.2, hk.2⟩⟩⟩⟩⟩⟩⟩⟩)), (by (with_reducible repeat (first | apply Kd.V_alloc | apply Kd.V_drewN | apply Kd.V_drew)); exact Kd.V_mono HO_735001.out (fun _ hk => ⟨hk.1.1, ⟨hk.1.2.1, ⟨hk.1.2.2.1, ⟨hk.1.2.2.2.1, ⟨hk.1.2.2.2.2.1, ⟨hk.1.2.2.2.2.2.1, ⟨hk.1.2.2.2.2.2.2.1, ⟨hk.1.2.2.2.2.2.2.2, hk.2⟩⟩⟩⟩⟩⟩⟩⟩)), (by (with_reducible repeat (first | apply Kd.V_alloc | apply Kd.V_drewN | apply Kd.V_drew)); exact Kd.V_mono HO_755001.out (fun _ hk => ⟨hk.1.1, ⟨hk.1.2.1, ⟨hk.1.2.2.1, ⟨hk.1.2.2.2.1, ⟨hk.1.2.2.2.2.1, ⟨hk.1.2.2.2.2.2.1, ⟨hk.1.2.2.2.2.2.2.1, ⟨hk.1.2.2.2.2.2.2.2, hk.2⟩⟩⟩⟩⟩⟩⟩⟩)), (by (with_reducible repeat (first | apply Kd.V_alloc | apply Kd.V_drewN | apply Kd.V_drew)); exact Kd.V_mono HO_756001.out (fun _ hk => ⟨hk.1.1, ⟨hk.1.2.1, ⟨hk.1.2.2.1, ⟨hk.1.2.2.2.1, ⟨hk.1.2.2.2.2.1, ⟨hk.1.2.2.2.2.2.1, ⟨hk.1.2.2.2.2.2.2.1, ⟨hk.1.2.2.2.2.2.2.2, hk.2⟩⟩⟩⟩⟩⟩⟩⟩)), (by exact lb BK710.out), (by exact lb BK711.out), (by exact lb BK723.out), (by exact lb BK724.out), (by exact lb BK729.out), (by exact lb BK734.out), (by exact lb BK754.out), (by exact lb BK755.out), (by exact lb BK773.out), GW773.out, GE773.out, NB710_773.out, NB773_710.out, NB711_773.out, NB773_711.out, NB723_773.out, NB773_723.out, NB724_773.out, NB773_724.out, NB729_773.out, NB773_729.out, NB734_773.out, NB773_734.out, NB754_773.out, NB773_754.out, NB755_773.out, NB773_755.out, (by repeat (first | (with_reducible first | exact HB.out | apply qa | apply qn | apply qd | refine qs ?_ GE710.out | refine qs ?_ GE711.out | refine qs ?_ GE723.out | refine qs ?_ GE724.out | refine qs ?_ GE729.out | refine qs ?_ GE734.out | refine qs ?_ GE754.out | refine qs ?_ GE755.out | refine qs ?_ GE773.out) | exact HB.out))⟩)
   rintro ⟨v763, v767, v771, gb773⟩ w260 ⟨hS_, h0_, h1_, h2_, h3_, h4_, h5_, h6_, h7_, h8_, h9_, h10_, h11_, h12_, h13_, h14_, h15_, h16_, h17_, h18_, h19_, h20_, h21_, h22_, h23_, h24_, h25_, h26_, h27_, h28_, h29_, h30_, h31_, h32_, h33_, h34_⟩
   have n0_ : Aside0 (Kd.V (Kd.int .i64) 3 w260 w.heap.size (fun k_ => k_ ≠ gb710 ∧ k_ ≠ gb711 ∧ k_ ≠ gb723 ∧ k_ ≠ gb724 ∧ k_ ≠ gb729 ∧ k_ ≠ gb734 ∧ k_ ≠ gb754 ∧ k_ ≠ gb755 ∧ k_ ≠ gb773) v763 t762) := ⟨h0_⟩
   have n1_ : Aside0 (Kd.V (Kd.int .i64) 3 w260 w.heap.size (fun k_ => k_ ≠ gb710 ∧ k_ ≠ gb711 ∧ k_ ≠ gb723 ∧ k_ ≠ gb724 ∧ k_ ≠ gb729 ∧ k_ ≠ gb734 ∧ k_ ≠ gb754 ∧ k_ ≠ gb755 ∧ k_ ≠ gb773) v767 t766) := ⟨h1_⟩
   have n2_ : Aside0 (Kd.V (Kd.int .i64) 3 w260 w.heap.size (fun k_ => k_ ≠ gb710 ∧ k_ ≠ gb711 ∧ k_ ≠ gb723 ∧ k_ ≠ gb724 ∧ k_ ≠ gb729 ∧ k_ ≠ gb734 ∧ k_ ≠ gb754 ∧ k_ ≠ gb755 ∧ k_ ≠ gb773) v771 t770) := ⟨h2_⟩
   have n3_ : Aside0 (Kd.V (Kd.int .i64) 3 w260 w.heap.size (fun k_ => k_ ≠ gb710 ∧ k_ ≠ gb711 ∧ k_ ≠ gb723 ∧ k_ ≠ gb724 ∧ k_ ≠ gb729 ∧ k_ ≠ gb734 ∧ k_ ≠ gb754 ∧ k_ ≠ gb755 ∧ k_ ≠ gb773) (.slice Ao188 t726.length co188) t726) := ⟨h3_⟩
   have n4_ : Aside0 (Kd.V (Kd.int .i64) 3 w260 w.heap.size (fun k_ => k_ ≠ gb710 ∧ k_ ≠ gb711 ∧ k_ ≠ gb723 ∧ k_ ≠ gb724 ∧ k_ ≠ gb729 ∧ k_ ≠ gb734 ∧ k_ ≠ gb754 ∧ k_ ≠ gb755 ∧ k_ ≠ gb773) (.slice Ao198 t731.length co198) t731) := ⟨h4_⟩
   have n5_ : Aside0 (Kd.V (Kd.int .i64) 3 w260 w.heap.size (fun k_ => k_ ≠ gb710 ∧ k_ ≠ gb711 ∧ k_ ≠ gb723 ∧ k_ ≠ gb724 ∧ k_ ≠ gb729 ∧ k_ ≠ gb734 ∧ k_ ≠ gb754 ∧ k_ ≠ gb755 ∧ k_ ≠ gb773) (.slice Ao210 t751.length co210) t751) := ⟨h5_⟩
   have n6_ : Aside0 (Kd.V (Kd.int .i64) 3 w260 w.heap.size (fun k_ => k_ ≠ gb710 ∧ k_ ≠ gb711 ∧ k_ ≠ gb723 ∧ k_ ≠ gb724 ∧ k_ ≠ gb729 ∧ k_ ≠ gb734 ∧ k_ ≠ gb754 ∧ k_ ≠ gb755 ∧ k_ ≠ gb773) u756001 x756001_163) := ⟨h6_⟩
   have n7_ : Aside0 (w260.heap[gb710]? = some (.cells #[.bool a0_0, .int .u64 a0_1, .int .u64 a0_2, .int .u64 a0_3, .int .u64 a0_4] 27 (0, 0))) := ⟨h7_⟩
   have n8_ : Aside0 (w260.heap[gb711]? = some (.cells #[.bool a1_0, .int .u64 a1_1, .int .u64 a1_2, .int .u64 a1_3, .int .u64 a1_4] 27 (0, 0))) := ⟨h8_⟩
   have n9_ : Aside0 (w260.heap[gb723]? = some (.cells #[.bool t712, .int .u64 t713, .int .u64 t714, .int .u64 t715, .int .u64 t716] 27 (0, 0))) := ⟨h9_⟩
   have n10_ : Aside0 (w260.heap[gb724]? = some (.cells #[.bool t717, .int .u64 t718, .int .u64 t719, .int .u64 t720, .int .u64 t721] 27 (0, 0))) := ⟨h10_⟩
   have n11_ : Aside0 (w260.heap[gb729]? = some (.cells #[.bool t725, .slice Ao188 t726.length co188] 38 (0, 0))) := ⟨h11_⟩
   have n12_ : Aside0 (w260.heap[gb734]? = some (.cells #[.bool t730, .slice Ao198 t731.length co198] 38 (0, 0))) := ⟨h12_⟩
   have n13_ : Aside0 (w260.heap[gb754]? = some (.cells #[.bool t750, .slice Ao210 t751.length co210] 38 (0, 0))) := ⟨h13_⟩
   have n14_ : Aside0 (w260.heap[gb755]? = some (.cells #[.bool x756000_163, u756001] 38 (0, 0))) := ⟨h14_⟩
   have n15_ : Aside0 (w260.heap[gb773]? = some (.cells #[.bool false, .slice none 0 0] 38 (0, 0))) := ⟨h15_⟩
   have n16_ : Aside0 (w.heap.size ≤ gb773) := ⟨h16_⟩
   have n17_ : Aside0 (w.heap.size ≤ gb773) := ⟨h17_⟩
   have n18_ : Aside0 (gb710 ≠ gb773) := ⟨h18_⟩
   have n19_ : Aside0 (gb773 ≠ gb710) := ⟨h19_⟩
   have n20_ : Aside0 (gb711 ≠ gb773) := ⟨h20_⟩
   have n21_ : Aside0 (gb773 ≠ gb711) := ⟨h21_⟩
   have n22_ : Aside0 (gb723 ≠ gb773) := ⟨h22_⟩
   have n23_ : Aside0 (gb773 ≠ gb723) := ⟨h23_⟩
   have n24_ : Aside0 (gb724 ≠ gb773) := ⟨h24_⟩
   have n25_ : Aside0 (gb773 ≠ gb724) := ⟨h25_⟩
   have n26_ : Aside0 (gb729 ≠ gb773) := ⟨h26_⟩
   have n27_ : Aside0 (gb773 ≠ gb729) := ⟨h27_⟩
   have n28_ : Aside0 (gb734 ≠ gb773) := ⟨h28_⟩
   have n29_ : Aside0 (gb773 ≠ gb734) := ⟨h29_⟩
   have n30_ : Aside0 (gb754 ≠ gb773) := ⟨h30_⟩
   have n31_ : Aside0 (gb773 ≠ gb754) := ⟨h31_⟩
   have n32_ : Aside0 (gb755 ≠ gb773) := ⟨h32_⟩
   have n33_ : Aside0 (gb773 ≠ gb755) := ⟨h33_⟩
   have n34_ : Aside0 (Below w.heap.size w w260) := ⟨h34_⟩
   clear HO_730001
   clear HO_735001
   clear HO_755001
   clear HO_756001
   clear BK710
   clear BK711
   clear BK723
   clear BK724
   clear BK729
   clear BK734
   clear BK754
   clear BK755
   clear HB
   clear h0_ h1_ h2_ h3_ h4_ h5_ h6_ h7_ h8_ h9_ h10_ h11_ h12_ h13_ h14_ h15_ h16_ h17_ h18_ h19_ h20_ h21_ h22_ h23_ h24_ h25_ h26_ h27_ h28_ h29_ h30_ h31_ h32_ h33_ h34_
   have HO764 := n0_
   have HO768 := n1_
   have HO772 := n2_
   have HO_730001 := n3_
   have HO_735001 := n4_
   have HO_755001 := n5_
   have HO_756001 := n6_
   have BK710 := n7_
   have BK711 := n8_
   have BK723 := n9_
   have BK724 := n10_
   have BK729 := n11_
   have BK734 := n12_
   have BK754 := n13_
   have BK755 := n14_
   have BK773 := n15_
   have GW773 := n16_
   have GE773 := n17_
   have NB710_773 := n18_
   have NB773_710 := n19_
   have NB711_773 := n20_
   have NB773_711 := n21_
   have NB723_773 := n22_
   have NB773_723 := n23_
   have NB724_773 := n24_
   have NB773_724 := n25_
   have NB729_773 := n26_
   have NB773_729 := n27_
   have NB734_773 := n28_
   have NB773_734 := n29_
   have NB754_773 := n30_
   have NB773_754 := n31_
   have NB755_773 := n32_
   have NB773_755 := n33_
   have HB := n34_
   clear n0_ n1_ n2_ n3_ n4_ n5_ n6_ n7_ n8_ n9_ n10_ n11_ n12_ n13_ n14_ n15_ n16_ n17_ n18_ n19_ n20_ n21_ n22_ n23_ n24_ n25_ n26_ n27_ n28_ n29_ n30_ n31_ n32_ n33_ n34_
   have hHeld : w260.cell? ⟨gb723, 0, none⟩ = some (.bool t712) ∧ w260.cell? ⟨gb723, 1, none⟩ = some (.int .u64 t713) ∧ w260.cell? ⟨gb723, 2, none⟩ = some (.int .u64 t714) ∧ w260.cell? ⟨gb723, 3, none⟩ = some (.int .u64 t715) ∧ w260.cell? ⟨gb723, 4, none⟩ = some (.int .u64 t716) ∧ w260.cell? ⟨gb734, 0, none⟩ = some (.bool t730) ∧ w260.cell? ⟨gb734, 1, none⟩ = some (.slice Ao198 t731.length co198) ∧ w260.cell? ⟨gb754, 0, none⟩ = some (.bool t750) ∧ w260.cell? ⟨gb754, 1, none⟩ = some (.slice Ao210 t751.length co210) := hS_
   obtain ⟨Ao262, co262, eo262⟩ := Kd.V_slice HO772.out
   (first | subst eo262 | (injection eo262 with f1_ f2_ f3_; have f4_ := f1_.symm; have f5_ := f3_.symm; clear f1_ f2_ f3_; subst f4_; subst f5_))
   refine norm_ (a' := ?_) ?_ ?_
   rotate_left
   ·simp only [putAll, Act.put, List.setIfInBounds_toArray, List.set_cons_zero, List.set_cons_succ]
    rfl
   refine one_ (i := 7) (N := none) #[Tt, Tt, Tt, Tt, Tt, Tt, Tt, Tt] rfl rfl (one_of HT_.out (by kernel_rfl)) (by decide) (fun K hK => ?_)
   have hs261 : w260.cell? ⟨gb773, 0, none⟩ = some (.bool false) := (blk_cell BK773.out 0).trans rfl
   have hfs261 := blk_frozen BK773.out 0
   have hns261_0 := NB710_773.out
   have hns261_1 := NB711_773.out
   have hns261_2 := NB723_773.out
   have hns261_3 := NB724_773.out
   have hns261_4 := NB729_773.out
   have hns261_5 := NB734_773.out
   have hns261_6 := NB754_773.out
   have hns261_7 := NB755_773.out
   have hms261_0 := NB773_710.out
   have hms261_1 := NB773_711.out
   have hms261_2 := NB773_723.out
   have hms261_3 := NB773_724.out
   have hms261_4 := NB773_729.out
   have hms261_5 := NB773_734.out
   have hms261_6 := NB773_754.out
   have hms261_7 := NB773_755.out
   have hs263 : w260.cell? ⟨gb773, 1, none⟩ = some (.slice none 0 0) := (blk_cell BK773.out 1).trans rfl
   have hfs263 := blk_frozen BK773.out 1
   have hns263_0 := NB710_773.out
   have hns263_1 := NB711_773.out
   have hns263_2 := NB723_773.out
   have hns263_3 := NB724_773.out
   have hns263_4 := NB729_773.out
   have hns263_5 := NB734_773.out
   have hns263_6 := NB754_773.out
   have hns263_7 := NB755_773.out
   have hms263_0 := NB773_710.out
   have hms263_1 := NB773_711.out
   have hms263_2 := NB773_723.out
   have hms263_3 := NB773_724.out
   have hms263_4 := NB773_729.out
   have hms263_5 := NB773_734.out
   have hms263_6 := NB773_754.out
   have hms263_7 := NB773_755.out
   refine skip_ (w1 := ?_) (by rfl) rfl ?_ ?_
   rotate_left
   ·go_simp
    rfl
   refine hK.out _ _ ⟨((cell_far (p := ⟨gb773, _, none⟩) NB723_773.out _).trans (((cell_far (p := ⟨gb773, _, none⟩) NB723_773.out _).trans (hHeld.1)))), ((cell_far (p := ⟨gb773, _, none⟩) NB723_773.out _).trans (((cell_far (p := ⟨gb773, _, none⟩) NB723_773.out _).trans (hHeld.2.1)))), ((cell_far (p := ⟨gb773, _, none⟩) NB723_773.out _).trans (((cell_far (p := ⟨gb773, _, none⟩) NB723_773.out _).trans (hHeld.2.2.1)))), ((cell_far (p := ⟨gb773, _, none⟩) NB723_773.out _).trans (((cell_far (p := ⟨gb773, _, none⟩) NB723_773.out _).trans (hHeld.2.2.2.1)))), ((cell_far (p := ⟨gb773, _, none⟩) NB723_773.out _).trans (((cell_far (p := ⟨gb773, _, none⟩) NB723_773.out _).trans (hHeld.2.2.2.2.1)))), ((cell_far (p := ⟨gb773, _, none⟩) NB734_773.out _).trans (((cell_far (p := ⟨gb773, _, none⟩) NB734_773.out _).trans (hHeld.2.2.2.2.2.1)))), ((cell_far (p := ⟨gb773, _, none⟩) NB734_773.out _).trans (((cell_far (p := ⟨gb773, _, none⟩) NB734_773.out _).trans (hHeld.2.2.2.2.2.2.1)))), ((cell_far (p := ⟨gb773, _, none⟩) NB754_773.out _).trans (((cell_far (p := ⟨gb773, _, none⟩) NB754_773.out _).trans (hHeld.2.2.2.2.2.2.2.1)))), ((cell_far (p := ⟨gb773, _, none⟩) NB754_773.out _).trans (((cell_far (p := ⟨gb773, _, none⟩) NB754_773.out _).trans (hHeld.2.2.2.2.2.2.2.2))))⟩ (fun hHeld => ?_)
   clear hK K
   refine done_ (done_of HT_.out (by kernel_rfl)) ?_
   have hnb264 := NB773_710.out
   have hnc264 := NB710_773.out
   have hnb265 := NB773_711.out
   have hnc265 := NB711_773.out
   have hnb266 := NB773_723.out
   have hnc266 := NB723_773.out
   have hnb267 := NB773_724.out
   have hnc267 := NB724_773.out
   have hnb268 := NB773_729.out
   have hnc268 := NB729_773.out
   have hnb269 := NB773_734.out
   have hnc269 := NB734_773.out
   have hnb270 := NB773_754.out
   have hnc270 := NB754_773.out
   have hnb271 := NB773_755.out
   have hnc271 := NB755_773.out
   obtain ⟨hcz272_0, hcz272_1⟩ := cl2 BK773.out
   obtain ⟨hfz272_0, hfz272_1⟩ := fr2 BK773.out
   have hnb273 := NB729_710.out
   have hnc273 := NB710_729.out
   have hnb274 := NB729_711.out
   have hnc274 := NB711_729.out
   have hnb275 := NB729_723.out
   have hnc275 := NB723_729.out
   have hnb276 := NB729_724.out
   have hnc276 := NB724_729.out
   have hnb277 := NB729_734.out
   have hnc277 := NB734_729.out
   have hnb278 := NB729_754.out
   have hnc278 := NB754_729.out
   have hnb279 := NB729_755.out
   have hnc279 := NB755_729.out
   obtain ⟨hcz280_0, hcz280_1⟩ := cl2 BK729.out
   obtain ⟨hfz280_0, hfz280_1⟩ := fr2 BK729.out
   try go_wp2_with (first | (go_at_call 27; (with_reducible refine (parquetref01_Num_Cmp.calls kj163 t769 _ _ t770 t725 _ _ t726 t774 _ ?side1 ?side2 ?side3 ?side4 A246.out).mono ?_); (case side1 => refine (Kd.V_reads' (e := 3) (base := w.heap.size) (ok := fun k_ => (k_ ≠ gb710 ∧ (k_ ≠ gb711 ∧ (k_ ≠ gb723 ∧ (k_ ≠ gb724 ∧ (k_ ≠ gb729 ∧ (k_ ≠ gb734 ∧ (k_ ≠ gb754 ∧ (k_ ≠ gb755 ∧ k_ ≠ gb773))))))))) (n := t770.length) (c := co262) ?_).2.2; exact (by (with_reducible repeat (first | apply Kd.V_alloc | apply Kd.V_drewN | apply Kd.V_drew)); exact (Kd.V_mono (Kd.V_far (p := ⟨gb773, 1, none⟩) (Kd.V_far (p := ⟨gb773, 0, none⟩) (Kd.V_mono HO772.out (fun k_ hk => (⟨hk, hk.2.2.2.2.2.2.2.2⟩ : _ ∧ k_ ≠ gb773))) (fun _ hk => hk.2) (.bool t769)) (fun _ hk => hk.2) (.slice Ao262 t770.length co262)) (fun _ h_ => h_.1)))); (case side2 => exact (Kd.V_reads' HO772.out).2.1); (case side3 => refine (Kd.V_reads' (e := 3) (base := w.heap.size) (ok := fun k_ => (k_ ≠ gb710 ∧ (k_ ≠ gb711 ∧ (k_ ≠ gb723 ∧ (k_ ≠ gb724 ∧ (k_ ≠ gb729 ∧ (k_ ≠ gb734 ∧ (k_ ≠ gb754 ∧ (k_ ≠ gb755 ∧ k_ ≠ gb773))))))))) (n := t726.length) (c := co188) ?_).2.2; exact (by (with_reducible repeat (first | apply Kd.V_alloc | apply Kd.V_drewN | apply Kd.V_drew)); exact (Kd.V_mono (Kd.V_far (p := ⟨gb773, 1, none⟩) (Kd.V_far (p := ⟨gb773, 0, none⟩) (Kd.V_mono HO_730001.out (fun k_ hk => (⟨hk, hk.2.2.2.2.2.2.2.2⟩ : _ ∧ k_ ≠ gb773))) (fun _ hk => hk.2) (.bool t769)) (fun _ hk => hk.2) (.slice Ao262 t770.length co262)) (fun _ h_ => h_.1)))); (case side4 => exact (Kd.V_reads' HO_730001.out).2.1); rintro e w281 ⟨rfl, hb⟩; have n0_ := Aside0.mk (Kd.V_below (by (with_reducible repeat (first | apply Kd.V_alloc | apply Kd.V_drewN | apply Kd.V_drew)); exact (Kd.V_mono (Kd.V_far (p := ⟨gb773, 1, none⟩) (Kd.V_far (p := ⟨gb773, 0, none⟩) (Kd.V_mono HO_730001.out (fun k_ hk => (⟨hk, hk.2.2.2.2.2.2.2.2⟩ : _ ∧ k_ ≠ gb773))) (fun _ hk => hk.2) (.bool t769)) (fun _ hk => hk.2) (.slice Ao262 t770.length co262)) (fun _ h_ => h_.1))) hb); have n1_ := Aside0.mk (Kd.V_below (by (with_reducible repeat (first | apply Kd.V_alloc | apply Kd.V_drewN | apply Kd.V_drew)); exact (Kd.V_mono (Kd.V_far (p := ⟨gb773, 1, none⟩) (Kd.V_far (p := ⟨gb773, 0, none⟩) (Kd.V_mono HO_735001.out (fun k_ hk => (⟨hk, hk.2.2.2.2.2.2.2.2⟩ : _ ∧ k_ ≠ gb773))) (fun _ hk => hk.2) (.bool t769)) (fun _ hk => hk.2) (.slice Ao262 t770.length co262)) (fun _ h_ => h_.1))) hb); have n2_ := Aside0.mk (Kd.V_below (by (with_reducible repeat (first | apply Kd.V_alloc | apply Kd.V_drewN | apply Kd.V_drew)); exact (Kd.V_mono (Kd.V_far (p := ⟨gb773, 1, none⟩) (Kd.V_far (p := ⟨gb773, 0, none⟩) (Kd.V_mono HO_755001.out (fun k_ hk => (⟨hk, hk.2.2.2.2.2.2.2.2⟩ : _ ∧ k_ ≠ gb773))) (fun _ hk => hk.2) (.bool t769)) (fun _ hk => hk.2) (.slice Ao262 t770.length co262)) (fun _ h_ => h_.1))) hb); have n3_ := Aside0.mk (Kd.V_below (by (with_reducible repeat (first | apply Kd.V_alloc | apply Kd.V_drewN | apply Kd.V_drew)); exact (Kd.V_mono (Kd.V_far (p := ⟨gb773, 1, none⟩) (Kd.V_far (p := ⟨gb773, 0, none⟩) (Kd.V_mono HO_756001.out (fun k_ hk => (⟨hk, hk.2.2.2.2.2.2.2.2⟩ : _ ∧ k_ ≠ gb773))) (fun _ hk => hk.2) (.bool t769)) (fun _ hk => hk.2) (.slice Ao262 t770.length co262)) (fun _ h_ => h_.1))) hb); have n4_ := Aside0.mk (Kd.V_below (by (with_reducible repeat (first | apply Kd.V_alloc | apply Kd.V_drewN | apply Kd.V_drew)); exact (Kd.V_mono (Kd.V_far (p := ⟨gb773, 1, none⟩) (Kd.V_far (p := ⟨gb773, 0, none⟩) (Kd.V_mono HO764.out (fun k_ hk => (⟨hk, hk.2.2.2.2.2.2.2.2⟩ : _ ∧ k_ ≠ gb773))) (fun _ hk => hk.2) (.bool t769)) (fun _ hk => hk.2) (.slice Ao262 t770.length co262)) (fun _ h_ => h_.1))) hb); have n5_ := Aside0.mk (Kd.V_below (by (with_reducible repeat (first | apply Kd.V_alloc | apply Kd.V_drewN | apply Kd.V_drew)); exact (Kd.V_mono (Kd.V_far (p := ⟨gb773, 1, none⟩) (Kd.V_far (p := ⟨gb773, 0, none⟩) (Kd.V_mono HO768.out (fun k_ hk => (⟨hk, hk.2.2.2.2.2.2.2.2⟩ : _ ∧ k_ ≠ gb773))) (fun _ hk => hk.2) (.bool t769)) (fun _ hk => hk.2) (.slice Ao262 t770.length co262)) (fun _ h_ => h_.1))) hb); have n6_ := Aside0.mk (Kd.V_below (by (with_reducible repeat (first | apply Kd.V_alloc | apply Kd.V_drewN | apply Kd.V_drew)); exact (Kd.V_mono (Kd.V_far (p := ⟨gb773, 1, none⟩) (Kd.V_far (p := ⟨gb773, 0, none⟩) (Kd.V_mono HO772.out (fun k_ hk => (⟨hk, hk.2.2.2.2.2.2.2.2⟩ : _ ∧ k_ ≠ gb773))) (fun _ hk => hk.2) (.bool t769)) (fun _ hk => hk.2) (.slice Ao262 t770.length co262)) (fun _ h_ => h_.1))) hb); have n7_ := Aside0.mk (blk_below (g := gb710) (o := .cells #[.bool a0_0, .int .u64 a0_1, .int .u64 a0_2, .int .u64 a0_3, .int .u64 a0_4] 27 (0, 0)) (by repeat (with_reducible first | exact lb BK710.out | refine blk_far ?_ NB710_773.out _ | refine cn ?_ _ | refine cd ?_ | refine ca ?_ _)) hb); have n8_ := Aside0.mk (blk_below (g := gb711) (o := .cells #[.bool a1_0, .int .u64 a1_1, .int .u64 a1_2, .int .u64 a1_3, .int .u64 a1_4] 27 (0, 0)) (by repeat (with_reducible first | exact lb BK711.out | refine blk_far ?_ NB711_773.out _ | refine cn ?_ _ | refine cd ?_ | refine ca ?_ _)) hb); have n9_ := Aside0.mk (blk_below (g := gb723) (o := .cells #[.bool t712, .int .u64 t713, .int .u64 t714, .int .u64 t715, .int .u64 t716] 27 (0, 0)) (by repeat (with_reducible first | exact lb BK723.out | refine blk_far ?_ NB723_773.out _ | refine cn ?_ _ | refine cd ?_ | refine ca ?_ _)) hb); have n10_ := Aside0.mk (blk_below (g := gb724) (o := .cells #[.bool t717, .int .u64 t718, .int .u64 t719, .int .u64 t720, .int .u64 t721] 27 (0, 0)) (by repeat (with_reducible first | exact lb BK724.out | refine blk_far ?_ NB724_773.out _ | refine cn ?_ _ | refine cd ?_ | refine ca ?_ _)) hb); have n11_ := Aside0.mk (blk_below (g := gb729) (o := .cells #[.bool t725, .slice Ao188 t726.length co188] 38 (0, 0)) (by repeat (with_reducible first | exact lb BK729.out | refine blk_far ?_ NB729_773.out _ | refine cn ?_ _ | refine cd ?_ | refine ca ?_ _)) hb); have n12_ := Aside0.mk (blk_below (g := gb734) (o := .cells #[.bool t730, .slice Ao198 t731.length co198] 38 (0, 0)) (by repeat (with_reducible first | exact lb BK734.out | refine blk_far ?_ NB734_773.out _ | refine cn ?_ _ | refine cd ?_ | refine ca ?_ _)) hb); have n13_ := Aside0.mk (blk_below (g := gb754) (o := .cells #[.bool t750, .slice Ao210 t751.length co210] 38 (0, 0)) (by repeat (with_reducible first | exact lb BK754.out | refine blk_far ?_ NB754_773.out _ | refine cn ?_ _ | refine cd ?_ | refine ca ?_ _)) hb); have n14_ := Aside0.mk (blk_below (g := gb755) (o := .cells #[.bool x756000_163, u756001] 38 (0, 0)) (by repeat (with_reducible first | exact lb BK755.out | refine blk_far ?_ NB755_773.out _ | refine cn ?_ _ | refine cd ?_ | refine ca ?_ _)) hb); have n15_ := Aside0.mk (blk_below (g := gb773) (o := .cells #[.bool t769, .slice Ao262 t770.length co262] 38 (0, 0)) (by (with_reducible repeat (first | refine cn ?_ _ | refine cd ?_ | refine ca ?_ _)); refine blk_put (cs := #[.bool t769, .slice none 0 0]) ?_ 1 _ rfl; (with_reducible repeat (first | refine cn ?_ _ | refine cd ?_ | refine ca ?_ _)); refine blk_put (cs := #[.bool false, .slice none 0 0]) ?_ 0 _ rfl; (with_reducible repeat (first | refine cn ?_ _ | refine cd ?_ | refine ca ?_ _)); exact BK773.out) hb); have n16_ := Aside0.mk (below_step (by repeat (first | (with_reducible first | exact HB.out | apply qa | apply qn | apply qd | refine qs ?_ GE710.out | refine qs ?_ GE711.out | refine qs ?_ GE723.out | refine qs ?_ GE724.out | refine qs ?_ GE729.out | refine qs ?_ GE734.out | refine qs ?_ GE754.out | refine qs ?_ GE755.out | refine qs ?_ GE773.out) | exact HB.out)) hb); clear HO_730001; clear HO_735001; clear HO_755001; clear HO_756001; clear HO764; clear HO768; clear HO772; clear BK710; clear BK711; clear BK723; clear BK724; clear BK729; clear BK734; clear BK754; clear BK755; clear BK773; clear HB; have HO_730001 := n0_; have HO_735001 := n1_; have HO_755001 := n2_; have HO_756001 := n3_; have HO764 := n4_; have HO768 := n5_; have HO772 := n6_; have BK710 := n7_; have BK711 := n8_; have BK723 := n9_; have BK724 := n10_; have BK729 := n11_; have BK734 := n12_; have BK754 := n13_; have BK755 := n14_; have BK773 := n15_; have HB := n16_; clear n0_ n1_ n2_ n3_ n4_ n5_ n6_ n7_ n8_ n9_ n10_ n11_ n12_ n13_ n14_ n15_ n16_; (try clear hb); (try clear hb2); (try clear hk); (try clear hi); have hnb282 := NB754_710.out; have hnc282 := NB710_754.out; have hnb283 := NB754_711.out; have hnc283 := NB711_754.out; have hnb284 := NB754_723.out; have hnc284 := NB723_754.out; have hnb285 := NB754_724.out; have hnc285 := NB724_754.out; have hnb286 := NB754_734.out; have hnc286 := NB734_754.out; have hnb287 := NB754_755.out; have hnc287 := NB755_754.out; obtain ⟨hcz288_0, hcz288_1⟩ := cl2 BK754.out; obtain ⟨hfz288_0, hfz288_1⟩ := fr2 BK754.out) | (go_at_call 25; (with_reducible refine (parquetref01_Num_Sign.calls t750 _ _ t751 t775 _ ?side1 ?side2 A248.out).mono ?_); (case side1 => repeat (first | exact (Kd.V_reads' HO_755001.out).2.2 | (with_reducible refine Kd.C_alloc ?_ _) | (with_reducible refine Kd.C_drewN ?_ _) | (with_reducible refine Kd.C_drew ?_))); (case side2 => exact (Kd.V_reads' HO_755001.out).2.1); rintro e w289 ⟨rfl, hb⟩; have n0_ := Aside0.mk (Kd.V_below (by (with_reducible repeat (first | apply Kd.V_alloc | apply Kd.V_drewN | apply Kd.V_drew)); exact HO_730001.out) hb); have n1_ := Aside0.mk (Kd.V_below (by (with_reducible repeat (first | apply Kd.V_alloc | apply Kd.V_drewN | apply Kd.V_drew)); exact HO_735001.out) hb); have n2_ := Aside0.mk (Kd.V_below (by (with_reducible repeat (first | apply Kd.V_alloc | apply Kd.V_drewN | apply Kd.V_drew)); exact HO_755001.out) hb); have n3_ := Aside0.mk (Kd.V_below (by (with_reducible repeat (first | apply Kd.V_alloc | apply Kd.V_drewN | apply Kd.V_drew)); exact HO_756001.out) hb); have n4_ := Aside0.mk (Kd.V_below (by (with_reducible repeat (first | apply Kd.V_alloc | apply Kd.V_drewN | apply Kd.V_drew)); exact HO764.out) hb); have n5_ := Aside0.mk (Kd.V_below (by (with_reducible repeat (first | apply Kd.V_alloc | apply Kd.V_drewN | apply Kd.V_drew)); exact HO768.out) hb); have n6_ := Aside0.mk (Kd.V_below (by (with_reducible repeat (first | apply Kd.V_alloc | apply Kd.V_drewN | apply Kd.V_drew)); exact HO772.out) hb); have n7_ := bb BK710 hb; have n8_ := bb BK711 hb; have n9_ := bb BK723 hb; have n10_ := bb BK724 hb; have n11_ := bb BK729 hb; have n12_ := bb BK734 hb; have n13_ := bb BK754 hb; have n14_ := bb BK755 hb; have n15_ := bb BK773 hb; have n16_ := Aside0.mk (below_step (by repeat (first | (with_reducible first | exact HB.out | apply qa | apply qn | apply qd | refine qs ?_ GE710.out | refine qs ?_ GE711.out | refine qs ?_ GE723.out | refine qs ?_ GE724.out | refine qs ?_ GE729.out | refine qs ?_ GE734.out | refine qs ?_ GE754.out | refine qs ?_ GE755.out | refine qs ?_ GE773.out) | exact HB.out)) hb); clear HO_730001; clear HO_735001; clear HO_755001; clear HO_756001; clear HO764; clear HO768; clear HO772; clear BK710; clear BK711; clear BK723; clear BK724; clear BK729; clear BK734; clear BK754; clear BK755; clear BK773; clear HB; have HO_730001 := n0_; have HO_735001 := n1_; have HO_755001 := n2_; have HO_756001 := n3_; have HO764 := n4_; have HO768 := n5_; have HO772 := n6_; have BK710 := n7_; have BK711 := n8_; have BK723 := n9_; have BK724 := n10_; have BK729 := n11_; have BK734 := n12_; have BK754 := n13_; have BK755 := n14_; have BK773 := n15_; have HB := n16_; clear n0_ n1_ n2_ n3_ n4_ n5_ n6_ n7_ n8_ n9_ n10_ n11_ n12_ n13_ n14_ n15_ n16_; (try clear hb); (try clear hb2); (try clear hk); (try clear hi); obtain ⟨hcz290_0, hcz290_1⟩ := cl2 BK754.out; obtain ⟨hfz290_0, hfz290_1⟩ := fr2 BK754.out; have hnb291 := NB755_710.out; have hnc291 := NB710_755.out; have hnb292 := NB755_711.out; have hnc292 := NB711_755.out; have hnb293 := NB755_723.out; have hnc293 := NB723_755.out; have hnb294 := NB755_724.out; have hnc294 := NB724_755.out; have hnb295 := NB755_734.out; have hnc295 := NB734_755.out; obtain ⟨hcz296_0, hcz296_1⟩ := cl2 BK755.out; obtain ⟨hfz296_0, hfz296_1⟩ := fr2 BK755.out; obtain ⟨Ao297, co297, eo297⟩ := Kd.V_slice HO_756001.out; subst eo297) | (go_at_call 27; (with_reducible refine (parquetref01_Num_Cmp.calls kj163 t750 _ _ t751 x756000_163 _ _ x756001_163 t776 _ ?side1 ?side2 ?side3 ?side4 A250.out).mono ?_); (case side1 => repeat (first | exact (Kd.V_reads' HO_755001.out).2.2 | (with_reducible refine Kd.C_alloc ?_ _) | (with_reducible refine Kd.C_drewN ?_ _) | (with_reducible refine Kd.C_drew ?_))); (case side2 => exact (Kd.V_reads' HO_755001.out).2.1); (case side3 => repeat (first | exact (Kd.V_reads' HO_756001.out).2.2 | (with_reducible refine Kd.C_alloc ?_ _) | (with_reducible refine Kd.C_drewN ?_ _) | (with_reducible refine Kd.C_drew ?_))); (case side4 => exact (Kd.V_reads' HO_756001.out).2.1); rintro e w298 ⟨rfl, hb⟩; have n0_ := Aside0.mk (Kd.V_below (by (with_reducible repeat (first | apply Kd.V_alloc | apply Kd.V_drewN | apply Kd.V_drew)); exact HO_730001.out) hb); have n1_ := Aside0.mk (Kd.V_below (by (with_reducible repeat (first | apply Kd.V_alloc | apply Kd.V_drewN | apply Kd.V_drew)); exact HO_735001.out) hb); have n2_ := Aside0.mk (Kd.V_below (by (with_reducible repeat (first | apply Kd.V_alloc | apply Kd.V_drewN | apply Kd.V_drew)); exact HO_755001.out) hb); have n3_ := Aside0.mk (Kd.V_below (by (with_reducible repeat (first | apply Kd.V_alloc | apply Kd.V_drewN | apply Kd.V_drew)); exact HO_756001.out) hb); have n4_ := Aside0.mk (Kd.V_below (by (with_reducible repeat (first | apply Kd.V_alloc | apply Kd.V_drewN | apply Kd.V_drew)); exact HO764.out) hb); have n5_ := Aside0.mk (Kd.V_below (by (with_reducible repeat (first | apply Kd.V_alloc | apply Kd.V_drewN | apply Kd.V_drew)); exact HO768.out) hb); have n6_ := Aside0.mk (Kd.V_below (by (with_reducible repeat (first | apply Kd.V_alloc | apply Kd.V_drewN | apply Kd.V_drew)); exact HO772.out) hb); have n7_ := bb BK710 hb; have n8_ := bb BK711 hb; have n9_ := bb BK723 hb; have n10_ := bb BK724 hb; have n11_ := bb BK729 hb; have n12_ := bb BK734 hb; have n13_ := bb BK754 hb; have n14_ := bb BK755 hb; have n15_ := bb BK773 hb; have n16_ := Aside0.mk (below_step (by repeat (first | (with_reducible first | exact HB.out | apply qa | apply qn | apply qd | refine qs ?_ GE710.out | refine qs ?_ GE711.out | refine qs ?_ GE723.out | refine qs ?_ GE724.out | refine qs ?_ GE729.out | refine qs ?_ GE734.out | refine qs ?_ GE754.out | refine qs ?_ GE755.out | refine qs ?_ GE773.out) | exact HB.out)) hb); clear HO_730001; clear HO_735001; clear HO_755001; clear HO_756001; clear HO764; clear HO768; clear HO772; clear BK710; clear BK711; clear BK723; clear BK724; clear BK729; clear BK734; clear BK754; clear BK755; clear BK773; clear HB; have HO_730001 := n0_; have HO_735001 := n1_; have HO_755001 := n2_; have HO_756001 := n3_; have HO764 := n4_; have HO768 := n5_; have HO772 := n6_; have BK710 := n7_; have BK711 := n8_; have BK723 := n9_; have BK724 := n10_; have BK729 := n11_; have BK734 := n12_; have BK754 := n13_; have BK755 := n14_; have BK773 := n15_; have HB := n16_; clear n0_ n1_ n2_ n3_ n4_ n5_ n6_ n7_ n8_ n9_ n10_ n11_ n12_ n13_ n14_ n15_ n16_; (try clear hb); (try clear hb2); (try clear hk); (try clear hi)) | (go_at_call 20; (with_reducible refine (parquetlaw01_known.calls  t777 _ A252.out).mono ?_); rintro e w299 ⟨rfl, hb⟩; have n0_ := Aside0.mk (Kd.V_below (by (with_reducible repeat (first | apply Kd.V_alloc | apply Kd.V_drewN | apply Kd.V_drew)); exact HO_730001.out) hb); have n1_ := Aside0.mk (Kd.V_below (by (with_reducible repeat (first | apply Kd.V_alloc | apply Kd.V_drewN | apply Kd.V_drew)); exact HO_735001.out) hb); have n2_ := Aside0.mk (Kd.V_below (by (with_reducible repeat (first | apply Kd.V_alloc | apply Kd.V_drewN | apply Kd.V_drew)); exact HO_755001.out) hb); have n3_ := Aside0.mk (Kd.V_below (by (with_reducible repeat (first | apply Kd.V_alloc | apply Kd.V_drewN | apply Kd.V_drew)); exact HO_756001.out) hb); have n4_ := Aside0.mk (Kd.V_below (by (with_reducible repeat (first | apply Kd.V_alloc | apply Kd.V_drewN | apply Kd.V_drew)); exact HO764.out) hb); have n5_ := Aside0.mk (Kd.V_below (by (with_reducible repeat (first | apply Kd.V_alloc | apply Kd.V_drewN | apply Kd.V_drew)); exact HO768.out) hb); have n6_ := Aside0.mk (Kd.V_below (by (with_reducible repeat (first | apply Kd.V_alloc | apply Kd.V_drewN | apply Kd.V_drew)); exact HO772.out) hb); have n7_ := bb BK710 hb; have n8_ := bb BK711 hb; have n9_ := bb BK723 hb; have n10_ := bb BK724 hb; have n11_ := bb BK729 hb; have n12_ := bb BK734 hb; have n13_ := bb BK754 hb; have n14_ := bb BK755 hb; have n15_ := bb BK773 hb; have n16_ := Aside0.mk (below_step (by repeat (first | (with_reducible first | exact HB.out | apply qa | apply qn | apply qd | refine qs ?_ GE710.out | refine qs ?_ GE711.out | refine qs ?_ GE723.out | refine qs ?_ GE724.out | refine qs ?_ GE729.out | refine qs ?_ GE734.out | refine qs ?_ GE754.out | refine qs ?_ GE755.out | refine qs ?_ GE773.out) | exact HB.out)) hb); clear HO_730001; clear HO_735001; clear HO_755001; clear HO_756001; clear HO764; clear HO768; clear HO772; clear BK710; clear BK711; clear BK723; clear BK724; clear BK729; clear BK734; clear BK754; clear BK755; clear BK773; clear HB; have HO_730001 := n0_; have HO_735001 := n1_; have HO_755001 := n2_; have HO_756001 := n3_; have HO764 := n4_; have HO768 := n5_; have HO772 := n6_; have BK710 := n7_; have BK711 := n8_; have BK723 := n9_; have BK724 := n10_; have BK729 := n11_; have BK734 := n12_; have BK754 := n13_; have BK755 := n14_; have BK773 := n15_; have HB := n16_; clear n0_ n1_ n2_ n3_ n4_ n5_ n6_ n7_ n8_ n9_ n10_ n11_ n12_ n13_ n14_ n15_ n16_; (try clear hb); (try clear hb2); (try clear hk); (try clear hi)))
   go_ret
   exact ⟨by first | rfl | (simp [errW_none, errW_some] <;> rfl) | (simp [*, errW_none, errW_some] <;> rfl), by repeat (first | (with_reducible first | exact HB.out | apply qa | apply qn | apply qd | refine qs ?_ GE710.out | refine qs ?_ GE711.out | refine qs ?_ GE723.out | refine qs ?_ GE724.out | refine qs ?_ GE729.out | refine qs ?_ GE734.out | refine qs ?_ GE754.out | refine qs ?_ GE755.out | refine qs ?_ GE773.out) | exact HB.out)⟩
end Go.Proofs.Ytmpbbodafenonaa.MT

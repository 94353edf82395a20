/- A function of the given program told as a Lean function, its contract proved; no condition. -/
import Derived.Test.YtmpbbodafenonaaMT0
import Derived.Test.YtmpbbodafenonaaMT3
import Derived.Test.YtmpbbodafenonaaMT8
import Derived.Test.YtmpbbodafenonaaMT9
import Derived.Test.YtmpbbodafenonaaMT11
import Derived.Test.YtmpbbodafenonaaMT12
import Derived.Test.YtmpbbodafenonaaMT13
import Derived.Test.YtmpbbodafenonaaMT14
import Derived.Test.YtmpbbodafenonaaMT17
import Derived.Test.YtmpbbodafenonaaMT18
import Derived.Test.YtmpbbodafenonaaMT19
import Derived.Test.YtmpbbodafenonaaMT20
import Derived.Test.YtmpbbodafenonaaMT22
namespace Go.Proofs.Ytmpbbodafenonaa.MT
open Go.RowKit Go.Proofs.YtmpbbodafenonaaW.PrintWords Go.Proofs.YtmpbbodafenonaaW.PrintLast Go.Proofs.YtmpbbodafenonaaW.PrintMore
attribute [local go_sem] max2_int min2_int max_two min_two max_three min_three max_four min_four   -- for this text's walks alone
set_option linter.unusedVariables false
set_option linter.unusedSimpArgs false
attribute [local go_sem high] eqA27
/-! ### parquetlaw01_WideOnes: function 10 -/
mutual
def parquetlaw01_WideOnes.j0 : Nat → Int → Bool → Int → Int → Int → Int → Bool → Bool → Int → Int → Int → Int → Bool → List Int → Bool → Int → Int → Int → Int → Bool → Int → Int → Int → Int → Bool → Int → Int → Int → Int → Option (Bool)
 | 0, _, _, _, _, _, _, _, _, _, _, _, _, _, _, _, _, _, _, _, _, _, _, _, _, _, _, _, _, _ => none
 | k + 1, x1, x11, x12, x13, x14, x15, x16, x361000, x361001, x361002, x361003, x361004, x366000, x366001, x377000, x377001, x377002, x377003, x377004, x384000, x384001, x384002, x384003, x384004, x395000, x395001, x395002, x395003, x395004 => if x13 = 0 then (if x16 = true then ((parquetref01_Small.f k x12).bind fun bt409 => ((parquetref01_Num_Cmp.f k bt409.1 bt409.2 x366000 x366001).bind fun t413 => (if t413 = 0 then (parquetlaw01_WideOnes.j1 k x1 x11 x13 x14 x15 false x361000 x361001 x361002 x361003 x361004 x366000 x366001 x377000 x377001 x377002 x377003 x377004 x384000 x384001 x384002 x384003 x384004 x395000 x395001 x395002 x395003 x395004) else (parquetlaw01_WideOnes.j1 k x1 x11 x13 x14 x15 true x361000 x361001 x361002 x361003 x361004 x366000 x366001 x377000 x377001 x377002 x377003 x377004 x384000 x384001 x384002 x384003 x384004 x395000 x395001 x395002 x395003 x395004)))) else (parquetlaw01_WideOnes.j1 k x1 x11 x13 x14 x15 true x361000 x361001 x361002 x361003 x361004 x366000 x366001 x377000 x377001 x377002 x377003 x377004 x384000 x384001 x384002 x384003 x384004 x395000 x395001 x395002 x395003 x395004)) else (if x13 = 10 then (parquetlaw01_WideOnes.j1 k x1 x11 x13 x14 x15 (x12 != 0) x361000 x361001 x361002 x361003 x361004 x366000 x366001 x377000 x377001 x377002 x377003 x377004 x384000 x384001 x384002 x384003 x384004 x395000 x395001 x395002 x395003 x395004) else (parquetlaw01_WideOnes.j1 k x1 x11 x13 x14 x15 true x361000 x361001 x361002 x361003 x361004 x366000 x366001 x377000 x377001 x377002 x377003 x377004 x384000 x384001 x384002 x384003 x384004 x395000 x395001 x395002 x395003 x395004))
def parquetlaw01_WideOnes.j1 : Nat → Int → Bool → Int → Int → Int → Bool → Bool → Int → Int → Int → Int → Bool → List Int → Bool → Int → Int → Int → Int → Bool → Int → Int → Int → Int → Bool → Int → Int → Int → Int → Option (Bool)
 | 0, _, _, _, _, _, _, _, _, _, _, _, _, _, _, _, _, _, _, _, _, _, _, _, _, _, _, _, _ => none
 | k + 1, x1, x11, x13, x14, x15, x81, x361000, x361001, x361002, x361003, x361004, x366000, x366001, x377000, x377001, x377002, x377003, x377004, x384000, x384001, x384002, x384003, x384004, x395000, x395001, x395002, x395003, x395004 => if x81 = true then (some false) else ((parquetref01_Small.f k 9223372036854775807).bind fun bt414 => ((parquetref01_Num_Cmp.f k x366000 x366001 bt414.1 bt414.2).bind fun t418 => (if t418 ≤ 0 then ((parquetref01_Small.f k (-9223372036854775808)).bind fun bt419 => ((parquetref01_Num_Cmp.f k x366000 x366001 bt419.1 bt419.2).bind fun t423 => (parquetlaw01_WideOnes.j2 k x1 x11 x13 x14 x15 (decide (t423 ≥ 0)) x361000 x361001 x361002 x361003 x361004 x366000 x366001 x377000 x377001 x377002 x377003 x377004 x384000 x384001 x384002 x384003 x384004 x395000 x395001 x395002 x395003 x395004))) else (parquetlaw01_WideOnes.j2 k x1 x11 x13 x14 x15 false x361000 x361001 x361002 x361003 x361004 x366000 x366001 x377000 x377001 x377002 x377003 x377004 x384000 x384001 x384002 x384003 x384004 x395000 x395001 x395002 x395003 x395004))))
def parquetlaw01_WideOnes.j2 : Nat → Int → Bool → Int → Int → Int → Bool → Bool → Int → Int → Int → Int → Bool → List Int → Bool → Int → Int → Int → Int → Bool → Int → Int → Int → Int → Bool → Int → Int → Int → Int → Option (Bool)
 | 0, _, _, _, _, _, _, _, _, _, _, _, _, _, _, _, _, _, _, _, _, _, _, _, _, _, _, _, _ => none
 | k + 1, x1, x11, x13, x14, x15, x17, x361000, x361001, x361002, x361003, x361004, x366000, x366001, x377000, x377001, x377002, x377003, x377004, x384000, x384001, x384002, x384003, x384004, x395000, x395001, x395002, x395003, x395004 => (wide_Neg.f x361000 x361001 x361002 x361003 x361004).bind fun bt424 => ((wide_Neg.f bt424.1 bt424.2.1 bt424.2.2.1 bt424.2.2.2.1 bt424.2.2.2.2).bind fun bt429 => ((wide_Neg.f x361000 x361001 x361002 x361003 x361004).bind fun bt435 => (if (bt435.1 == x377000 && ((bt435.2.1 == x377001 && (bt435.2.2.1 == x377002 && (bt435.2.2.2.1 == x377003 && (bt435.2.2.2.2 == x377004)))))) = true then (if (bt429.1 == x384000 && ((bt429.2.1 == x384001 && (bt429.2.2.1 == x384002 && (bt429.2.2.2.1 == x384003 && (bt429.2.2.2.2 == x384004)))))) = true then ((wide_Sign.f x361000 x361001 x361002 x361003 x361004).bind fun t440 => ((parquetref01_Num_Sign.f x366000 x366001).bind fun t441 => (if t440 = t441 then ((wide_Text.f k x361000 x361001 x361002 x361003 x361004).bind fun t442 => ((parquetref01_Num_Text.f k x366000 x366001).bind fun t443 => (if t442.toList = t443.toList then (if x11 = true then ((wide_Of.f x1).bind fun bt444 => (if (bt444.1 == x395000 && ((bt444.2.1 == x395001 && (bt444.2.2.1 == x395002 && (bt444.2.2.2.1 == x395003 && (bt444.2.2.2.2 == x395004)))))) = true then (if x14 = x1 then (if x15 = 0 then (if ((x13 == 0) == x17) = true then ((parquetlaw01_known.f).bind fun t449 => (some t449)) else (some false)) else (some false)) else (some false)) else (some false))) else (some false)) else (some false)))) else (some false)))) else (some false)) else (some false))))
end
def parquetlaw01_WideOnes.f (k : Nat) (a0_0 : Bool) (a0_1 : Int) (a0_2 : Int) (a0_3 : Int) (a0_4 : Int) (a1 : Int) : Option (Bool) := (parquetref01_Of.f k a0_0 a0_1 a0_2 a0_3 a0_4).bind fun bt361 => ((parquetref01_Num_Neg.f bt361.1 bt361.2).bind fun bt366 => ((parquetref01_Num_Wide.f bt366.1 bt366.2).bind fun bt370 => ((parquetref01_Num_Wide.f bt361.1 bt361.2).bind fun bt377 => ((parquetref01_Small.f k a1).bind fun bt384 => ((parquetref01_Num_Wide.f bt384.1 bt384.2).bind fun bt388 => ((wide_Int.f k a0_0 a0_1 a0_2 a0_3 a0_4).bind fun bt395 => ((wide_Of.f a1).bind fun bt397 => ((wide_Int.f k bt397.1 bt397.2.1 bt397.2.2.1 bt397.2.2.2.1 bt397.2.2.2.2).bind fun bt402 => (if bt395.1 = 0 then ((parquetref01_Of.f k a0_0 a0_1 a0_2 a0_3 a0_4).bind fun bt404 => ((parquetref01_Num_Sign.f bt404.1 bt404.2).bind fun t408 => (parquetlaw01_WideOnes.j0 k a1 bt388.2.2.2.2.2 bt395.1 bt395.2 bt402.1 bt402.2 (t408 == 0) a0_0 a0_1 a0_2 a0_3 a0_4 bt361.1 bt361.2 bt370.1 bt370.2.1 bt370.2.2.1 bt370.2.2.2.1 bt370.2.2.2.2.1 bt377.1 bt377.2.1 bt377.2.2.1 bt377.2.2.2.1 bt377.2.2.2.2.1 bt388.1 bt388.2.1 bt388.2.2.1 bt388.2.2.2.1 bt388.2.2.2.2.1))) else (parquetlaw01_WideOnes.j0 k a1 bt388.2.2.2.2.2 bt395.1 bt395.2 bt402.1 bt402.2 true a0_0 a0_1 a0_2 a0_3 a0_4 bt361.1 bt361.2 bt370.1 bt370.2.1 bt370.2.2.1 bt370.2.2.2.1 bt370.2.2.2.2.1 bt377.1 bt377.2.1 bt377.2.2.1 bt377.2.2.2.1 bt377.2.2.2.2.1 bt388.1 bt388.2.1 bt388.2.2.1 bt388.2.2.2.1 bt388.2.2.2.2.1))))))))))
theorem parquetlaw01_WideOnes.mono_l : ∀ k, (∀ y0 y1 y2 y3 y4 y5 y6 y7 y8 y9 y10 y11 y12 y13 y14 y15 y16 y17 y18 y19 y20 y21 y22 y23 y24 y25 y26 y27 y28, LeO (parquetlaw01_WideOnes.j0 k y0 y1 y2 y3 y4 y5 y6 y7 y8 y9 y10 y11 y12 y13 y14 y15 y16 y17 y18 y19 y20 y21 y22 y23 y24 y25 y26 y27 y28) (parquetlaw01_WideOnes.j0 (k + 1) y0 y1 y2 y3 y4 y5 y6 y7 y8 y9 y10 y11 y12 y13 y14 y15 y16 y17 y18 y19 y20 y21 y22 y23 y24 y25 y26 y27 y28)) ∧ (∀ y0 y1 y2 y3 y4 y5 y6 y7 y8 y9 y10 y11 y12 y13 y14 y15 y16 y17 y18 y19 y20 y21 y22 y23 y24 y25 y26 y27, LeO (parquetlaw01_WideOnes.j1 k y0 y1 y2 y3 y4 y5 y6 y7 y8 y9 y10 y11 y12 y13 y14 y15 y16 y17 y18 y19 y20 y21 y22 y23 y24 y25 y26 y27) (parquetlaw01_WideOnes.j1 (k + 1) y0 y1 y2 y3 y4 y5 y6 y7 y8 y9 y10 y11 y12 y13 y14 y15 y16 y17 y18 y19 y20 y21 y22 y23 y24 y25 y26 y27)) ∧ (∀ y0 y1 y2 y3 y4 y5 y6 y7 y8 y9 y10 y11 y12 y13 y14 y15 y16 y17 y18 y19 y20 y21 y22 y23 y24 y25 y26 y27, LeO (parquetlaw01_WideOnes.j2 k y0 y1 y2 y3 y4 y5 y6 y7 y8 y9 y10 y11 y12 y13 y14 y15 y16 y17 y18 y19 y20 y21 y22 y23 y24 y25 y26 y27) (parquetlaw01_WideOnes.j2 (k + 1) y0 y1 y2 y3 y4 y5 y6 y7 y8 y9 y10 y11 y12 y13 y14 y15 y16 y17 y18 y19 y20 y21 y22 y23 y24 y25 y26 y27))
 | 0 => ⟨fun _ _ _ _ _ _ _ _ _ _ _ _ _ _ _ _ _ _ _ _ _ _ _ _ _ _ _ _ _ r h => by simp [parquetlaw01_WideOnes.j0] at h, fun _ _ _ _ _ _ _ _ _ _ _ _ _ _ _ _ _ _ _ _ _ _ _ _ _ _ _ _ r h => by simp [parquetlaw01_WideOnes.j1] at h, fun _ _ _ _ _ _ _ _ _ _ _ _ _ _ _ _ _ _ _ _ _ _ _ _ _ _ _ _ r h => by simp [parquetlaw01_WideOnes.j2] at h⟩
 | k + 1 => by
  obtain ⟨ih0, ih1, ih2⟩ := parquetlaw01_WideOnes.mono_l k
  refine ⟨?_, ?_, ?_⟩
  ·intro y0 y1 y2 y3 y4 y5 y6 y7 y8 y9 y10 y11 y12 y13 y14 y15 y16 y17 y18 y19 y20 y21 y22 y23 y24 y25 y26 y27 y28
   unfold parquetlaw01_WideOnes.j0
   repeat' first
   | (with_reducible exact ih0 _ _ _ _ _ _ _ _ _ _ _ _ _ _ _ _ _ _ _ _ _ _ _ _ _ _ _ _ _)
   | (with_reducible exact ih1 _ _ _ _ _ _ _ _ _ _ _ _ _ _ _ _ _ _ _ _ _ _ _ _ _ _ _ _)
   | (with_reducible exact ih2 _ _ _ _ _ _ _ _ _ _ _ _ _ _ _ _ _ _ _ _ _ _ _ _ _ _ _ _)
   | (with_reducible exact parquetref01_Num_Cmp.mono _ _ _ _ _)
   | (with_reducible exact parquetref01_Num_Text.mono _ _ _)
   | (with_reducible exact parquetref01_Of.mono _ _ _ _ _ _)
   | (with_reducible exact parquetref01_Small.mono _ _)
   | (with_reducible exact wide_Int.mono _ _ _ _ _ _)
   | (with_reducible exact wide_Text.mono _ _ _ _ _ _)
   | (with_reducible exact LeO.refl _)
   | (with_reducible exact LeO.none _)
   | (with_reducible refine LeO.ite ?_ ?_)
   | (with_reducible refine LeO.bind ?_ (fun _ => ?_))
   | exact ih0 _ _ _ _ _ _ _ _ _ _ _ _ _ _ _ _ _ _ _ _ _ _ _ _ _ _ _ _ _
   | exact ih1 _ _ _ _ _ _ _ _ _ _ _ _ _ _ _ _ _ _ _ _ _ _ _ _ _ _ _ _
   | exact ih2 _ _ _ _ _ _ _ _ _ _ _ _ _ _ _ _ _ _ _ _ _ _ _ _ _ _ _ _
   | exact parquetref01_Num_Cmp.mono _ _ _ _ _
   | exact parquetref01_Num_Text.mono _ _ _
   | exact parquetref01_Of.mono _ _ _ _ _ _
   | exact parquetref01_Small.mono _ _
   | exact wide_Int.mono _ _ _ _ _ _
   | exact wide_Text.mono _ _ _ _ _ _
   | exact LeO.none _
   | refine LeO.ite ?_ ?_
   | refine LeO.bind ?_ (fun _ => ?_)
  ·intro y0 y1 y2 y3 y4 y5 y6 y7 y8 y9 y10 y11 y12 y13 y14 y15 y16 y17 y18 y19 y20 y21 y22 y23 y24 y25 y26 y27
   unfold parquetlaw01_WideOnes.j1
   repeat' first
   | (with_reducible exact ih0 _ _ _ _ _ _ _ _ _ _ _ _ _ _ _ _ _ _ _ _ _ _ _ _ _ _ _ _ _)
   | (with_reducible exact ih1 _ _ _ _ _ _ _ _ _ _ _ _ _ _ _ _ _ _ _ _ _ _ _ _ _ _ _ _)
   | (with_reducible exact ih2 _ _ _ _ _ _ _ _ _ _ _ _ _ _ _ _ _ _ _ _ _ _ _ _ _ _ _ _)
   | (with_reducible exact parquetref01_Num_Cmp.mono _ _ _ _ _)
   | (with_reducible exact parquetref01_Num_Text.mono _ _ _)
   | (with_reducible exact parquetref01_Of.mono _ _ _ _ _ _)
   | (with_reducible exact parquetref01_Small.mono _ _)
   | (with_reducible exact wide_Int.mono _ _ _ _ _ _)
   | (with_reducible exact wide_Text.mono _ _ _ _ _ _)
   | (with_reducible exact LeO.refl _)
   | (with_reducible exact LeO.none _)
   | (with_reducible refine LeO.ite ?_ ?_)
   | (with_reducible refine LeO.bind ?_ (fun _ => ?_))
   | exact ih0 _ _ _ _ _ _ _ _ _ _ _ _ _ _ _ _ _ _ _ _ _ _ _ _ _ _ _ _ _
   | exact ih1 _ _ _ _ _ _ _ _ _ _ _ _ _ _ _ _ _ _ _ _ _ _ _ _ _ _ _ _
   | exact ih2 _ _ _ _ _ _ _ _ _ _ _ _ _ _ _ _ _ _ _ _ _ _ _ _ _ _ _ _
   | exact parquetref01_Num_Cmp.mono _ _ _ _ _
   | exact parquetref01_Num_Text.mono _ _ _
   | exact parquetref01_Of.mono _ _ _ _ _ _
   | exact parquetref01_Small.mono _ _
   | exact wide_Int.mono _ _ _ _ _ _
   | exact wide_Text.mono _ _ _ _ _ _
   | exact LeO.none _
   | refine LeO.ite ?_ ?_
   | refine LeO.bind ?_ (fun _ => ?_)
  ·intro y0 y1 y2 y3 y4 y5 y6 y7 y8 y9 y10 y11 y12 y13 y14 y15 y16 y17 y18 y19 y20 y21 y22 y23 y24 y25 y26 y27
   unfold parquetlaw01_WideOnes.j2
   repeat' first
   | (with_reducible exact ih0 _ _ _ _ _ _ _ _ _ _ _ _ _ _ _ _ _ _ _ _ _ _ _ _ _ _ _ _ _)
   | (with_reducible exact ih1 _ _ _ _ _ _ _ _ _ _ _ _ _ _ _ _ _ _ _ _ _ _ _ _ _ _ _ _)
   | (with_reducible exact ih2 _ _ _ _ _ _ _ _ _ _ _ _ _ _ _ _ _ _ _ _ _ _ _ _ _ _ _ _)
   | (with_reducible exact parquetref01_Num_Cmp.mono _ _ _ _ _)
   | (with_reducible exact parquetref01_Num_Text.mono _ _ _)
   | (with_reducible exact parquetref01_Of.mono _ _ _ _ _ _)
   | (with_reducible exact parquetref01_Small.mono _ _)
   | (with_reducible exact wide_Int.mono _ _ _ _ _ _)
   | (with_reducible exact wide_Text.mono _ _ _ _ _ _)
   | (with_reducible exact LeO.refl _)
   | (with_reducible exact LeO.none _)
   | (with_reducible refine LeO.ite ?_ ?_)
   | (with_reducible refine LeO.bind ?_ (fun _ => ?_))
   | exact ih0 _ _ _ _ _ _ _ _ _ _ _ _ _ _ _ _ _ _ _ _ _ _ _ _ _ _ _ _ _
   | exact ih1 _ _ _ _ _ _ _ _ _ _ _ _ _ _ _ _ _ _ _ _ _ _ _ _ _ _ _ _
   | exact ih2 _ _ _ _ _ _ _ _ _ _ _ _ _ _ _ _ _ _ _ _ _ _ _ _ _ _ _ _
   | exact parquetref01_Num_Cmp.mono _ _ _ _ _
   | exact parquetref01_Num_Text.mono _ _ _
   | exact parquetref01_Of.mono _ _ _ _ _ _
   | exact parquetref01_Small.mono _ _
   | exact wide_Int.mono _ _ _ _ _ _
   | exact wide_Text.mono _ _ _ _ _ _
   | exact LeO.none _
   | refine LeO.ite ?_ ?_
   | refine LeO.bind ?_ (fun _ => ?_)
theorem parquetlaw01_WideOnes.mono : ∀ a0 a1 a2 a3 a4 a5 k, LeO (parquetlaw01_WideOnes.f k a0 a1 a2 a3 a4 a5) (parquetlaw01_WideOnes.f (k + 1) a0 a1 a2 a3 a4 a5) := by
 intro a0 a1 a2 a3 a4 a5 k
 obtain ⟨ih0, ih1, ih2⟩ := parquetlaw01_WideOnes.mono_l k
 unfold parquetlaw01_WideOnes.f
 repeat' first
   | (with_reducible exact ih0 _ _ _ _ _ _ _ _ _ _ _ _ _ _ _ _ _ _ _ _ _ _ _ _ _ _ _ _ _)
   | (with_reducible exact ih1 _ _ _ _ _ _ _ _ _ _ _ _ _ _ _ _ _ _ _ _ _ _ _ _ _ _ _ _)
   | (with_reducible exact ih2 _ _ _ _ _ _ _ _ _ _ _ _ _ _ _ _ _ _ _ _ _ _ _ _ _ _ _ _)
   | (with_reducible exact parquetref01_Num_Cmp.mono _ _ _ _ _)
   | (with_reducible exact parquetref01_Num_Text.mono _ _ _)
   | (with_reducible exact parquetref01_Of.mono _ _ _ _ _ _)
   | (with_reducible exact parquetref01_Small.mono _ _)
   | (with_reducible exact wide_Int.mono _ _ _ _ _ _)
   | (with_reducible exact wide_Text.mono _ _ _ _ _ _)
   | (with_reducible exact LeO.refl _)
   | (with_reducible exact LeO.none _)
   | (with_reducible refine LeO.ite ?_ ?_)
   | (with_reducible refine LeO.bind ?_ (fun _ => ?_))
   | exact ih0 _ _ _ _ _ _ _ _ _ _ _ _ _ _ _ _ _ _ _ _ _ _ _ _ _ _ _ _ _
   | exact ih1 _ _ _ _ _ _ _ _ _ _ _ _ _ _ _ _ _ _ _ _ _ _ _ _ _ _ _ _
   | exact ih2 _ _ _ _ _ _ _ _ _ _ _ _ _ _ _ _ _ _ _ _ _ _ _ _ _ _ _ _
   | exact parquetref01_Num_Cmp.mono _ _ _ _ _
   | exact parquetref01_Num_Text.mono _ _ _
   | exact parquetref01_Of.mono _ _ _ _ _ _
   | exact parquetref01_Small.mono _ _
   | exact wide_Int.mono _ _ _ _ _ _
   | exact wide_Text.mono _ _ _ _ _ _
   | exact LeO.none _
   | refine LeO.ite ?_ ?_
   | refine LeO.bind ?_ (fun _ => ?_)
def parquetlaw01_WideOnes.T8 : Bool × List (List Nat × List Nat) := (true, [([], []), ([0], [0]), ([1], [1]), ([2], [2]), ([3, 2], [2, 3]), ([4, 2, 2], [2, 4]), ([5], [5]), ([6, 5, 5], [5, 6]), ([5], [5]), ([7, 8, 7, 5], [5, 7, 8]), ([9, 5], [5, 9]), ([5, 10, 2], [2, 5, 10]), ([2, 11], [2, 11]), ([12, 9], [12]), ([13], [13]), ([14, 13], [13, 14]), ([15, 13, 13], [13, 15]), ([16], [16]), ([17, 16], [16, 17]), ([18, 16, 16], [16, 18]), ([19], [19]), ([20, 19], [19, 20]), ([19, 21, 16], [16, 19, 21]), ([16, 22, 13], [13, 16, 22]), ([13, 23], [13, 23])])
def parquetlaw01_WideOnes.B8 : List Nat := [0, 1, 3, 7, 15, 31, 63, 127, 63, 511, 1023, 2047, 4095, 8191, 16383, 32767, 65535, 131071, 262143, 524287, 1048575, 2097151, 4194303, 8388607, 16777215]
theorem parquetlaw01_WideOnes.tab8 : rtab .any (opsOf Try.f10 8) = parquetlaw01_WideOnes.T8 := by kernel_rfl
theorem parquetlaw01_WideOnes.bits8 : waitsOk parquetlaw01_WideOnes.T8.2 parquetlaw01_WideOnes.B8 = true := by kernel_rfl
def parquetlaw01_WideOnes.T10 : Bool × List (List Nat × List Nat) := (true, [([], []), ([], []), ([0, 1, 1], [0, 1]), ([2], [2]), ([3, 2], [3]), ([4], [4]), ([4, 4], [4]), ([5, 6, 6, 4], [4, 5, 6]), ([7, 4], [4, 7]), ([4, 8], [4, 8]), ([9, 7, 0, 1, 2, 3, 4, 5, 6, 7, 8, 9], [9])])
def parquetlaw01_WideOnes.B10 : List Nat := [0, 0, 3, 7, 15, 31, 31, 127, 255, 511, 1023]
theorem parquetlaw01_WideOnes.tab10 : rtab .any (opsOf Try.f10 10) = parquetlaw01_WideOnes.T10 := by kernel_rfl
theorem parquetlaw01_WideOnes.bits10 : waitsOk parquetlaw01_WideOnes.T10.2 parquetlaw01_WideOnes.B10 = true := by kernel_rfl
def parquetlaw01_WideOnes.T12 : Bool × List (List Nat × List Nat) := (true, [([], []), ([0], [0]), ([], []), ([1, 2], [1, 2]), ([3, 1], [3]), ([4], [4]), ([4], [4]), ([5, 6, 4], [4, 5, 6]), ([4, 7], [4, 7]), ([8, 4], [8]), ([9], [9]), ([10, 9, 9], [9, 10]), ([9], [9]), ([12, 11, 9], [9, 12]), ([11, 13, 9], [9, 11, 13]), ([9, 14], [9, 14]), ([15, 13], [15]), ([16], [16]), ([17, 16, 16], [16, 17]), ([16], [16]), ([19, 18, 16], [16, 19]), ([18, 20, 16], [16, 18, 20]), ([16, 21], [16, 21]), ([22, 20], [22]), ([23], [23]), ([23, 24], [23, 24]), ([25, 23], [25]), ([26], [26]), ([27, 26, 26], [26, 27]), ([26], [26]), ([28, 29, 26], [26, 28, 29]), ([26, 30], [26, 30]), ([31, 28], [31]), ([32], [32]), ([32], [32]), ([33, 34, 32], [32, 33, 34]), ([32, 35], [32, 35]), ([36, 32], [36]), ([37], [37]), ([38, 37], [37, 38]), ([37, 39], [37, 39]), ([40, 37], [40]), ([41], [41]), ([42, 41], [41, 42]), ([41], [41]), ([43, 44, 41], [41, 43, 44]), ([41, 45], [41, 45]), ([46, 41], [46]), ([47, 47], [47]), ([47, 48], [47, 48]), ([49, 48, 0, 1, 2, 3, 4, 5, 6, 7, 8, 9, 10, 11, 12, 13, 14, 15, 16, 17, 18, 19, 20, 21, 22, 23, 24, 25, 26, 27, 28, 29, 30, 31, 32, 33, 34, 35, 36, 37, 38, 39, 40, 41, 42, 43, 44, 45, 46, 47, 48, 49], [49])])
def parquetlaw01_WideOnes.B12 : List Nat := [0, 1, 0, 7, 15, 31, 31, 127, 255, 511, 1023, 2047, 1023, 8191, 16383, 32767, 65535, 131071, 262143, 131071, 1048575, 2097151, 4194303, 8388607, 16777215, 33554431, 67108863, 134217727, 268435455, 134217727, 1073741823, 2147483647, 4294967295, 8589934591, 8589934591, 34359738367, 68719476735, 137438953471, 274877906943, 549755813887, 1099511627775, 2199023255551, 4398046511103, 8796093022207, 4398046511103, 35184372088831, 70368744177663, 140737488355327, 281474976710655, 562949953421311, 1125899906842623]
theorem parquetlaw01_WideOnes.tab12 : rtab .any (opsOf Try.f10 12) = parquetlaw01_WideOnes.T12 := by kernel_rfl
theorem parquetlaw01_WideOnes.bits12 : waitsOk parquetlaw01_WideOnes.T12.2 parquetlaw01_WideOnes.B12 = true := by kernel_rfl
set_option maxHeartbeats 8000000 in
set_option maxRecDepth 100000 in
theorem parquetlaw01_WideOnes.calls (k : Nat) (a0_0 : Bool) (a0_1 : Int) (a0_2 : Int) (a0_3 : Int) (a0_4 : Int) (a1 : Int) (r : Bool) (w : World) (h : parquetlaw01_WideOnes.f k a0_0 a0_1 a0_2 a0_3 a0_4 a1 = some r) (hr_ : r = true) :
  Calls Try.prog 10 #[.agg #[.bool a0_0, .int .u64 a0_1, .int .u64 a0_2, .int .u64 a0_3, .int .u64 a0_4], .int .i64 a1] w fun e w' => e = .returned (.bool r) ∧ Below w.heap.size w w' := by
 have hu27 := Try.underlying27
 have hu38 := Try.underlying38
 have HB := Aside0.mk (Below.refl w.heap.size w)
 have H : ((parquetref01_Of.f k a0_0 a0_1 a0_2 a0_3 a0_4).bind fun bt361 => ((parquetref01_Num_Neg.f bt361.1 bt361.2).bind fun bt366 => ((parquetref01_Num_Wide.f bt366.1 bt366.2).bind fun bt370 => ((parquetref01_Num_Wide.f bt361.1 bt361.2).bind fun bt377 => ((parquetref01_Small.f k a1).bind fun bt384 => ((parquetref01_Num_Wide.f bt384.1 bt384.2).bind fun bt388 => ((wide_Int.f k a0_0 a0_1 a0_2 a0_3 a0_4).bind fun bt395 => ((wide_Of.f a1).bind fun bt397 => ((wide_Int.f k bt397.1 bt397.2.1 bt397.2.2.1 bt397.2.2.2.1 bt397.2.2.2.2).bind fun bt402 => (if bt395.1 = 0 then ((parquetref01_Of.f k a0_0 a0_1 a0_2 a0_3 a0_4).bind fun bt404 => ((parquetref01_Num_Sign.f bt404.1 bt404.2).bind fun t408 => (parquetlaw01_WideOnes.j0 k a1 bt388.2.2.2.2.2 bt395.1 bt395.2 bt402.1 bt402.2 (t408 == 0) a0_0 a0_1 a0_2 a0_3 a0_4 bt361.1 bt361.2 bt370.1 bt370.2.1 bt370.2.2.1 bt370.2.2.2.1 bt370.2.2.2.2.1 bt377.1 bt377.2.1 bt377.2.2.1 bt377.2.2.2.1 bt377.2.2.2.2.1 bt388.1 bt388.2.1 bt388.2.2.1 bt388.2.2.2.1 bt388.2.2.2.2.1))) else (parquetlaw01_WideOnes.j0 k a1 bt388.2.2.2.2.2 bt395.1 bt395.2 bt402.1 bt402.2 true a0_0 a0_1 a0_2 a0_3 a0_4 bt361.1 bt361.2 bt370.1 bt370.2.1 bt370.2.2.1 bt370.2.2.2.1 bt370.2.2.2.2.1 bt377.1 bt377.2.1 bt377.2.2.1 bt377.2.2.2.1 bt377.2.2.2.2.1 bt388.1 bt388.2.1 bt388.2.2.1 bt388.2.2.2.1 bt388.2.2.2.2.1))))))))))) = some r := h
 clear h
 replace H := Option.bind_eq_some_iff.mp H
 obtain ⟨⟨t361, t362⟩, A30, H⟩ := H
 try dsimp only at H
 have A3 := Aside0.mk A30
 clear A30
 replace H := Option.bind_eq_some_iff.mp H
 obtain ⟨⟨t366, t367⟩, A40, H⟩ := H
 try dsimp only at H
 have A4 := Aside0.mk A40
 clear A40
 replace H := Option.bind_eq_some_iff.mp H
 obtain ⟨⟨t370, t371, t372, t373, t374, t375⟩, A50, H⟩ := H
 try dsimp only at H
 have A5 := Aside0.mk A50
 clear A50
 replace H := Option.bind_eq_some_iff.mp H
 obtain ⟨⟨t377, t378, t379, t380, t381, t382⟩, A60, H⟩ := H
 try dsimp only at H
 have A6 := Aside0.mk A60
 clear A60
 replace H := Option.bind_eq_some_iff.mp H
 obtain ⟨⟨t384, t385⟩, A70, H⟩ := H
 try dsimp only at H
 have A7 := Aside0.mk A70
 clear A70
 replace H := Option.bind_eq_some_iff.mp H
 obtain ⟨⟨t388, t389, t390, t391, t392, t393⟩, A80, H⟩ := H
 try dsimp only at H
 have A8 := Aside0.mk A80
 clear A80
 replace H := Option.bind_eq_some_iff.mp H
 obtain ⟨⟨t395, t396⟩, A90, H⟩ := H
 try dsimp only at H
 have A9 := Aside0.mk A90
 clear A90
 replace H := Option.bind_eq_some_iff.mp H
 obtain ⟨⟨t397, t398, t399, t400, t401⟩, A100, H⟩ := H
 try dsimp only at H
 have A10 := Aside0.mk A100
 clear A100
 replace H := Option.bind_eq_some_iff.mp H
 obtain ⟨⟨t402, t403⟩, A110, H⟩ := H
 try dsimp only at H
 have A11 := Aside0.mk A110
 clear A110
 have HC12 := Aside0.mk H
 clear H
 go_enter Try.func10, Try.ntmps10
 go_upto_region 7 with (first | ((with_reducible refine gate_dst (N := 2) rfl ?_); refine box_event ?hg (N := 2) ?hd (cs := #[.bool a0_0, .int .u64 a0_1, .int .u64 a0_2, .int .u64 a0_3, .int .u64 a0_4]) (t := 27) ?hr ?_; (case hd => rfl); (case hg => rfl); (case hr => first | (go_simp; done) | (go_simp; rfl)); intro gb360 hg w13 hbox hb; have n0_ := Aside0.mk (below_step (by repeat (first | (with_reducible first | exact HB.out | apply qa | apply qn | apply qd) | exact HB.out)) hb); have n1_ := Aside0.mk (hbox); have n2_ := bgw HB hg; have n3_ := bgw HB hg; clear HB; have HB := n0_; have BK360 := n1_; have GW360 := n2_; have GE360 := n3_; clear n0_ n1_ n2_ n3_; clear hb hbox hg; obtain ⟨hcz14_0, hcz14_1, hcz14_2, hcz14_3, hcz14_4⟩ := cl5 BK360.out; obtain ⟨hfz14_0, hfz14_1, hfz14_2, hfz14_3, hfz14_4⟩ := fr5 BK360.out) | ((with_reducible refine gate_callee (f := 24) rfl ?_); refine goesL_ (some 20) rfl rfl Try.func24 (by kernel_rfl) rfl #[.agg #[.bool a0_0, .int .u64 a0_1, .int .u64 a0_2, .int .u64 a0_3, .int .u64 a0_4]] rfl (by (try simp only [List.map_toArray, List.map_cons, List.map_nil]); first | done | rfl | (simp only [List.length_drop, List.length_take]; rfl)) ?_; (with_reducible refine (parquetref01_Of.calls k a0_0 a0_1 a0_2 a0_3 a0_4 t361 t362 _ A3.out).mono ?_); rintro e w15 ⟨v363, rfl, ho0, hb⟩; refine ⟨_, rfl, ?_⟩; have n0_ := Aside0.mk (Kd.V_lower (Kd.V_mono (ok' := fun k_ => k_ ≠ gb360) ho0 (fun k_ hk_ => (Kd.freshB (g := gb360) (o := .cells #[.bool a0_0, .int .u64 a0_1, .int .u64 a0_2, .int .u64 a0_3, .int .u64 a0_4] 27 (0, 0)) (by exact lb BK360.out) k_ hk_))) (below_size (by repeat (first | (with_reducible first | exact HB.out | apply qa | apply qn | apply qd | refine qs ?_ GE360.out) | exact HB.out)))); have n1_ := bb BK360 hb; have n2_ := Aside0.mk (below_step (by repeat (first | (with_reducible first | exact HB.out | apply qa | apply qn | apply qd | refine qs ?_ GE360.out) | exact HB.out)) hb); clear BK360; clear HB; have HO364 := n0_; have BK360 := n1_; have HB := n2_; clear n0_ n1_ n2_; (try clear hb); (try clear hb2); (try clear hk); (try clear hi); (try clear ho0)) | ((with_reducible refine gate_dst (N := 5) rfl ?_); refine box_event ?hg (N := 5) ?hd (cs := #[.bool false, .slice none 0 0]) (t := 38) ?hr ?_; (case hd => rfl); (case hg => rfl); (case hr => first | (go_simp; done) | (go_simp; rfl)); intro gb365 hg w16 hbox hb; have n0_ := Aside0.mk (Kd.V_below (Kd.V_elderB (by (with_reducible repeat (first | apply Kd.V_alloc | apply Kd.V_drewN | apply Kd.V_drew)); exact HO364.out) gb365 (Nat.le_of_eq hg.symm)) hb); have n1_ := bb BK360 hb; have n2_ := Aside0.mk (below_step (by repeat (first | (with_reducible first | exact HB.out | apply qa | apply qn | apply qd | refine qs ?_ GE360.out) | exact HB.out)) hb); have n3_ := Aside0.mk (hbox); have n4_ := bgw HB hg; have n5_ := bgw HB hg; have n6_ := bnl BK360 hg; have n7_ := bng BK360 hg; clear HO364; clear BK360; clear HB; have HO364 := n0_; have BK360 := n1_; have HB := n2_; have BK365 := n3_; have GW365 := n4_; have GE365 := n5_; have NB360_365 := n6_; have NB365_360 := n7_; clear n0_ n1_ n2_ n3_ n4_ n5_ n6_ n7_; clear hb hbox hg; have hnb17 := NB365_360.out; have hnc17 := NB360_365.out; obtain ⟨hcz18_0, hcz18_1⟩ := cl2 BK365.out; obtain ⟨hfz18_0, hfz18_1⟩ := fr2 BK365.out; obtain ⟨Ao19, co19, eo19⟩ := Kd.V_slice HO364.out; subst eo19) | ((with_reducible refine gate_store (t := 38) (p := 5) rfl ?_); refine store_event (t := 38) (p := 5) (v := ?vo_w20) (w1 := ((w16.setCell ⟨gb365, 0, none⟩ (.bool t361)).setCell ⟨gb365, 1, none⟩ (.slice Ao19 t362.length co19))) ?hg ?ho ?hn ?hr ?_; (case ho => rfl); (case hg => rfl); (case hn => rfl); (case hr => first | (go_simp; done) | (go_simp; rfl)); intro w20 hw; have n0_ : Aside0 (Kd.V (Kd.int .i64) 3 w20 w.heap.size (fun k_ => k_ ≠ gb360 ∧ k_ ≠ gb365) (.slice Ao19 t362.length co19) t362) := ⟨(by rw [hw]; exact (by (with_reducible repeat (first | apply Kd.V_alloc | apply Kd.V_drewN | apply Kd.V_drew)); exact Kd.V_mono (Kd.V_far (p := ⟨gb365, 1, none⟩) (Kd.V_far (p := ⟨gb365, 0, none⟩) (Kd.V_mono HO364.out (fun k_ hk => (⟨hk, hk.2⟩ : _ ∧ k_ ≠ gb365))) (fun _ hk => hk.2) (.bool t361)) (fun _ hk => hk.2) (.slice Ao19 t362.length co19)) (fun _ hk => ⟨hk.1.1, hk.1.2⟩)))⟩; have n1_ : Aside0 (w20.heap[gb360]? = some (.cells #[.bool a0_0, .int .u64 a0_1, .int .u64 a0_2, .int .u64 a0_3, .int .u64 a0_4] 27 (0, 0))) := ⟨(by rw [hw]; exact (by repeat (with_reducible first | exact lb BK360.out | refine blk_far ?_ NB360_365.out _ | refine cn ?_ _ | refine cd ?_ | refine ca ?_ _)))⟩; have n2_ : Aside0 (w20.heap[gb365]? = some (.cells #[.bool t361, .slice Ao19 t362.length co19] 38 (0, 0))) := ⟨(by rw [hw]; exact (by (with_reducible repeat (first | refine cn ?_ _ | refine cd ?_ | refine ca ?_ _)); refine blk_put (cs := #[.bool t361, .slice none 0 0]) ?_ 1 _ rfl; (with_reducible repeat (first | refine cn ?_ _ | refine cd ?_ | refine ca ?_ _)); refine blk_put (cs := #[.bool false, .slice none 0 0]) ?_ 0 _ rfl; (with_reducible repeat (first | refine cn ?_ _ | refine cd ?_ | refine ca ?_ _)); exact BK365.out))⟩; have n3_ : Aside0 (Below w.heap.size w w20) := ⟨(by rw [hw]; exact (by repeat (first | (with_reducible first | exact HB.out | apply qa | apply qn | apply qd | refine qs ?_ GE360.out | refine qs ?_ GE365.out) | exact HB.out)))⟩; clear hw; clear HO364; clear BK360; clear BK365; clear HB; have HO364 := n0_; have BK360 := n1_; have BK365 := n2_; have HB := n3_; clear n0_ n1_ n2_ n3_; obtain ⟨hcz21_0, hcz21_1⟩ := cl2 BK365.out; obtain ⟨hfz21_0, hfz21_1⟩ := fr2 BK365.out) | ((with_reducible refine gate_callee (f := 28) rfl ?_); refine goesL_ (some 23) rfl rfl Try.func28 (by kernel_rfl) rfl #[.agg #[.bool t361, .slice Ao19 t362.length co19]] rfl (by (try simp only [List.map_toArray, List.map_cons, List.map_nil]); first | done | rfl | (simp only [List.length_drop, List.length_take]; rfl)) ?_; (with_reducible refine (parquetref01_Num_Neg.calls t361 (fun k_ => (k_ ≠ gb360 ∧ k_ ≠ gb365)) _ _ t362 t366 t367 _ ?side1 A4.out).mono ?_); (case side1 => exact HO364.out); rintro e w22 ⟨v368, rfl, ho0, hb⟩; refine ⟨_, rfl, ?_⟩; have n0_ := Aside0.mk (Kd.V_below (by (with_reducible repeat (first | apply Kd.V_alloc | apply Kd.V_drewN | apply Kd.V_drew)); exact HO364.out) hb); have n1_ := Aside0.mk (Kd.V_lower (Kd.V_mono (ok' := fun k_ => k_ ≠ gb360 ∧ k_ ≠ gb365) ho0 (fun k_ hk_ => ⟨Or.elim hk_ (fun hs_ => hs_.1) (fun hn_ => (Kd.freshB (g := gb360) (o := .cells #[.bool a0_0, .int .u64 a0_1, .int .u64 a0_2, .int .u64 a0_3, .int .u64 a0_4] 27 (0, 0)) (by exact lb BK360.out) k_ hn_)), Or.elim hk_ (fun hs_ => hs_.2) (fun hn_ => (Kd.freshB (g := gb365) (o := .cells #[.bool t361, .slice Ao19 t362.length co19] 38 (0, 0)) (by exact lb BK365.out) k_ hn_))⟩)) (below_size (by repeat (first | (with_reducible first | exact HB.out | apply qa | apply qn | apply qd | refine qs ?_ GE360.out | refine qs ?_ GE365.out) | exact HB.out)))); have n2_ := bb BK360 hb; have n3_ := bb BK365 hb; have n4_ := Aside0.mk (below_step (by repeat (first | (with_reducible first | exact HB.out | apply qa | apply qn | apply qd | refine qs ?_ GE360.out | refine qs ?_ GE365.out) | exact HB.out)) hb); clear HO364; clear BK360; clear BK365; clear HB; have HO364 := n0_; have HO369 := n1_; have BK360 := n2_; have BK365 := n3_; have HB := n4_; clear n0_ n1_ n2_ n3_ n4_; (try clear hb); (try clear hb2); (try clear hk); (try clear hi); (try clear ho0); obtain ⟨Ao23, co23, eo23⟩ := Kd.V_slice HO369.out; subst eo23) | ((with_reducible refine gate_callee (f := 34) rfl ?_); refine goesL_ (some 24) rfl rfl Try.func34 (by kernel_rfl) rfl #[.agg #[.bool t366, .slice Ao23 t367.length co23]] rfl (by (try simp only [List.map_toArray, List.map_cons, List.map_nil]); first | done | rfl | (simp only [List.length_drop, List.length_take]; rfl)) ?_; (with_reducible refine (parquetref01_Num_Wide.calls t366 _ _ t367 t370 t371 t372 t373 t374 t375 _ ?side1 ?side2 A5.out).mono ?_); (case side1 => repeat (first | exact (Kd.V_reads' HO369.out).2.2 | (with_reducible refine Kd.C_alloc ?_ _) | (with_reducible refine Kd.C_drewN ?_ _) | (with_reducible refine Kd.C_drew ?_))); (case side2 => exact (Kd.V_reads' HO369.out).2.1); rintro e w24 ⟨rfl, hb⟩; refine ⟨_, rfl, ?_⟩; have n0_ := Aside0.mk (Kd.V_below (by (with_reducible repeat (first | apply Kd.V_alloc | apply Kd.V_drewN | apply Kd.V_drew)); exact HO364.out) hb); have n1_ := Aside0.mk (Kd.V_below (by (with_reducible repeat (first | apply Kd.V_alloc | apply Kd.V_drewN | apply Kd.V_drew)); exact HO369.out) hb); have n2_ := bb BK360 hb; have n3_ := bb BK365 hb; have n4_ := Aside0.mk (below_step (by repeat (first | (with_reducible first | exact HB.out | apply qa | apply qn | apply qd | refine qs ?_ GE360.out | refine qs ?_ GE365.out) | exact HB.out)) hb); clear HO364; clear HO369; clear BK360; clear BK365; clear HB; have HO364 := n0_; have HO369 := n1_; have BK360 := n2_; have BK365 := n3_; have HB := n4_; clear n0_ n1_ n2_ n3_ n4_; (try clear hb); (try clear hb2); (try clear hk); (try clear hi)) | ((with_reducible refine gate_dst (N := 6) rfl ?_); refine box_event ?hg (N := 6) ?hd (cs := #[.bool false, .int .u64 0, .int .u64 0, .int .u64 0, .int .u64 0]) (t := 27) ?hr ?_; (case hd => rfl); (case hg => rfl); (case hr => first | (go_simp; done) | (go_simp; rfl)); intro gb376 hg w25 hbox hb; have n0_ := Aside0.mk (Kd.V_below (Kd.V_elderB (by (with_reducible repeat (first | apply Kd.V_alloc | apply Kd.V_drewN | apply Kd.V_drew)); exact HO364.out) gb376 (Nat.le_of_eq hg.symm)) hb); have n1_ := Aside0.mk (Kd.V_below (Kd.V_elderB (by (with_reducible repeat (first | apply Kd.V_alloc | apply Kd.V_drewN | apply Kd.V_drew)); exact HO369.out) gb376 (Nat.le_of_eq hg.symm)) hb); have n2_ := bb BK360 hb; have n3_ := bb BK365 hb; have n4_ := Aside0.mk (below_step (by repeat (first | (with_reducible first | exact HB.out | apply qa | apply qn | apply qd | refine qs ?_ GE360.out | refine qs ?_ GE365.out) | exact HB.out)) hb); have n5_ := Aside0.mk (hbox); have n6_ := bgw HB hg; have n7_ := bgw HB hg; have n8_ := bnl BK360 hg; have n9_ := bng BK360 hg; have n10_ := bnl BK365 hg; have n11_ := bng BK365 hg; clear HO364; clear HO369; clear BK360; clear BK365; clear HB; have HO364 := n0_; have HO369 := n1_; have BK360 := n2_; have BK365 := n3_; have HB := n4_; have BK376 := n5_; have GW376 := n6_; have GE376 := n7_; have NB360_376 := n8_; have NB376_360 := n9_; have NB365_376 := n10_; have NB376_365 := n11_; clear n0_ n1_ n2_ n3_ n4_ n5_ n6_ n7_ n8_ n9_ n10_ n11_; clear hb hbox hg; have hnb26 := NB376_360.out; have hnc26 := NB360_376.out; have hnb27 := NB376_365.out; have hnc27 := NB365_376.out; obtain ⟨hcz28_0, hcz28_1, hcz28_2, hcz28_3, hcz28_4⟩ := cl5 BK376.out; obtain ⟨hfz28_0, hfz28_1, hfz28_2, hfz28_3, hfz28_4⟩ := fr5 BK376.out; obtain ⟨hcz29_0, hcz29_1⟩ := cl2 BK365.out; obtain ⟨hfz29_0, hfz29_1⟩ := fr2 BK365.out) | ((with_reducible refine gate_callee (f := 34) rfl ?_); refine goesL_ (some 29) rfl rfl Try.func34 (by kernel_rfl) rfl #[.agg #[.bool t361, .slice Ao19 t362.length co19]] rfl (by (try simp only [List.map_toArray, List.map_cons, List.map_nil]); first | done | rfl | (simp only [List.length_drop, List.length_take]; rfl)) ?_; (with_reducible refine (parquetref01_Num_Wide.calls t361 _ _ t362 t377 t378 t379 t380 t381 t382 _ ?side1 ?side2 A6.out).mono ?_); (case side1 => refine (Kd.V_reads' (e := 3) (base := w.heap.size) (ok := fun k_ => ((k_ ≠ gb360 ∧ k_ ≠ gb365) ∧ k_ ≠ gb376)) (n := t362.length) (c := co19) ?_).2.2; exact (by (with_reducible repeat (first | apply Kd.V_alloc | apply Kd.V_drewN | apply Kd.V_drew)); exact (Kd.V_mono (Kd.V_far (p := ⟨gb376, 4, none⟩) (Kd.V_far (p := ⟨gb376, 3, none⟩) (Kd.V_far (p := ⟨gb376, 2, none⟩) (Kd.V_far (p := ⟨gb376, 1, none⟩) (Kd.V_far (p := ⟨gb376, 0, none⟩) (Kd.V_mono HO364.out (fun k_ hk => (⟨hk, hk.2⟩ : _ ∧ k_ ≠ gb376))) (fun _ hk => hk.2) (.bool t370)) (fun _ hk => hk.2) (.int .u64 t371)) (fun _ hk => hk.2) (.int .u64 t372)) (fun _ hk => hk.2) (.int .u64 t373)) (fun _ hk => hk.2) (.int .u64 t374)) (fun _ h_ => h_.1)))); (case side2 => exact (Kd.V_reads' HO364.out).2.1); rintro e w30 ⟨rfl, hb⟩; refine ⟨_, rfl, ?_⟩; have n0_ := Aside0.mk (Kd.V_below (by (with_reducible repeat (first | apply Kd.V_alloc | apply Kd.V_drewN | apply Kd.V_drew)); exact (Kd.V_mono (Kd.V_far (p := ⟨gb376, 4, none⟩) (Kd.V_far (p := ⟨gb376, 3, none⟩) (Kd.V_far (p := ⟨gb376, 2, none⟩) (Kd.V_far (p := ⟨gb376, 1, none⟩) (Kd.V_far (p := ⟨gb376, 0, none⟩) (Kd.V_mono HO364.out (fun k_ hk => (⟨hk, hk.2⟩ : _ ∧ k_ ≠ gb376))) (fun _ hk => hk.2) (.bool t370)) (fun _ hk => hk.2) (.int .u64 t371)) (fun _ hk => hk.2) (.int .u64 t372)) (fun _ hk => hk.2) (.int .u64 t373)) (fun _ hk => hk.2) (.int .u64 t374)) (fun _ h_ => h_.1))) hb); have n1_ := Aside0.mk (Kd.V_below (by (with_reducible repeat (first | apply Kd.V_alloc | apply Kd.V_drewN | apply Kd.V_drew)); exact (Kd.V_mono (Kd.V_far (p := ⟨gb376, 4, none⟩) (Kd.V_far (p := ⟨gb376, 3, none⟩) (Kd.V_far (p := ⟨gb376, 2, none⟩) (Kd.V_far (p := ⟨gb376, 1, none⟩) (Kd.V_far (p := ⟨gb376, 0, none⟩) (Kd.V_mono HO369.out (fun k_ hk => (⟨hk, hk.2⟩ : _ ∧ k_ ≠ gb376))) (fun _ hk => hk.2) (.bool t370)) (fun _ hk => hk.2) (.int .u64 t371)) (fun _ hk => hk.2) (.int .u64 t372)) (fun _ hk => hk.2) (.int .u64 t373)) (fun _ hk => hk.2) (.int .u64 t374)) (fun _ h_ => h_.1))) hb); have n2_ := Aside0.mk (blk_below (g := gb360) (o := .cells #[.bool a0_0, .int .u64 a0_1, .int .u64 a0_2, .int .u64 a0_3, .int .u64 a0_4] 27 (0, 0)) (by repeat (with_reducible first | exact lb BK360.out | refine blk_far ?_ NB360_376.out _ | refine cn ?_ _ | refine cd ?_ | refine ca ?_ _)) hb); have n3_ := Aside0.mk (blk_below (g := gb365) (o := .cells #[.bool t361, .slice Ao19 t362.length co19] 38 (0, 0)) (by repeat (with_reducible first | exact lb BK365.out | refine blk_far ?_ NB365_376.out _ | refine cn ?_ _ | refine cd ?_ | refine ca ?_ _)) hb); have n4_ := Aside0.mk (blk_below (g := gb376) (o := .cells #[.bool t370, .int .u64 t371, .int .u64 t372, .int .u64 t373, .int .u64 t374] 27 (0, 0)) (by (with_reducible repeat (first | refine cn ?_ _ | refine cd ?_ | refine ca ?_ _)); exact bp5 (lb BK376.out)) hb); have n5_ := Aside0.mk (below_step (by repeat (first | (with_reducible first | exact HB.out | apply qa | apply qn | apply qd | refine qs ?_ GE360.out | refine qs ?_ GE365.out | refine qs ?_ GE376.out) | exact HB.out)) hb); clear HO364; clear HO369; clear BK360; clear BK365; clear BK376; clear HB; have HO364 := n0_; have HO369 := n1_; have BK360 := n2_; have BK365 := n3_; have BK376 := n4_; have HB := n5_; clear n0_ n1_ n2_ n3_ n4_ n5_; (try clear hb); (try clear hb2); (try clear hk); (try clear hi)) | ((with_reducible refine gate_dst (N := 8) rfl ?_); refine box_event ?hg (N := 8) ?hd (cs := #[.bool false, .int .u64 0, .int .u64 0, .int .u64 0, .int .u64 0]) (t := 27) ?hr ?_; (case hd => rfl); (case hg => rfl); (case hr => first | (go_simp; done) | (go_simp; rfl)); intro gb383 hg w31 hbox hb; have n0_ := Aside0.mk (Kd.V_below (Kd.V_elderB (by (with_reducible repeat (first | apply Kd.V_alloc | apply Kd.V_drewN | apply Kd.V_drew)); exact HO364.out) gb383 (Nat.le_of_eq hg.symm)) hb); have n1_ := Aside0.mk (Kd.V_below (Kd.V_elderB (by (with_reducible repeat (first | apply Kd.V_alloc | apply Kd.V_drewN | apply Kd.V_drew)); exact HO369.out) gb383 (Nat.le_of_eq hg.symm)) hb); have n2_ := bb BK360 hb; have n3_ := bb BK365 hb; have n4_ := bb BK376 hb; have n5_ := Aside0.mk (below_step (by repeat (first | (with_reducible first | exact HB.out | apply qa | apply qn | apply qd | refine qs ?_ GE360.out | refine qs ?_ GE365.out | refine qs ?_ GE376.out) | exact HB.out)) hb); have n6_ := Aside0.mk (hbox); have n7_ := bgw HB hg; have n8_ := bgw HB hg; have n9_ := bnl BK360 hg; have n10_ := bng BK360 hg; have n11_ := bnl BK365 hg; have n12_ := bng BK365 hg; have n13_ := bnl BK376 hg; have n14_ := bng BK376 hg; clear HO364; clear HO369; clear BK360; clear BK365; clear BK376; clear HB; have HO364 := n0_; have HO369 := n1_; have BK360 := n2_; have BK365 := n3_; have BK376 := n4_; have HB := n5_; have BK383 := n6_; have GW383 := n7_; have GE383 := n8_; have NB360_383 := n9_; have NB383_360 := n10_; have NB365_383 := n11_; have NB383_365 := n12_; have NB376_383 := n13_; have NB383_376 := n14_; clear n0_ n1_ n2_ n3_ n4_ n5_ n6_ n7_ n8_ n9_ n10_ n11_ n12_ n13_ n14_; clear hb hbox hg; have hnb32 := NB383_360.out; have hnc32 := NB360_383.out; have hnb33 := NB383_365.out; have hnc33 := NB365_383.out; have hnb34 := NB383_376.out; have hnc34 := NB376_383.out; obtain ⟨hcz35_0, hcz35_1, hcz35_2, hcz35_3, hcz35_4⟩ := cl5 BK383.out; obtain ⟨hfz35_0, hfz35_1, hfz35_2, hfz35_3, hfz35_4⟩ := fr5 BK383.out) | ((with_reducible refine gate_callee (f := 26) rfl ?_); refine goesL_ (some 34) rfl rfl Try.func26 (by kernel_rfl) rfl #[.int .i64 a1] rfl (by (try simp only [List.map_toArray, List.map_cons, List.map_nil]); first | done | rfl | (simp only [List.length_drop, List.length_take]; rfl)) ?_; (with_reducible refine (parquetref01_Small.calls k a1 t384 t385 _ A7.out).mono ?_); rintro e w36 ⟨v386, rfl, ho0, hb⟩; refine ⟨_, rfl, ?_⟩; have n0_ := Aside0.mk (Kd.V_below (by (with_reducible repeat (first | apply Kd.V_alloc | apply Kd.V_drewN | apply Kd.V_drew)); exact (Kd.V_mono (Kd.V_far (p := ⟨gb383, 4, none⟩) (Kd.V_far (p := ⟨gb383, 3, none⟩) (Kd.V_far (p := ⟨gb383, 2, none⟩) (Kd.V_far (p := ⟨gb383, 1, none⟩) (Kd.V_far (p := ⟨gb383, 0, none⟩) (Kd.V_mono HO364.out (fun k_ hk => (⟨hk, hk.2⟩ : _ ∧ k_ ≠ gb383))) (fun _ hk => hk.2) (.bool t377)) (fun _ hk => hk.2) (.int .u64 t378)) (fun _ hk => hk.2) (.int .u64 t379)) (fun _ hk => hk.2) (.int .u64 t380)) (fun _ hk => hk.2) (.int .u64 t381)) (fun _ h_ => h_.1))) hb); have n1_ := Aside0.mk (Kd.V_below (by (with_reducible repeat (first | apply Kd.V_alloc | apply Kd.V_drewN | apply Kd.V_drew)); exact (Kd.V_mono (Kd.V_far (p := ⟨gb383, 4, none⟩) (Kd.V_far (p := ⟨gb383, 3, none⟩) (Kd.V_far (p := ⟨gb383, 2, none⟩) (Kd.V_far (p := ⟨gb383, 1, none⟩) (Kd.V_far (p := ⟨gb383, 0, none⟩) (Kd.V_mono HO369.out (fun k_ hk => (⟨hk, hk.2⟩ : _ ∧ k_ ≠ gb383))) (fun _ hk => hk.2) (.bool t377)) (fun _ hk => hk.2) (.int .u64 t378)) (fun _ hk => hk.2) (.int .u64 t379)) (fun _ hk => hk.2) (.int .u64 t380)) (fun _ hk => hk.2) (.int .u64 t381)) (fun _ h_ => h_.1))) hb); have n2_ := Aside0.mk (Kd.V_lower (Kd.V_mono (ok' := fun k_ => k_ ≠ gb360 ∧ k_ ≠ gb365 ∧ k_ ≠ gb376 ∧ k_ ≠ gb383) ho0 (fun k_ hk_ => ⟨(Kd.freshB (g := gb360) (o := .cells #[.bool a0_0, .int .u64 a0_1, .int .u64 a0_2, .int .u64 a0_3, .int .u64 a0_4] 27 (0, 0)) (by repeat (with_reducible first | exact lb BK360.out | refine blk_far ?_ NB360_383.out _ | refine cn ?_ _ | refine cd ?_ | refine ca ?_ _)) k_ hk_), (Kd.freshB (g := gb365) (o := .cells #[.bool t361, .slice Ao19 t362.length co19] 38 (0, 0)) (by repeat (with_reducible first | exact lb BK365.out | refine blk_far ?_ NB365_383.out _ | refine cn ?_ _ | refine cd ?_ | refine ca ?_ _)) k_ hk_), (Kd.freshB (g := gb376) (o := .cells #[.bool t370, .int .u64 t371, .int .u64 t372, .int .u64 t373, .int .u64 t374] 27 (0, 0)) (by repeat (with_reducible first | exact lb BK376.out | refine blk_far ?_ NB376_383.out _ | refine cn ?_ _ | refine cd ?_ | refine ca ?_ _)) k_ hk_), (Kd.freshB (g := gb383) (o := .cells #[.bool t377, .int .u64 t378, .int .u64 t379, .int .u64 t380, .int .u64 t381] 27 (0, 0)) (by (with_reducible repeat (first | refine cn ?_ _ | refine cd ?_ | refine ca ?_ _)); exact bp5 (lb BK383.out)) k_ hk_)⟩)) (below_size (by repeat (first | (with_reducible first | exact HB.out | apply qa | apply qn | apply qd | refine qs ?_ GE360.out | refine qs ?_ GE365.out | refine qs ?_ GE376.out | refine qs ?_ GE383.out) | exact HB.out)))); have n3_ := Aside0.mk (blk_below (g := gb360) (o := .cells #[.bool a0_0, .int .u64 a0_1, .int .u64 a0_2, .int .u64 a0_3, .int .u64 a0_4] 27 (0, 0)) (by repeat (with_reducible first | exact lb BK360.out | refine blk_far ?_ NB360_383.out _ | refine cn ?_ _ | refine cd ?_ | refine ca ?_ _)) hb); have n4_ := Aside0.mk (blk_below (g := gb365) (o := .cells #[.bool t361, .slice Ao19 t362.length co19] 38 (0, 0)) (by repeat (with_reducible first | exact lb BK365.out | refine blk_far ?_ NB365_383.out _ | refine cn ?_ _ | refine cd ?_ | refine ca ?_ _)) hb); have n5_ := Aside0.mk (blk_below (g := gb376) (o := .cells #[.bool t370, .int .u64 t371, .int .u64 t372, .int .u64 t373, .int .u64 t374] 27 (0, 0)) (by repeat (with_reducible first | exact lb BK376.out | refine blk_far ?_ NB376_383.out _ | refine cn ?_ _ | refine cd ?_ | refine ca ?_ _)) hb); have n6_ := Aside0.mk (blk_below (g := gb383) (o := .cells #[.bool t377, .int .u64 t378, .int .u64 t379, .int .u64 t380, .int .u64 t381] 27 (0, 0)) (by (with_reducible repeat (first | refine cn ?_ _ | refine cd ?_ | refine ca ?_ _)); exact bp5 (lb BK383.out)) hb); have n7_ := Aside0.mk (below_step (by repeat (first | (with_reducible first | exact HB.out | apply qa | apply qn | apply qd | refine qs ?_ GE360.out | refine qs ?_ GE365.out | refine qs ?_ GE376.out | refine qs ?_ GE383.out) | exact HB.out)) hb); clear HO364; clear HO369; clear BK360; clear BK365; clear BK376; clear BK383; clear HB; have HO364 := n0_; have HO369 := n1_; have HO387 := n2_; have BK360 := n3_; have BK365 := n4_; have BK376 := n5_; have BK383 := n6_; have HB := n7_; clear n0_ n1_ n2_ n3_ n4_ n5_ n6_ n7_; (try clear hb); (try clear hb2); (try clear hk); (try clear hi); (try clear ho0); obtain ⟨Ao37, co37, eo37⟩ := Kd.V_slice HO387.out; subst eo37) | ((with_reducible refine gate_callee (f := 34) rfl ?_); refine goesL_ (some 35) rfl rfl Try.func34 (by kernel_rfl) rfl #[.agg #[.bool t384, .slice Ao37 t385.length co37]] rfl (by (try simp only [List.map_toArray, List.map_cons, List.map_nil]); first | done | rfl | (simp only [List.length_drop, List.length_take]; rfl)) ?_; (with_reducible refine (parquetref01_Num_Wide.calls t384 _ _ t385 t388 t389 t390 t391 t392 t393 _ ?side1 ?side2 A8.out).mono ?_); (case side1 => repeat (first | exact (Kd.V_reads' HO387.out).2.2 | (with_reducible refine Kd.C_alloc ?_ _) | (with_reducible refine Kd.C_drewN ?_ _) | (with_reducible refine Kd.C_drew ?_))); (case side2 => exact (Kd.V_reads' HO387.out).2.1); rintro e w38 ⟨rfl, hb⟩; refine ⟨_, rfl, ?_⟩; have n0_ := Aside0.mk (Kd.V_below (by (with_reducible repeat (first | apply Kd.V_alloc | apply Kd.V_drewN | apply Kd.V_drew)); exact HO364.out) hb); have n1_ := Aside0.mk (Kd.V_below (by (with_reducible repeat (first | apply Kd.V_alloc | apply Kd.V_drewN | apply Kd.V_drew)); exact HO369.out) hb); have n2_ := Aside0.mk (Kd.V_below (by (with_reducible repeat (first | apply Kd.V_alloc | apply Kd.V_drewN | apply Kd.V_drew)); exact HO387.out) hb); have n3_ := bb BK360 hb; have n4_ := bb BK365 hb; have n5_ := bb BK376 hb; have n6_ := bb BK383 hb; have n7_ := Aside0.mk (below_step (by repeat (first | (with_reducible first | exact HB.out | apply qa | apply qn | apply qd | refine qs ?_ GE360.out | refine qs ?_ GE365.out | refine qs ?_ GE376.out | refine qs ?_ GE383.out) | exact HB.out)) hb); clear HO364; clear HO369; clear HO387; clear BK360; clear BK365; clear BK376; clear BK383; clear HB; have HO364 := n0_; have HO369 := n1_; have HO387 := n2_; have BK360 := n3_; have BK365 := n4_; have BK376 := n5_; have BK383 := n6_; have HB := n7_; clear n0_ n1_ n2_ n3_ n4_ n5_ n6_ n7_; (try clear hb); (try clear hb2); (try clear hk); (try clear hi)) | ((with_reducible refine gate_dst (N := 10) rfl ?_); refine box_event ?hg (N := 10) ?hd (cs := #[.bool false, .int .u64 0, .int .u64 0, .int .u64 0, .int .u64 0]) (t := 27) ?hr ?_; (case hd => rfl); (case hg => rfl); (case hr => first | (go_simp; done) | (go_simp; rfl)); intro gb394 hg w39 hbox hb; have n0_ := Aside0.mk (Kd.V_below (Kd.V_elderB (by (with_reducible repeat (first | apply Kd.V_alloc | apply Kd.V_drewN | apply Kd.V_drew)); exact HO364.out) gb394 (Nat.le_of_eq hg.symm)) hb); have n1_ := Aside0.mk (Kd.V_below (Kd.V_elderB (by (with_reducible repeat (first | apply Kd.V_alloc | apply Kd.V_drewN | apply Kd.V_drew)); exact HO369.out) gb394 (Nat.le_of_eq hg.symm)) hb); have n2_ := Aside0.mk (Kd.V_below (Kd.V_elderB (by (with_reducible repeat (first | apply Kd.V_alloc | apply Kd.V_drewN | apply Kd.V_drew)); exact HO387.out) gb394 (Nat.le_of_eq hg.symm)) hb); have n3_ := bb BK360 hb; have n4_ := bb BK365 hb; have n5_ := bb BK376 hb; have n6_ := bb BK383 hb; have n7_ := Aside0.mk (below_step (by repeat (first | (with_reducible first | exact HB.out | apply qa | apply qn | apply qd | refine qs ?_ GE360.out | refine qs ?_ GE365.out | refine qs ?_ GE376.out | refine qs ?_ GE383.out) | exact HB.out)) hb); have n8_ := Aside0.mk (hbox); have n9_ := bgw HB hg; have n10_ := bgw HB hg; have n11_ := bnl BK360 hg; have n12_ := bng BK360 hg; have n13_ := bnl BK365 hg; have n14_ := bng BK365 hg; have n15_ := bnl BK376 hg; have n16_ := bng BK376 hg; have n17_ := bnl BK383 hg; have n18_ := bng BK383 hg; clear HO364; clear HO369; clear HO387; clear BK360; clear BK365; clear BK376; clear BK383; clear HB; have HO364 := n0_; have HO369 := n1_; have HO387 := n2_; have BK360 := n3_; have BK365 := n4_; have BK376 := n5_; have BK383 := n6_; have HB := n7_; have BK394 := n8_; have GW394 := n9_; have GE394 := n10_; have NB360_394 := n11_; have NB394_360 := n12_; have NB365_394 := n13_; have NB394_365 := n14_; have NB376_394 := n15_; have NB394_376 := n16_; have NB383_394 := n17_; have NB394_383 := n18_; clear n0_ n1_ n2_ n3_ n4_ n5_ n6_ n7_ n8_ n9_ n10_ n11_ n12_ n13_ n14_ n15_ n16_ n17_ n18_; clear hb hbox hg; have hnb40 := NB394_360.out; have hnc40 := NB360_394.out; have hnb41 := NB394_365.out; have hnc41 := NB365_394.out; have hnb42 := NB394_376.out; have hnc42 := NB376_394.out; have hnb43 := NB394_383.out; have hnc43 := NB383_394.out; obtain ⟨hcz44_0, hcz44_1, hcz44_2, hcz44_3, hcz44_4⟩ := cl5 BK394.out; obtain ⟨hfz44_0, hfz44_1, hfz44_2, hfz44_3, hfz44_4⟩ := fr5 BK394.out; obtain ⟨hcz45_0, hcz45_1, hcz45_2, hcz45_3, hcz45_4⟩ := cl5 BK360.out; obtain ⟨hfz45_0, hfz45_1, hfz45_2, hfz45_3, hfz45_4⟩ := fr5 BK360.out) | ((with_reducible refine gate_callee (f := 41) rfl ?_); refine goesL_ (some 40) rfl rfl Try.func41 (by kernel_rfl) rfl #[.agg #[.bool a0_0, .int .u64 a0_1, .int .u64 a0_2, .int .u64 a0_3, .int .u64 a0_4]] rfl (by (try simp only [List.map_toArray, List.map_cons, List.map_nil]); first | done | rfl | (simp only [List.length_drop, List.length_take]; rfl)) ?_; (with_reducible refine (wide_Int.calls k a0_0 a0_1 a0_2 a0_3 a0_4 t395 t396 _ A9.out).mono ?_); rintro e w46 ⟨rfl, hb⟩; refine ⟨_, rfl, ?_⟩; have n0_ := Aside0.mk (Kd.V_below (by (with_reducible repeat (first | apply Kd.V_alloc | apply Kd.V_drewN | apply Kd.V_drew)); exact (Kd.V_mono (Kd.V_far (p := ⟨gb394, 4, none⟩) (Kd.V_far (p := ⟨gb394, 3, none⟩) (Kd.V_far (p := ⟨gb394, 2, none⟩) (Kd.V_far (p := ⟨gb394, 1, none⟩) (Kd.V_far (p := ⟨gb394, 0, none⟩) (Kd.V_mono HO364.out (fun k_ hk => (⟨hk, hk.2⟩ : _ ∧ k_ ≠ gb394))) (fun _ hk => hk.2) (.bool t388)) (fun _ hk => hk.2) (.int .u64 t389)) (fun _ hk => hk.2) (.int .u64 t390)) (fun _ hk => hk.2) (.int .u64 t391)) (fun _ hk => hk.2) (.int .u64 t392)) (fun _ h_ => h_.1))) hb); have n1_ := Aside0.mk (Kd.V_below (by (with_reducible repeat (first | apply Kd.V_alloc | apply Kd.V_drewN | apply Kd.V_drew)); exact (Kd.V_mono (Kd.V_far (p := ⟨gb394, 4, none⟩) (Kd.V_far (p := ⟨gb394, 3, none⟩) (Kd.V_far (p := ⟨gb394, 2, none⟩) (Kd.V_far (p := ⟨gb394, 1, none⟩) (Kd.V_far (p := ⟨gb394, 0, none⟩) (Kd.V_mono HO369.out (fun k_ hk => (⟨hk, hk.2⟩ : _ ∧ k_ ≠ gb394))) (fun _ hk => hk.2) (.bool t388)) (fun _ hk => hk.2) (.int .u64 t389)) (fun _ hk => hk.2) (.int .u64 t390)) (fun _ hk => hk.2) (.int .u64 t391)) (fun _ hk => hk.2) (.int .u64 t392)) (fun _ h_ => h_.1))) hb); have n2_ := Aside0.mk (Kd.V_below (by (with_reducible repeat (first | apply Kd.V_alloc | apply Kd.V_drewN | apply Kd.V_drew)); exact (Kd.V_mono (Kd.V_far (p := ⟨gb394, 4, none⟩) (Kd.V_far (p := ⟨gb394, 3, none⟩) (Kd.V_far (p := ⟨gb394, 2, none⟩) (Kd.V_far (p := ⟨gb394, 1, none⟩) (Kd.V_far (p := ⟨gb394, 0, none⟩) (Kd.V_mono HO387.out (fun k_ hk => (⟨hk, hk.2⟩ : _ ∧ k_ ≠ gb394))) (fun _ hk => hk.2) (.bool t388)) (fun _ hk => hk.2) (.int .u64 t389)) (fun _ hk => hk.2) (.int .u64 t390)) (fun _ hk => hk.2) (.int .u64 t391)) (fun _ hk => hk.2) (.int .u64 t392)) (fun _ h_ => h_.1))) hb); have n3_ := Aside0.mk (blk_below (g := gb360) (o := .cells #[.bool a0_0, .int .u64 a0_1, .int .u64 a0_2, .int .u64 a0_3, .int .u64 a0_4] 27 (0, 0)) (by repeat (with_reducible first | exact lb BK360.out | refine blk_far ?_ NB360_394.out _ | refine cn ?_ _ | refine cd ?_ | refine ca ?_ _)) hb); have n4_ := Aside0.mk (blk_below (g := gb365) (o := .cells #[.bool t361, .slice Ao19 t362.length co19] 38 (0, 0)) (by repeat (with_reducible first | exact lb BK365.out | refine blk_far ?_ NB365_394.out _ | refine cn ?_ _ | refine cd ?_ | refine ca ?_ _)) hb); have n5_ := Aside0.mk (blk_below (g := gb376) (o := .cells #[.bool t370, .int .u64 t371, .int .u64 t372, .int .u64 t373, .int .u64 t374] 27 (0, 0)) (by repeat (with_reducible first | exact lb BK376.out | refine blk_far ?_ NB376_394.out _ | refine cn ?_ _ | refine cd ?_ | refine ca ?_ _)) hb); have n6_ := Aside0.mk (blk_below (g := gb383) (o := .cells #[.bool t377, .int .u64 t378, .int .u64 t379, .int .u64 t380, .int .u64 t381] 27 (0, 0)) (by repeat (with_reducible first | exact lb BK383.out | refine blk_far ?_ NB383_394.out _ | refine cn ?_ _ | refine cd ?_ | refine ca ?_ _)) hb); have n7_ := Aside0.mk (blk_below (g := gb394) (o := .cells #[.bool t388, .int .u64 t389, .int .u64 t390, .int .u64 t391, .int .u64 t392] 27 (0, 0)) (by (with_reducible repeat (first | refine cn ?_ _ | refine cd ?_ | refine ca ?_ _)); exact bp5 (lb BK394.out)) hb); have n8_ := Aside0.mk (below_step (by repeat (first | (with_reducible first | exact HB.out | apply qa | apply qn | apply qd | refine qs ?_ GE360.out | refine qs ?_ GE365.out | refine qs ?_ GE376.out | refine qs ?_ GE383.out | refine qs ?_ GE394.out) | exact HB.out)) hb); clear HO364; clear HO369; clear HO387; clear BK360; clear BK365; clear BK376; clear BK383; clear BK394; clear HB; have HO364 := n0_; have HO369 := n1_; have HO387 := n2_; have BK360 := n3_; have BK365 := n4_; have BK376 := n5_; have BK383 := n6_; have BK394 := n7_; have HB := n8_; clear n0_ n1_ n2_ n3_ n4_ n5_ n6_ n7_ n8_; (try clear hb); (try clear hb2); (try clear hk); (try clear hi)) | ((with_reducible refine gate_callee (f := 38) rfl ?_); refine goesL_ (some 45) rfl rfl Try.func38 (by kernel_rfl) rfl #[.int .i64 a1] rfl (by (try simp only [List.map_toArray, List.map_cons, List.map_nil]); first | done | rfl | (simp only [List.length_drop, List.length_take]; rfl)) ?_; (with_reducible refine (wide_Of.calls a1 t397 t398 t399 t400 t401 _ A10.out).mono ?_); rintro e w47 ⟨rfl, hb⟩; refine ⟨_, rfl, ?_⟩; have n0_ := Aside0.mk (Kd.V_below (by (with_reducible repeat (first | apply Kd.V_alloc | apply Kd.V_drewN | apply Kd.V_drew)); exact HO364.out) hb); have n1_ := Aside0.mk (Kd.V_below (by (with_reducible repeat (first | apply Kd.V_alloc | apply Kd.V_drewN | apply Kd.V_drew)); exact HO369.out) hb); have n2_ := Aside0.mk (Kd.V_below (by (with_reducible repeat (first | apply Kd.V_alloc | apply Kd.V_drewN | apply Kd.V_drew)); exact HO387.out) hb); have n3_ := bb BK360 hb; have n4_ := bb BK365 hb; have n5_ := bb BK376 hb; have n6_ := bb BK383 hb; have n7_ := bb BK394 hb; have n8_ := Aside0.mk (below_step (by repeat (first | (with_reducible first | exact HB.out | apply qa | apply qn | apply qd | refine qs ?_ GE360.out | refine qs ?_ GE365.out | refine qs ?_ GE376.out | refine qs ?_ GE383.out | refine qs ?_ GE394.out) | exact HB.out)) hb); clear HO364; clear HO369; clear HO387; clear BK360; clear BK365; clear BK376; clear BK383; clear BK394; clear HB; have HO364 := n0_; have HO369 := n1_; have HO387 := n2_; have BK360 := n3_; have BK365 := n4_; have BK376 := n5_; have BK383 := n6_; have BK394 := n7_; have HB := n8_; clear n0_ n1_ n2_ n3_ n4_ n5_ n6_ n7_ n8_; (try clear hb); (try clear hb2); (try clear hk); (try clear hi)) | ((with_reducible refine gate_callee (f := 41) rfl ?_); refine goesL_ (some 46) rfl rfl Try.func41 (by kernel_rfl) rfl #[.agg #[.bool t397, .int .u64 t398, .int .u64 t399, .int .u64 t400, .int .u64 t401]] rfl (by (try simp only [List.map_toArray, List.map_cons, List.map_nil]); first | done | rfl | (simp only [List.length_drop, List.length_take]; rfl)) ?_; (with_reducible refine (wide_Int.calls k t397 t398 t399 t400 t401 t402 t403 _ A11.out).mono ?_); rintro e w48 ⟨rfl, hb⟩; refine ⟨_, rfl, ?_⟩; have n0_ := Aside0.mk (Kd.V_below (by (with_reducible repeat (first | apply Kd.V_alloc | apply Kd.V_drewN | apply Kd.V_drew)); exact HO364.out) hb); have n1_ := Aside0.mk (Kd.V_below (by (with_reducible repeat (first | apply Kd.V_alloc | apply Kd.V_drewN | apply Kd.V_drew)); exact HO369.out) hb); have n2_ := Aside0.mk (Kd.V_below (by (with_reducible repeat (first | apply Kd.V_alloc | apply Kd.V_drewN | apply Kd.V_drew)); exact HO387.out) hb); have n3_ := bb BK360 hb; have n4_ := bb BK365 hb; have n5_ := bb BK376 hb; have n6_ := bb BK383 hb; have n7_ := bb BK394 hb; have n8_ := Aside0.mk (below_step (by repeat (first | (with_reducible first | exact HB.out | apply qa | apply qn | apply qd | refine qs ?_ GE360.out | refine qs ?_ GE365.out | refine qs ?_ GE376.out | refine qs ?_ GE383.out | refine qs ?_ GE394.out) | exact HB.out)) hb); clear HO364; clear HO369; clear HO387; clear BK360; clear BK365; clear BK376; clear BK383; clear BK394; clear HB; have HO364 := n0_; have HO369 := n1_; have HO387 := n2_; have BK360 := n3_; have BK365 := n4_; have BK376 := n5_; have BK383 := n6_; have BK394 := n7_; have HB := n8_; clear n0_ n1_ n2_ n3_ n4_ n5_ n6_ n7_ n8_; (try clear hb); (try clear hb2); (try clear hk); (try clear hi)))
 (try simp only [Act.put, List.setIfInBounds_toArray, List.set_cons_zero, List.set_cons_succ])
 go_cut [16] (fun v16 wc => ∃ (kq : Nat) (x16_11 : Bool), v16 = .bool x16_11 ∧ Aside0 (parquetlaw01_WideOnes.j0 kq a1 t393 t395 t396 t402 t403 x16_11 a0_0 a0_1 a0_2 a0_3 a0_4 t361 t362 t370 t371 t372 t373 t374 t377 t378 t379 t380 t381 t388 t389 t390 t391 t392 = some r) ∧ Aside0 (kq ≤ k) ∧ Aside0 (Kd.V (Kd.int .i64) 3 wc w.heap.size (fun k_ => k_ ≠ gb360 ∧ k_ ≠ gb365 ∧ k_ ≠ gb376 ∧ k_ ≠ gb383 ∧ k_ ≠ gb394) (.slice Ao19 t362.length co19) t362) ∧ Aside0 (wc.heap[gb360]? = some (.cells #[.bool a0_0, .int .u64 a0_1, .int .u64 a0_2, .int .u64 a0_3, .int .u64 a0_4] 27 (0, 0))) ∧ Aside0 (wc.heap[gb365]? = some (.cells #[.bool t361, (.slice Ao19 t362.length co19)] 38 (0, 0))) ∧ Aside0 (wc.heap[gb376]? = some (.cells #[.bool t370, .int .u64 t371, .int .u64 t372, .int .u64 t373, .int .u64 t374] 27 (0, 0))) ∧ Aside0 (wc.heap[gb383]? = some (.cells #[.bool t377, .int .u64 t378, .int .u64 t379, .int .u64 t380, .int .u64 t381] 27 (0, 0))) ∧ Aside0 (wc.heap[gb394]? = some (.cells #[.bool t388, .int .u64 t389, .int .u64 t390, .int .u64 t391, .int .u64 t392] 27 (0, 0))) ∧ Aside0 (Below w.heap.size w wc))
 case first =>
  have H := HC12.out
  clear HC12
  by_cases c49 : t395 = 0
  rotate_left
  ·rw [if_neg c49] at H
   have c49b0 : (t395 == 0) = false := beq_eq_false_iff_ne.mpr c49
   have c49b1 : (t395 != 0) = true := bne_iff_ne.mpr c49
   (first | rw [c49b0] | (simp only [i64_w, i32_w]; rw [c49b0]) | skip)
   have H' := Aside0.mk H
   clear H
   go_wp2
   go_meet
   case rel => exact ⟨_, (true), (by first | rfl | (simp; done) | (simp [*]; done)), H', ⟨by first | omega | exact Nat.le_refl _⟩, ⟨by (with_reducible repeat (first | apply Kd.V_alloc | apply Kd.V_drewN | apply Kd.V_drew)); exact Kd.V_mono HO364.out (fun _ hk => ⟨hk.1.1.1.1, ⟨hk.1.1.1.2, ⟨hk.1.1.2, ⟨hk.1.2, hk.2⟩⟩⟩⟩)⟩, ⟨by (with_reducible repeat (first | refine cn ?_ _ | refine cd ?_ | refine ca ?_ _)); exact BK360.out⟩, ⟨by (with_reducible repeat (first | refine cn ?_ _ | refine cd ?_ | refine ca ?_ _)); exact BK365.out⟩, ⟨by (with_reducible repeat (first | refine cn ?_ _ | refine cd ?_ | refine ca ?_ _)); exact BK376.out⟩, ⟨by (with_reducible repeat (first | refine cn ?_ _ | refine cd ?_ | refine ca ?_ _)); exact BK383.out⟩, ⟨by (with_reducible repeat (first | refine cn ?_ _ | refine cd ?_ | refine ca ?_ _)); exact BK394.out⟩, ⟨by repeat (first | (with_reducible first | exact HB.out | apply qa | apply qn | apply qd | refine qs ?_ GE360.out | refine qs ?_ GE365.out | refine qs ?_ GE376.out | refine qs ?_ GE383.out | refine qs ?_ GE394.out) | exact HB.out)⟩⟩
  rw [if_pos c49] at H
  have c49b0 : (t395 == 0) = true := beq_iff_eq.mpr c49
  have c49b1 : (t395 != 0) = false := bne_eq_false_iff_eq.mpr c49
  clear c49
  (first | rw [c49b0] | (simp only [i64_w, i32_w]; rw [c49b0]) | skip)
  replace H := Option.bind_eq_some_iff.mp H
  obtain ⟨⟨t404, t405⟩, A500, H⟩ := H
  replace H : ((parquetref01_Num_Sign.f t404 t405).bind fun t408 => (parquetlaw01_WideOnes.j0 k a1 t393 t395 t396 t402 t403 (t408 == 0) a0_0 a0_1 a0_2 a0_3 a0_4 t361 t362 t370 t371 t372 t373 t374 t377 t378 t379 t380 t381 t388 t389 t390 t391 t392)) = some r := H
  have A50 := Aside0.mk A500
  clear A500
  replace H := Option.bind_eq_some_iff.mp H
  obtain ⟨t408, A510, H⟩ := H
  replace H : (parquetlaw01_WideOnes.j0 k a1 t393 t395 t396 t402 t403 (t408 == 0) a0_0 a0_1 a0_2 a0_3 a0_4 t361 t362 t370 t371 t372 t373 t374 t377 t378 t379 t380 t381 t388 t389 t390 t391 t392) = some r := H
  have A51 := Aside0.mk A510
  clear A510
  have H' := Aside0.mk H
  clear H
  have hnb52 := NB360_365.out
  have hnc52 := NB365_360.out
  have hnb53 := NB360_376.out
  have hnc53 := NB376_360.out
  have hnb54 := NB360_383.out
  have hnc54 := NB383_360.out
  have hnb55 := NB360_394.out
  have hnc55 := NB394_360.out
  obtain ⟨hcz56_0, hcz56_1, hcz56_2, hcz56_3, hcz56_4⟩ := cl5 BK360.out
  obtain ⟨hfz56_0, hfz56_1, hfz56_2, hfz56_3, hfz56_4⟩ := fr5 BK360.out
  go_wp2_with (first | (go_at_call 24; (with_reducible refine (parquetref01_Of.calls k a0_0 a0_1 a0_2 a0_3 a0_4 t404 t405 _ A50.out).mono ?_); rintro e w57 ⟨v406, rfl, ho0, hb⟩; have n0_ := Aside0.mk (Kd.V_below (by (with_reducible repeat (first | apply Kd.V_alloc | apply Kd.V_drewN | apply Kd.V_drew)); exact HO364.out) hb); have n1_ := Aside0.mk (Kd.V_below (by (with_reducible repeat (first | apply Kd.V_alloc | apply Kd.V_drewN | apply Kd.V_drew)); exact HO369.out) hb); have n2_ := Aside0.mk (Kd.V_below (by (with_reducible repeat (first | apply Kd.V_alloc | apply Kd.V_drewN | apply Kd.V_drew)); exact HO387.out) hb); have n3_ := Aside0.mk (Kd.V_lower (Kd.V_mono (ok' := fun k_ => k_ ≠ gb360 ∧ k_ ≠ gb365 ∧ k_ ≠ gb376 ∧ k_ ≠ gb383 ∧ k_ ≠ gb394) ho0 (fun k_ hk_ => ⟨(Kd.freshB (g := gb360) (o := .cells #[.bool a0_0, .int .u64 a0_1, .int .u64 a0_2, .int .u64 a0_3, .int .u64 a0_4] 27 (0, 0)) (by exact lb BK360.out) k_ hk_), (Kd.freshB (g := gb365) (o := .cells #[.bool t361, .slice Ao19 t362.length co19] 38 (0, 0)) (by exact lb BK365.out) k_ hk_), (Kd.freshB (g := gb376) (o := .cells #[.bool t370, .int .u64 t371, .int .u64 t372, .int .u64 t373, .int .u64 t374] 27 (0, 0)) (by exact lb BK376.out) k_ hk_), (Kd.freshB (g := gb383) (o := .cells #[.bool t377, .int .u64 t378, .int .u64 t379, .int .u64 t380, .int .u64 t381] 27 (0, 0)) (by exact lb BK383.out) k_ hk_), (Kd.freshB (g := gb394) (o := .cells #[.bool t388, .int .u64 t389, .int .u64 t390, .int .u64 t391, .int .u64 t392] 27 (0, 0)) (by exact lb BK394.out) k_ hk_)⟩)) (below_size (by repeat (first | (with_reducible first | exact HB.out | apply qa | apply qn | apply qd | refine qs ?_ GE360.out | refine qs ?_ GE365.out | refine qs ?_ GE376.out | refine qs ?_ GE383.out | refine qs ?_ GE394.out) | exact HB.out)))); have n4_ := bb BK360 hb; have n5_ := bb BK365 hb; have n6_ := bb BK376 hb; have n7_ := bb BK383 hb; have n8_ := bb BK394 hb; have n9_ := Aside0.mk (below_step (by repeat (first | (with_reducible first | exact HB.out | apply qa | apply qn | apply qd | refine qs ?_ GE360.out | refine qs ?_ GE365.out | refine qs ?_ GE376.out | refine qs ?_ GE383.out | refine qs ?_ GE394.out) | exact HB.out)) hb); clear HO364; clear HO369; clear HO387; clear BK360; clear BK365; clear BK376; clear BK383; clear BK394; clear HB; have HO364 := n0_; have HO369 := n1_; have HO387 := n2_; have HO407 := n3_; have BK360 := n4_; have BK365 := n5_; have BK376 := n6_; have BK383 := n7_; have BK394 := n8_; have HB := n9_; clear n0_ n1_ n2_ n3_ n4_ n5_ n6_ n7_ n8_ n9_; (try clear hb); (try clear hb2); (try clear hk); (try clear hi); (try clear ho0); obtain ⟨Ao58, co58, eo58⟩ := Kd.V_slice HO407.out; subst eo58) | (go_at_call 25; (with_reducible refine (parquetref01_Num_Sign.calls t404 _ _ t405 t408 _ ?side1 ?side2 A51.out).mono ?_); (case side1 => repeat (first | exact (Kd.V_reads' HO407.out).2.2 | (with_reducible refine Kd.C_alloc ?_ _) | (with_reducible refine Kd.C_drewN ?_ _) | (with_reducible refine Kd.C_drew ?_))); (case side2 => exact (Kd.V_reads' HO407.out).2.1); rintro e w59 ⟨rfl, hb⟩; have n0_ := Aside0.mk (Kd.V_below (by (with_reducible repeat (first | apply Kd.V_alloc | apply Kd.V_drewN | apply Kd.V_drew)); exact HO364.out) hb); have n1_ := Aside0.mk (Kd.V_below (by (with_reducible repeat (first | apply Kd.V_alloc | apply Kd.V_drewN | apply Kd.V_drew)); exact HO369.out) hb); have n2_ := Aside0.mk (Kd.V_below (by (with_reducible repeat (first | apply Kd.V_alloc | apply Kd.V_drewN | apply Kd.V_drew)); exact HO387.out) hb); have n3_ := Aside0.mk (Kd.V_below (by (with_reducible repeat (first | apply Kd.V_alloc | apply Kd.V_drewN | apply Kd.V_drew)); exact HO407.out) hb); have n4_ := bb BK360 hb; have n5_ := bb BK365 hb; have n6_ := bb BK376 hb; have n7_ := bb BK383 hb; have n8_ := bb BK394 hb; have n9_ := Aside0.mk (below_step (by repeat (first | (with_reducible first | exact HB.out | apply qa | apply qn | apply qd | refine qs ?_ GE360.out | refine qs ?_ GE365.out | refine qs ?_ GE376.out | refine qs ?_ GE383.out | refine qs ?_ GE394.out) | exact HB.out)) hb); clear HO364; clear HO369; clear HO387; clear HO407; clear BK360; clear BK365; clear BK376; clear BK383; clear BK394; clear HB; have HO364 := n0_; have HO369 := n1_; have HO387 := n2_; have HO407 := n3_; have BK360 := n4_; have BK365 := n5_; have BK376 := n6_; have BK383 := n7_; have BK394 := n8_; have HB := n9_; clear n0_ n1_ n2_ n3_ n4_ n5_ n6_ n7_ n8_ n9_; (try clear hb); (try clear hb2); (try clear hk); (try clear hi)))
  go_meet
  case rel => exact ⟨_, ((t408 == 0)), (by first | rfl | (simp; done) | (simp [*]; done)), H', ⟨by first | omega | exact Nat.le_refl _⟩, ⟨by (with_reducible repeat (first | apply Kd.V_alloc | apply Kd.V_drewN | apply Kd.V_drew)); exact Kd.V_mono HO364.out (fun _ hk => ⟨hk.1.1.1.1, ⟨hk.1.1.1.2, ⟨hk.1.1.2, ⟨hk.1.2, hk.2⟩⟩⟩⟩)⟩, ⟨by (with_reducible repeat (first | refine cn ?_ _ | refine cd ?_ | refine ca ?_ _)); exact BK360.out⟩, ⟨by (with_reducible repeat (first | refine cn ?_ _ | refine cd ?_ | refine ca ?_ _)); exact BK365.out⟩, ⟨by (with_reducible repeat (first | refine cn ?_ _ | refine cd ?_ | refine ca ?_ _)); exact BK376.out⟩, ⟨by (with_reducible repeat (first | refine cn ?_ _ | refine cd ?_ | refine ca ?_ _)); exact BK383.out⟩, ⟨by (with_reducible repeat (first | refine cn ?_ _ | refine cd ?_ | refine ca ?_ _)); exact BK394.out⟩, ⟨by repeat (first | (with_reducible first | exact HB.out | apply qa | apply qn | apply qd | refine qs ?_ GE360.out | refine qs ?_ GE365.out | refine qs ?_ GE376.out | refine qs ?_ GE383.out | refine qs ?_ GE394.out) | exact HB.out)⟩⟩
 case rest =>
  clear HC12
  try clear c1
  try clear c2
  try clear p2
  try clear c3
  try clear c4
  try clear c5
  try clear c10
  try clear c17
  try clear c24
  try clear c26
  try clear c27
  try clear c28
  try clear c32
  try clear c33
  try clear c34
  try clear c38
  try clear c40
  try clear c41
  try clear c42
  try clear c43
  try clear c49
  try clear c49b0
  try clear c49b1
  try clear c52
  try clear c53
  try clear c54
  try clear c55
  try clear hcz14_0
  try clear hcz14_1
  try clear hcz14_2
  try clear hcz14_3
  try clear hcz14_4
  try clear hcz18_0
  try clear hcz18_1
  try clear hcz21_0
  try clear hcz21_1
  try clear hcz28_0
  try clear hcz28_1
  try clear hcz28_2
  try clear hcz28_3
  try clear hcz28_4
  try clear hcz29_0
  try clear hcz29_1
  try clear hcz35_0
  try clear hcz35_1
  try clear hcz35_2
  try clear hcz35_3
  try clear hcz35_4
  try clear hcz44_0
  try clear hcz44_1
  try clear hcz44_2
  try clear hcz44_3
  try clear hcz44_4
  try clear hcz45_0
  try clear hcz45_1
  try clear hcz45_2
  try clear hcz45_3
  try clear hcz45_4
  try clear hcz56_0
  try clear hcz56_1
  try clear hcz56_2
  try clear hcz56_3
  try clear hcz56_4
  try clear hfz14_0
  try clear hfz14_1
  try clear hfz14_2
  try clear hfz14_3
  try clear hfz14_4
  try clear hfz18_0
  try clear hfz18_1
  try clear hfz21_0
  try clear hfz21_1
  try clear hfz28_0
  try clear hfz28_1
  try clear hfz28_2
  try clear hfz28_3
  try clear hfz28_4
  try clear hfz29_0
  try clear hfz29_1
  try clear hfz35_0
  try clear hfz35_1
  try clear hfz35_2
  try clear hfz35_3
  try clear hfz35_4
  try clear hfz44_0
  try clear hfz44_1
  try clear hfz44_2
  try clear hfz44_3
  try clear hfz44_4
  try clear hfz45_0
  try clear hfz45_1
  try clear hfz45_2
  try clear hfz45_3
  try clear hfz45_4
  try clear hfz56_0
  try clear hfz56_1
  try clear hfz56_2
  try clear hfz56_3
  try clear hfz56_4
  obtain ⟨kq, x16_11, rfl, HA, HJ11, HO_366001, BK360, BK365, BK376, BK383, BK394, HB⟩ := hcut
  cases kq with
  | zero => exact absurd HA.out (by simp [parquetlaw01_WideOnes.j0])
  | succ kj11 =>
   have H := HA.out
   clear HA
   simp only [parquetlaw01_WideOnes.j0] at H
   have HC60 := Aside0.mk H
   clear H
   go_upto_region 8 with (fail)
   go_cut [81] (fun v81 wc => ∃ (kq : Nat) (x81_59 : Bool), v81 = .bool x81_59 ∧ Aside0 (parquetlaw01_WideOnes.j1 kq a1 t393 t396 t402 t403 x81_59 a0_0 a0_1 a0_2 a0_3 a0_4 t361 t362 t370 t371 t372 t373 t374 t377 t378 t379 t380 t381 t388 t389 t390 t391 t392 = some r) ∧ Aside0 (kq ≤ kj11) ∧ Aside0 (Kd.V (Kd.int .i64) 3 wc w.heap.size (fun k_ => k_ ≠ gb360 ∧ k_ ≠ gb365 ∧ k_ ≠ gb376 ∧ k_ ≠ gb383 ∧ k_ ≠ gb394) (.slice Ao19 t362.length co19) t362) ∧ Aside0 (wc.heap[gb360]? = some (.cells #[.bool a0_0, .int .u64 a0_1, .int .u64 a0_2, .int .u64 a0_3, .int .u64 a0_4] 27 (0, 0))) ∧ Aside0 (wc.heap[gb365]? = some (.cells #[.bool t361, (.slice Ao19 t362.length co19)] 38 (0, 0))) ∧ Aside0 (wc.heap[gb376]? = some (.cells #[.bool t370, .int .u64 t371, .int .u64 t372, .int .u64 t373, .int .u64 t374] 27 (0, 0))) ∧ Aside0 (wc.heap[gb383]? = some (.cells #[.bool t377, .int .u64 t378, .int .u64 t379, .int .u64 t380, .int .u64 t381] 27 (0, 0))) ∧ Aside0 (wc.heap[gb394]? = some (.cells #[.bool t388, .int .u64 t389, .int .u64 t390, .int .u64 t391, .int .u64 t392] 27 (0, 0))) ∧ Aside0 (Below w.heap.size w wc))
   case first =>
    have H := HC60.out
    clear HC60
    by_cases c61 : t396 = 0
    rotate_left
    ·rw [if_neg c61] at H
     have c61b0 : (t396 == 0) = false := beq_eq_false_iff_ne.mpr c61
     have c61b1 : (t396 != 0) = true := bne_iff_ne.mpr c61
     (first | rw [c61b0] | (simp only [i64_w, i32_w]; rw [c61b0]) | skip)
     by_cases c75 : t396 = 10
     rotate_left
     ·rw [if_neg c75] at H
      have c75b0 : (t396 == 10) = false := beq_eq_false_iff_ne.mpr c75
      have c75b1 : (t396 != 10) = true := bne_iff_ne.mpr c75
      have H' := Aside0.mk H
      clear H
      try go_wp2
      have n0_ := Aside0.mk (Kd.V_drew HO_366001.out)
      have n1_ := Aside0.mk (blk_drew BK360.out)
      have n2_ := Aside0.mk (blk_drew BK365.out)
      have n3_ := Aside0.mk (blk_drew BK376.out)
      have n4_ := Aside0.mk (blk_drew BK383.out)
      have n5_ := Aside0.mk (blk_drew BK394.out)
      have n6_ := Aside0.mk (below_drew1 HB.out)
      clear HO_366001
      clear BK360
      clear BK365
      clear BK376
      clear BK383
      clear BK394
      clear HB
      have HO_366001 := n0_
      have BK360 := n1_
      have BK365 := n2_
      have BK376 := n3_
      have BK383 := n4_
      have BK394 := n5_
      have HB := n6_
      clear n0_ n1_ n2_ n3_ n4_ n5_ n6_
      refine start_ (n := 25) (S := fun w' => True) (ds := []) #[Ff, Ff, Ff, Ff, Ff, Ff, Ff, Ff, Ff, Ff, Ff, Ff, Ff, Ff, Ff, Ff, Ff, Ff, Ff, Ff, Ff, Ff, Ff, Ff, Ff] (by kernel_rfl) rfl rfl trivial (fun hHeld => ?_); refine with_tabW parquetlaw01_WideOnes.tab8 parquetlaw01_WideOnes.bits8 (fun HT_ HW_ => ?_)
      generalize wc.drew = w77 at HO_366001 BK360 BK365 BK376 BK383 BK394 HB hHeld ⊢
      refine pure_ (i := 0) (N := some 57) (v := ?_) (a' := ?_) #[Tt, Ff, Ff, Ff, Ff, Ff, Ff, Ff, Ff, Ff, Ff, Ff, Ff, Ff, Ff, Ff, Ff, Ff, Ff, Ff, Ff, Ff, Ff, Ff, Ff] rfl rfl (any_of HT_.out (by kernel_rfl)) (fun _ _ _ h => h) (Or.inl ⟨by rfl, ?_⟩) ?_ ?_
      rotate_left
      ·intro w'
       go_simp
       with_reducible rfl
      rotate_left
      ·simp only [Act.put, List.setIfInBounds_toArray, List.set_cons_zero, List.set_cons_succ, i64_w, i32_w]
       rfl
      refine pure_ (i := 1) (N := some 58) (v := ?_) (a' := ?_) #[Tt, Tt, Ff, Ff, Ff, Ff, Ff, Ff, Ff, Ff, Ff, Ff, Ff, Ff, Ff, Ff, Ff, Ff, Ff, Ff, Ff, Ff, Ff, Ff, Ff] rfl rfl (any_of HT_.out (by kernel_rfl)) (fun _ _ _ h => h) (Or.inl ⟨by rfl, ?_⟩) ?_ ?_
      rotate_left
      ·intro w'
       go_simp
       with_reducible rfl
      rotate_left
      ·simp only [Act.put, List.setIfInBounds_toArray, List.set_cons_zero, List.set_cons_succ, i64_w, i32_w]
       rfl
      refine pure_ (i := 2) (N := some 59) (v := ?_) (a' := ?_) #[Tt, Tt, Tt, Ff, Ff, Ff, Ff, Ff, Ff, Ff, Ff, Ff, Ff, Ff, Ff, Ff, Ff, Ff, Ff, Ff, Ff, Ff, Ff, Ff, Ff] rfl rfl (any_of HT_.out (by kernel_rfl)) (fun _ _ _ h => h) (Or.inl ⟨by rfl, ?_⟩) ?_ ?_
      rotate_left
      ·intro w'
       go_simp
       with_reducible rfl
      rotate_left
      ·simp only [Act.put, List.setIfInBounds_toArray, List.set_cons_zero, List.set_cons_succ, i64_w, i32_w]
       rfl
      refine pure_ (i := 3) (N := some 60) (v := undef) (a' := ?_) #[Tt, Tt, Tt, Tt, Ff, Ff, Ff, Ff, Ff, Ff, Ff, Ff, Ff, Ff, Ff, Ff, Ff, Ff, Ff, Ff, Ff, Ff, Ff, Ff, Ff] rfl rfl (any_of HT_.out (by kernel_rfl)) (fun _ _ _ h => h) (Or.inr ⟨by rfl, rfl⟩) ?_ ?_
      rotate_left
      ·simp only [Act.put, List.setIfInBounds_toArray, List.set_cons_zero, List.set_cons_succ, i64_w, i32_w]
       rfl
      refine pure_ (i := 4) (N := some 61) (v := undef) (a' := ?_) #[Tt, Tt, Tt, Tt, Tt, Ff, Ff, Ff, Ff, Ff, Ff, Ff, Ff, Ff, Ff, Ff, Ff, Ff, Ff, Ff, Ff, Ff, Ff, Ff, Ff] rfl rfl (any_of HT_.out (by kernel_rfl)) (fun _ _ _ h => h) (Or.inr ⟨by rfl, rfl⟩) ?_ ?_
      rotate_left
      ·simp only [Act.put, List.setIfInBounds_toArray, List.set_cons_zero, List.set_cons_succ, i64_w, i32_w]
       rfl
      refine pure_ (i := 5) (N := some 62) (v := undef) (a' := ?_) #[Tt, Tt, Tt, Tt, Tt, Tt, Ff, Ff, Ff, Ff, Ff, Ff, Ff, Ff, Ff, Ff, Ff, Ff, Ff, Ff, Ff, Ff, Ff, Ff, Ff] rfl rfl (any_of HT_.out (by kernel_rfl)) (fun _ _ _ h => h) (Or.inr ⟨by rfl, rfl⟩) ?_ ?_
      rotate_left
      ·simp only [Act.put, List.setIfInBounds_toArray, List.set_cons_zero, List.set_cons_succ, i64_w, i32_w]
       rfl
      refine pure_ (i := 6) (N := some 63) (v := undef) (a' := ?_) #[Tt, Tt, Tt, Tt, Tt, Tt, Tt, Ff, Ff, Ff, Ff, Ff, Ff, Ff, Ff, Ff, Ff, Ff, Ff, Ff, Ff, Ff, Ff, Ff, Ff] rfl rfl (any_of HT_.out (by kernel_rfl)) (fun _ _ _ h => h) (Or.inr ⟨by rfl, rfl⟩) ?_ ?_
      rotate_left
      ·simp only [Act.put, List.setIfInBounds_toArray, List.set_cons_zero, List.set_cons_succ, i64_w, i32_w]
       rfl
      refine pure_ (i := 7) (N := some 64) (v := undef) (a' := ?_) #[Tt, Tt, Tt, Tt, Tt, Tt, Tt, Tt, Ff, Ff, Ff, Ff, Ff, Ff, Ff, Ff, Ff, Ff, Ff, Ff, Ff, Ff, Ff, Ff, Ff] rfl rfl (any_of HT_.out (by kernel_rfl)) (fun _ _ _ h => h) (Or.inr ⟨by rfl, rfl⟩) ?_ ?_
      rotate_left
      ·simp only [Act.put, List.setIfInBounds_toArray, List.set_cons_zero, List.set_cons_succ, i64_w, i32_w]
       rfl
      refine pure_ (i := 8) (N := some 65) (v := undef) (a' := ?_) #[Tt, Tt, Tt, Tt, Tt, Tt, Tt, Tt, Tt, Ff, Ff, Ff, Ff, Ff, Ff, Ff, Ff, Ff, Ff, Ff, Ff, Ff, Ff, Ff, Ff] rfl rfl (any_of HT_.out (by kernel_rfl)) (fun _ _ _ h => h) (Or.inr ⟨by rfl, rfl⟩) ?_ ?_
      rotate_left
      ·simp only [Act.put, List.setIfInBounds_toArray, List.set_cons_zero, List.set_cons_succ, i64_w, i32_w]
       rfl
      refine pure_ (i := 9) (N := some 66) (v := undef) (a' := ?_) #[Tt, Tt, Tt, Tt, Tt, Tt, Tt, Tt, Tt, Tt, Ff, Ff, Ff, Ff, Ff, Ff, Ff, Ff, Ff, Ff, Ff, Ff, Ff, Ff, Ff] rfl rfl (any_of HT_.out (by kernel_rfl)) (fun _ _ _ h => h) (Or.inr ⟨by rfl, rfl⟩) ?_ ?_
      rotate_left
      ·simp only [Act.put, List.setIfInBounds_toArray, List.set_cons_zero, List.set_cons_succ, i64_w, i32_w]
       rfl
      refine pure_ (i := 10) (N := some 67) (v := undef) (a' := ?_) #[Tt, Tt, Tt, Tt, Tt, Tt, Tt, Tt, Tt, Tt, Tt, Ff, Ff, Ff, Ff, Ff, Ff, Ff, Ff, Ff, Ff, Ff, Ff, Ff, Ff] rfl rfl (any_of HT_.out (by kernel_rfl)) (fun _ _ _ h => h) (Or.inr ⟨by rfl, rfl⟩) ?_ ?_
      rotate_left
      ·simp only [Act.put, List.setIfInBounds_toArray, List.set_cons_zero, List.set_cons_succ, i64_w, i32_w]
       rfl
      refine pure_ (i := 11) (N := some 68) (v := undef) (a' := ?_) #[Tt, Tt, Tt, Tt, Tt, Tt, Tt, Tt, Tt, Tt, Tt, Tt, Ff, Ff, Ff, Ff, Ff, Ff, Ff, Ff, Ff, Ff, Ff, Ff, Ff] rfl rfl (any_of HT_.out (by kernel_rfl)) (fun _ _ _ h => h) (Or.inr ⟨by rfl, rfl⟩) ?_ ?_
      rotate_left
      ·simp only [Act.put, List.setIfInBounds_toArray, List.set_cons_zero, List.set_cons_succ, i64_w, i32_w]
       rfl
      refine pure_ (i := 12) (N := some 69) (v := ?_) (a' := ?_) #[Tt, Tt, Tt, Tt, Tt, Tt, Tt, Tt, Tt, Tt, Tt, Tt, Tt, Ff, Ff, Ff, Ff, Ff, Ff, Ff, Ff, Ff, Ff, Ff, Ff] rfl rfl (any_of HT_.out (by kernel_rfl)) (fun _ _ _ h => h) (Or.inl ⟨by rfl, ?_⟩) ?_ ?_
      rotate_left
      ·intro w'
       go_simp
       with_reducible rfl
      rotate_left
      ·simp only [Act.put, List.setIfInBounds_toArray, List.set_cons_zero, List.set_cons_succ, i64_w, i32_w]
       rfl
      refine pure_ (i := 13) (N := some 70) (v := ?_) (a' := ?_) #[Tt, Tt, Tt, Tt, Tt, Tt, Tt, Tt, Tt, Tt, Tt, Tt, Tt, Tt, Ff, Ff, Ff, Ff, Ff, Ff, Ff, Ff, Ff, Ff, Ff] rfl rfl (any_of HT_.out (by kernel_rfl)) (fun _ _ _ h => h) (Or.inl ⟨by rfl, ?_⟩) ?_ ?_
      rotate_left
      ·intro w'
       go_simp
       with_reducible rfl
      rotate_left
      ·simp only [Act.put, List.setIfInBounds_toArray, List.set_cons_zero, List.set_cons_succ, i64_w, i32_w]
       rfl
      refine pure_ (i := 14) (N := some 71) (v := ?_) (a' := ?_) #[Tt, Tt, Tt, Tt, Tt, Tt, Tt, Tt, Tt, Tt, Tt, Tt, Tt, Tt, Tt, Ff, Ff, Ff, Ff, Ff, Ff, Ff, Ff, Ff, Ff] rfl rfl (any_of HT_.out (by kernel_rfl)) (fun _ _ _ h => h) (Or.inl ⟨by rfl, ?_⟩) ?_ ?_
      rotate_left
      ·intro w'
       go_simp
       with_reducible rfl
      rotate_left
      ·simp only [Act.put, List.setIfInBounds_toArray, List.set_cons_zero, List.set_cons_succ, i64_w, i32_w]
       rfl
      refine pure_ (i := 15) (N := some 72) (v := ?_) (a' := ?_) #[Tt, Tt, Tt, Tt, Tt, Tt, Tt, Tt, Tt, Tt, Tt, Tt, Tt, Tt, Tt, Tt, Ff, Ff, Ff, Ff, Ff, Ff, Ff, Ff, Ff] rfl rfl (any_of HT_.out (by kernel_rfl)) (fun _ _ _ h => h) (Or.inl ⟨by rfl, ?_⟩) ?_ ?_
      rotate_left
      ·intro w'
       go_simp
       with_reducible rfl
      rotate_left
      ·simp only [Act.put, List.setIfInBounds_toArray, List.set_cons_zero, List.set_cons_succ, i64_w, i32_w]
       rfl
      refine pure_ (i := 16) (N := some 73) (v := ?_) (a' := ?_) #[Tt, Tt, Tt, Tt, Tt, Tt, Tt, Tt, Tt, Tt, Tt, Tt, Tt, Tt, Tt, Tt, Tt, Ff, Ff, Ff, Ff, Ff, Ff, Ff, Ff] rfl rfl (any_of HT_.out (by kernel_rfl)) (fun _ _ _ h => h) (Or.inl ⟨by rfl, ?_⟩) ?_ ?_
      rotate_left
      ·intro w'
       go_simp
       with_reducible rfl
      rotate_left
      ·simp only [Act.put, List.setIfInBounds_toArray, List.set_cons_zero, List.set_cons_succ, i64_w, i32_w]
       rfl
      refine pure_ (i := 17) (N := some 74) (v := ?_) (a' := ?_) #[Tt, Tt, Tt, Tt, Tt, Tt, Tt, Tt, Tt, Tt, Tt, Tt, Tt, Tt, Tt, Tt, Tt, Tt, Ff, Ff, Ff, Ff, Ff, Ff, Ff] rfl rfl (any_of HT_.out (by kernel_rfl)) (fun _ _ _ h => h) (Or.inl ⟨by rfl, ?_⟩) ?_ ?_
      rotate_left
      ·intro w'
       go_simp
       with_reducible rfl
      rotate_left
      ·simp only [Act.put, List.setIfInBounds_toArray, List.set_cons_zero, List.set_cons_succ, i64_w, i32_w]
       rfl
      refine pure_ (i := 18) (N := some 75) (v := ?_) (a' := ?_) #[Tt, Tt, Tt, Tt, Tt, Tt, Tt, Tt, Tt, Tt, Tt, Tt, Tt, Tt, Tt, Tt, Tt, Tt, Tt, Ff, Ff, Ff, Ff, Ff, Ff] rfl rfl (any_of HT_.out (by kernel_rfl)) (fun _ _ _ h => h) (Or.inl ⟨by rfl, ?_⟩) ?_ ?_
      rotate_left
      ·intro w'
       go_simp
       with_reducible rfl
      rotate_left
      ·simp only [Act.put, List.setIfInBounds_toArray, List.set_cons_zero, List.set_cons_succ, i64_w, i32_w]
       rfl
      refine pure_ (i := 19) (N := some 76) (v := ?_) (a' := ?_) #[Tt, Tt, Tt, Tt, Tt, Tt, Tt, Tt, Tt, Tt, Tt, Tt, Tt, Tt, Tt, Tt, Tt, Tt, Tt, Tt, Ff, Ff, Ff, Ff, Ff] rfl rfl (any_of HT_.out (by kernel_rfl)) (fun _ _ _ h => h) (Or.inl ⟨by rfl, ?_⟩) ?_ ?_
      rotate_left
      ·intro w'
       go_simp
       with_reducible rfl
      rotate_left
      ·simp only [Act.put, List.setIfInBounds_toArray, List.set_cons_zero, List.set_cons_succ, i64_w, i32_w]
       rfl
      refine pure_ (i := 20) (N := some 77) (v := undef) (a' := ?_) #[Tt, Tt, Tt, Tt, Tt, Tt, Tt, Tt, Tt, Tt, Tt, Tt, Tt, Tt, Tt, Tt, Tt, Tt, Tt, Tt, Tt, Ff, Ff, Ff, Ff] rfl rfl (any_of HT_.out (by kernel_rfl)) (fun _ _ _ h => h) (Or.inr ⟨by rfl, rfl⟩) ?_ ?_
      rotate_left
      ·simp only [Act.put, List.setIfInBounds_toArray, List.set_cons_zero, List.set_cons_succ, i64_w, i32_w]
       rfl
      refine pure_ (i := 21) (N := some 78) (v := undef) (a' := ?_) #[Tt, Tt, Tt, Tt, Tt, Tt, Tt, Tt, Tt, Tt, Tt, Tt, Tt, Tt, Tt, Tt, Tt, Tt, Tt, Tt, Tt, Tt, Ff, Ff, Ff] rfl rfl (any_of HT_.out (by kernel_rfl)) (fun _ _ _ h => h) (Or.inr ⟨by rfl, rfl⟩) ?_ ?_
      rotate_left
      ·simp only [Act.put, List.setIfInBounds_toArray, List.set_cons_zero, List.set_cons_succ, i64_w, i32_w]
       rfl
      refine pure_ (i := 22) (N := some 79) (v := ?_) (a' := ?_) #[Tt, Tt, Tt, Tt, Tt, Tt, Tt, Tt, Tt, Tt, Tt, Tt, Tt, Tt, Tt, Tt, Tt, Tt, Tt, Tt, Tt, Tt, Tt, Ff, Ff] rfl rfl (any_of HT_.out (by kernel_rfl)) (fun _ _ _ h => h) (Or.inl ⟨by rfl, ?_⟩) ?_ ?_
      rotate_left
      ·intro w'
       go_simp
       with_reducible rfl
      rotate_left
      ·simp only [Act.put, List.setIfInBounds_toArray, List.set_cons_zero, List.set_cons_succ, i64_w, i32_w]
       rfl
      refine pure_ (i := 23) (N := some 80) (v := ?_) (a' := ?_) #[Tt, Tt, Tt, Tt, Tt, Tt, Tt, Tt, Tt, Tt, Tt, Tt, Tt, Tt, Tt, Tt, Tt, Tt, Tt, Tt, Tt, Tt, Tt, Tt, Ff] rfl rfl (any_of HT_.out (by kernel_rfl)) (fun _ _ _ h => h) (Or.inl ⟨by rfl, ?_⟩) ?_ ?_
      rotate_left
      ·intro w'
       go_simp
       with_reducible rfl
      rotate_left
      ·simp only [Act.put, List.setIfInBounds_toArray, List.set_cons_zero, List.set_cons_succ, i64_w, i32_w]
       rfl
      refine pure_ (i := 24) (N := some 81) (v := ?_) (a' := ?_) #[Tt, Tt, Tt, Tt, Tt, Tt, Tt, Tt, Tt, Tt, Tt, Tt, Tt, Tt, Tt, Tt, Tt, Tt, Tt, Tt, Tt, Tt, Tt, Tt, Tt] rfl rfl (any_of HT_.out (by kernel_rfl)) (fun _ _ _ h => h) (Or.inl ⟨by rfl, ?_⟩) ?_ ?_
      rotate_left
      ·intro w'
       go_simp
       with_reducible rfl
      rotate_left
      ·simp only [Act.put, List.setIfInBounds_toArray, List.set_cons_zero, List.set_cons_succ, i64_w, i32_w]
       rfl
      refine done_ (done_of HT_.out (by kernel_rfl)) ?_
      try go_wp2
      go_meet
      case rel => exact ⟨_, (true), (by first | rfl | (simp; done) | (simp [*]; done)), H', ⟨by have := HJ11.out; first | omega | exact Nat.le_refl _⟩, ⟨by (with_reducible repeat (first | apply Kd.V_alloc | apply Kd.V_drewN | apply Kd.V_drew)); exact HO_366001.out⟩, ⟨by (with_reducible repeat (first | refine cn ?_ _ | refine cd ?_ | refine ca ?_ _)); exact BK360.out⟩, ⟨by (with_reducible repeat (first | refine cn ?_ _ | refine cd ?_ | refine ca ?_ _)); exact BK365.out⟩, ⟨by (with_reducible repeat (first | refine cn ?_ _ | refine cd ?_ | refine ca ?_ _)); exact BK376.out⟩, ⟨by (with_reducible repeat (first | refine cn ?_ _ | refine cd ?_ | refine ca ?_ _)); exact BK383.out⟩, ⟨by (with_reducible repeat (first | refine cn ?_ _ | refine cd ?_ | refine ca ?_ _)); exact BK394.out⟩, ⟨by repeat (first | (with_reducible first | exact HB.out | apply qa | apply qn | apply qd | refine qs ?_ GE360.out | refine qs ?_ GE365.out | refine qs ?_ GE376.out | refine qs ?_ GE383.out | refine qs ?_ GE394.out) | exact HB.out)⟩⟩
     rw [if_pos c75] at H
     have c75b0 : (t396 == 10) = true := beq_iff_eq.mpr c75
     have c75b1 : (t396 != 10) = false := bne_eq_false_iff_eq.mpr c75
     clear c75
     have H' := Aside0.mk H
     clear H
     try go_wp2
     have n0_ := Aside0.mk (Kd.V_drew HO_366001.out)
     have n1_ := Aside0.mk (blk_drew BK360.out)
     have n2_ := Aside0.mk (blk_drew BK365.out)
     have n3_ := Aside0.mk (blk_drew BK376.out)
     have n4_ := Aside0.mk (blk_drew BK383.out)
     have n5_ := Aside0.mk (blk_drew BK394.out)
     have n6_ := Aside0.mk (below_drew1 HB.out)
     clear HO_366001
     clear BK360
     clear BK365
     clear BK376
     clear BK383
     clear BK394
     clear HB
     have HO_366001 := n0_
     have BK360 := n1_
     have BK365 := n2_
     have BK376 := n3_
     have BK383 := n4_
     have BK394 := n5_
     have HB := n6_
     clear n0_ n1_ n2_ n3_ n4_ n5_ n6_
     refine start_ (n := 25) (S := fun w' => True) (ds := []) #[Ff, Ff, Ff, Ff, Ff, Ff, Ff, Ff, Ff, Ff, Ff, Ff, Ff, Ff, Ff, Ff, Ff, Ff, Ff, Ff, Ff, Ff, Ff, Ff, Ff] (by kernel_rfl) rfl rfl trivial (fun hHeld => ?_); refine with_tabW parquetlaw01_WideOnes.tab8 parquetlaw01_WideOnes.bits8 (fun HT_ HW_ => ?_)
     generalize wc.drew = w76 at HO_366001 BK360 BK365 BK376 BK383 BK394 HB hHeld ⊢
     refine pure_ (i := 0) (N := some 57) (v := ?_) (a' := ?_) #[Tt, Ff, Ff, Ff, Ff, Ff, Ff, Ff, Ff, Ff, Ff, Ff, Ff, Ff, Ff, Ff, Ff, Ff, Ff, Ff, Ff, Ff, Ff, Ff, Ff] rfl rfl (any_of HT_.out (by kernel_rfl)) (fun _ _ _ h => h) (Or.inl ⟨by rfl, ?_⟩) ?_ ?_
     rotate_left
     ·intro w'
      go_simp
      with_reducible rfl
     rotate_left
     ·simp only [Act.put, List.setIfInBounds_toArray, List.set_cons_zero, List.set_cons_succ, i64_w, i32_w]
      rfl
     refine pure_ (i := 1) (N := some 58) (v := ?_) (a' := ?_) #[Tt, Tt, Ff, Ff, Ff, Ff, Ff, Ff, Ff, Ff, Ff, Ff, Ff, Ff, Ff, Ff, Ff, Ff, Ff, Ff, Ff, Ff, Ff, Ff, Ff] rfl rfl (any_of HT_.out (by kernel_rfl)) (fun _ _ _ h => h) (Or.inl ⟨by rfl, ?_⟩) ?_ ?_
     rotate_left
     ·intro w'
      go_simp
      with_reducible rfl
     rotate_left
     ·simp only [Act.put, List.setIfInBounds_toArray, List.set_cons_zero, List.set_cons_succ, i64_w, i32_w]
      rfl
     refine pure_ (i := 2) (N := some 59) (v := ?_) (a' := ?_) #[Tt, Tt, Tt, Ff, Ff, Ff, Ff, Ff, Ff, Ff, Ff, Ff, Ff, Ff, Ff, Ff, Ff, Ff, Ff, Ff, Ff, Ff, Ff, Ff, Ff] rfl rfl (any_of HT_.out (by kernel_rfl)) (fun _ _ _ h => h) (Or.inl ⟨by rfl, ?_⟩) ?_ ?_
     rotate_left
     ·intro w'
      go_simp
      with_reducible rfl
     rotate_left
     ·simp only [Act.put, List.setIfInBounds_toArray, List.set_cons_zero, List.set_cons_succ, i64_w, i32_w]
      rfl
     refine pure_ (i := 3) (N := some 60) (v := undef) (a' := ?_) #[Tt, Tt, Tt, Tt, Ff, Ff, Ff, Ff, Ff, Ff, Ff, Ff, Ff, Ff, Ff, Ff, Ff, Ff, Ff, Ff, Ff, Ff, Ff, Ff, Ff] rfl rfl (any_of HT_.out (by kernel_rfl)) (fun _ _ _ h => h) (Or.inr ⟨by rfl, rfl⟩) ?_ ?_
     rotate_left
     ·simp only [Act.put, List.setIfInBounds_toArray, List.set_cons_zero, List.set_cons_succ, i64_w, i32_w]
      rfl
     refine pure_ (i := 4) (N := some 61) (v := undef) (a' := ?_) #[Tt, Tt, Tt, Tt, Tt, Ff, Ff, Ff, Ff, Ff, Ff, Ff, Ff, Ff, Ff, Ff, Ff, Ff, Ff, Ff, Ff, Ff, Ff, Ff, Ff] rfl rfl (any_of HT_.out (by kernel_rfl)) (fun _ _ _ h => h) (Or.inr ⟨by rfl, rfl⟩) ?_ ?_
     rotate_left
     ·simp only [Act.put, List.setIfInBounds_toArray, List.set_cons_zero, List.set_cons_succ, i64_w, i32_w]
      rfl
     refine pure_ (i := 5) (N := some 62) (v := undef) (a' := ?_) #[Tt, Tt, Tt, Tt, Tt, Tt, Ff, Ff, Ff, Ff, Ff, Ff, Ff, Ff, Ff, Ff, Ff, Ff, Ff, Ff, Ff, Ff, Ff, Ff, Ff] rfl rfl (any_of HT_.out (by kernel_rfl)) (fun _ _ _ h => h) (Or.inr ⟨by rfl, rfl⟩) ?_ ?_
     rotate_left
     ·simp only [Act.put, List.setIfInBounds_toArray, List.set_cons_zero, List.set_cons_succ, i64_w, i32_w]
      rfl
     refine pure_ (i := 6) (N := some 63) (v := undef) (a' := ?_) #[Tt, Tt, Tt, Tt, Tt, Tt, Tt, Ff, Ff, Ff, Ff, Ff, Ff, Ff, Ff, Ff, Ff, Ff, Ff, Ff, Ff, Ff, Ff, Ff, Ff] rfl rfl (any_of HT_.out (by kernel_rfl)) (fun _ _ _ h => h) (Or.inr ⟨by rfl, rfl⟩) ?_ ?_
     rotate_left
     ·simp only [Act.put, List.setIfInBounds_toArray, List.set_cons_zero, List.set_cons_succ, i64_w, i32_w]
      rfl
     refine pure_ (i := 7) (N := some 64) (v := undef) (a' := ?_) #[Tt, Tt, Tt, Tt, Tt, Tt, Tt, Tt, Ff, Ff, Ff, Ff, Ff, Ff, Ff, Ff, Ff, Ff, Ff, Ff, Ff, Ff, Ff, Ff, Ff] rfl rfl (any_of HT_.out (by kernel_rfl)) (fun _ _ _ h => h) (Or.inr ⟨by rfl, rfl⟩) ?_ ?_
     rotate_left
     ·simp only [Act.put, List.setIfInBounds_toArray, List.set_cons_zero, List.set_cons_succ, i64_w, i32_w]
      rfl
     refine pure_ (i := 8) (N := some 65) (v := undef) (a' := ?_) #[Tt, Tt, Tt, Tt, Tt, Tt, Tt, Tt, Tt, Ff, Ff, Ff, Ff, Ff, Ff, Ff, Ff, Ff, Ff, Ff, Ff, Ff, Ff, Ff, Ff] rfl rfl (any_of HT_.out (by kernel_rfl)) (fun _ _ _ h => h) (Or.inr ⟨by rfl, rfl⟩) ?_ ?_
     rotate_left
     ·simp only [Act.put, List.setIfInBounds_toArray, List.set_cons_zero, List.set_cons_succ, i64_w, i32_w]
      rfl
     refine pure_ (i := 9) (N := some 66) (v := undef) (a' := ?_) #[Tt, Tt, Tt, Tt, Tt, Tt, Tt, Tt, Tt, Tt, Ff, Ff, Ff, Ff, Ff, Ff, Ff, Ff, Ff, Ff, Ff, Ff, Ff, Ff, Ff] rfl rfl (any_of HT_.out (by kernel_rfl)) (fun _ _ _ h => h) (Or.inr ⟨by rfl, rfl⟩) ?_ ?_
     rotate_left
     ·simp only [Act.put, List.setIfInBounds_toArray, List.set_cons_zero, List.set_cons_succ, i64_w, i32_w]
      rfl
     refine pure_ (i := 10) (N := some 67) (v := undef) (a' := ?_) #[Tt, Tt, Tt, Tt, Tt, Tt, Tt, Tt, Tt, Tt, Tt, Ff, Ff, Ff, Ff, Ff, Ff, Ff, Ff, Ff, Ff, Ff, Ff, Ff, Ff] rfl rfl (any_of HT_.out (by kernel_rfl)) (fun _ _ _ h => h) (Or.inr ⟨by rfl, rfl⟩) ?_ ?_
     rotate_left
     ·simp only [Act.put, List.setIfInBounds_toArray, List.set_cons_zero, List.set_cons_succ, i64_w, i32_w]
      rfl
     refine pure_ (i := 11) (N := some 68) (v := undef) (a' := ?_) #[Tt, Tt, Tt, Tt, Tt, Tt, Tt, Tt, Tt, Tt, Tt, Tt, Ff, Ff, Ff, Ff, Ff, Ff, Ff, Ff, Ff, Ff, Ff, Ff, Ff] rfl rfl (any_of HT_.out (by kernel_rfl)) (fun _ _ _ h => h) (Or.inr ⟨by rfl, rfl⟩) ?_ ?_
     rotate_left
     ·simp only [Act.put, List.setIfInBounds_toArray, List.set_cons_zero, List.set_cons_succ, i64_w, i32_w]
      rfl
     refine pure_ (i := 12) (N := some 69) (v := ?_) (a' := ?_) #[Tt, Tt, Tt, Tt, Tt, Tt, Tt, Tt, Tt, Tt, Tt, Tt, Tt, Ff, Ff, Ff, Ff, Ff, Ff, Ff, Ff, Ff, Ff, Ff, Ff] rfl rfl (any_of HT_.out (by kernel_rfl)) (fun _ _ _ h => h) (Or.inl ⟨by rfl, ?_⟩) ?_ ?_
     rotate_left
     ·intro w'
      go_simp
      with_reducible rfl
     rotate_left
     ·simp only [Act.put, List.setIfInBounds_toArray, List.set_cons_zero, List.set_cons_succ, i64_w, i32_w]
      rfl
     refine pure_ (i := 13) (N := some 70) (v := ?_) (a' := ?_) #[Tt, Tt, Tt, Tt, Tt, Tt, Tt, Tt, Tt, Tt, Tt, Tt, Tt, Tt, Ff, Ff, Ff, Ff, Ff, Ff, Ff, Ff, Ff, Ff, Ff] rfl rfl (any_of HT_.out (by kernel_rfl)) (fun _ _ _ h => h) (Or.inl ⟨by rfl, ?_⟩) ?_ ?_
     rotate_left
     ·intro w'
      go_simp
      with_reducible rfl
     rotate_left
     ·simp only [Act.put, List.setIfInBounds_toArray, List.set_cons_zero, List.set_cons_succ, i64_w, i32_w]
      rfl
     refine pure_ (i := 14) (N := some 71) (v := ?_) (a' := ?_) #[Tt, Tt, Tt, Tt, Tt, Tt, Tt, Tt, Tt, Tt, Tt, Tt, Tt, Tt, Tt, Ff, Ff, Ff, Ff, Ff, Ff, Ff, Ff, Ff, Ff] rfl rfl (any_of HT_.out (by kernel_rfl)) (fun _ _ _ h => h) (Or.inl ⟨by rfl, ?_⟩) ?_ ?_
     rotate_left
     ·intro w'
      go_simp
      with_reducible rfl
     rotate_left
     ·simp only [Act.put, List.setIfInBounds_toArray, List.set_cons_zero, List.set_cons_succ, i64_w, i32_w]
      rfl
     refine pure_ (i := 15) (N := some 72) (v := ?_) (a' := ?_) #[Tt, Tt, Tt, Tt, Tt, Tt, Tt, Tt, Tt, Tt, Tt, Tt, Tt, Tt, Tt, Tt, Ff, Ff, Ff, Ff, Ff, Ff, Ff, Ff, Ff] rfl rfl (any_of HT_.out (by kernel_rfl)) (fun _ _ _ h => h) (Or.inl ⟨by rfl, ?_⟩) ?_ ?_
     rotate_left
     ·intro w'
      go_simp
      with_reducible rfl
     rotate_left
     ·simp only [Act.put, List.setIfInBounds_toArray, List.set_cons_zero, List.set_cons_succ, i64_w, i32_w]
      rfl
     refine pure_ (i := 16) (N := some 73) (v := ?_) (a' := ?_) #[Tt, Tt, Tt, Tt, Tt, Tt, Tt, Tt, Tt, Tt, Tt, Tt, Tt, Tt, Tt, Tt, Tt, Ff, Ff, Ff, Ff, Ff, Ff, Ff, Ff] rfl rfl (any_of HT_.out (by kernel_rfl)) (fun _ _ _ h => h) (Or.inl ⟨by rfl, ?_⟩) ?_ ?_
     rotate_left
     ·intro w'
      go_simp
      with_reducible rfl
     rotate_left
     ·simp only [Act.put, List.setIfInBounds_toArray, List.set_cons_zero, List.set_cons_succ, i64_w, i32_w]
      rfl
     refine pure_ (i := 17) (N := some 74) (v := ?_) (a' := ?_) #[Tt, Tt, Tt, Tt, Tt, Tt, Tt, Tt, Tt, Tt, Tt, Tt, Tt, Tt, Tt, Tt, Tt, Tt, Ff, Ff, Ff, Ff, Ff, Ff, Ff] rfl rfl (any_of HT_.out (by kernel_rfl)) (fun _ _ _ h => h) (Or.inl ⟨by rfl, ?_⟩) ?_ ?_
     rotate_left
     ·intro w'
      go_simp
      with_reducible rfl
     rotate_left
     ·simp only [Act.put, List.setIfInBounds_toArray, List.set_cons_zero, List.set_cons_succ, i64_w, i32_w]
      rfl
     refine pure_ (i := 18) (N := some 75) (v := ?_) (a' := ?_) #[Tt, Tt, Tt, Tt, Tt, Tt, Tt, Tt, Tt, Tt, Tt, Tt, Tt, Tt, Tt, Tt, Tt, Tt, Tt, Ff, Ff, Ff, Ff, Ff, Ff] rfl rfl (any_of HT_.out (by kernel_rfl)) (fun _ _ _ h => h) (Or.inl ⟨by rfl, ?_⟩) ?_ ?_
     rotate_left
     ·intro w'
      go_simp
      with_reducible rfl
     rotate_left
     ·simp only [Act.put, List.setIfInBounds_toArray, List.set_cons_zero, List.set_cons_succ, i64_w, i32_w]
      rfl
     refine pure_ (i := 19) (N := some 76) (v := ?_) (a' := ?_) #[Tt, Tt, Tt, Tt, Tt, Tt, Tt, Tt, Tt, Tt, Tt, Tt, Tt, Tt, Tt, Tt, Tt, Tt, Tt, Tt, Ff, Ff, Ff, Ff, Ff] rfl rfl (any_of HT_.out (by kernel_rfl)) (fun _ _ _ h => h) (Or.inl ⟨by rfl, ?_⟩) ?_ ?_
     rotate_left
     ·intro w'
      go_simp
      with_reducible rfl
     rotate_left
     ·simp only [Act.put, List.setIfInBounds_toArray, List.set_cons_zero, List.set_cons_succ, i64_w, i32_w]
      rfl
     refine pure_ (i := 20) (N := some 77) (v := ?_) (a' := ?_) #[Tt, Tt, Tt, Tt, Tt, Tt, Tt, Tt, Tt, Tt, Tt, Tt, Tt, Tt, Tt, Tt, Tt, Tt, Tt, Tt, Tt, Ff, Ff, Ff, Ff] rfl rfl (any_of HT_.out (by kernel_rfl)) (fun _ _ _ h => h) (Or.inl ⟨by rfl, ?_⟩) ?_ ?_
     rotate_left
     ·intro w'
      go_simp
      with_reducible rfl
     rotate_left
     ·simp only [Act.put, List.setIfInBounds_toArray, List.set_cons_zero, List.set_cons_succ, i64_w, i32_w]
      rfl
     refine pure_ (i := 21) (N := some 78) (v := ?_) (a' := ?_) #[Tt, Tt, Tt, Tt, Tt, Tt, Tt, Tt, Tt, Tt, Tt, Tt, Tt, Tt, Tt, Tt, Tt, Tt, Tt, Tt, Tt, Tt, Ff, Ff, Ff] rfl rfl (any_of HT_.out (by kernel_rfl)) (fun _ _ _ h => h) (Or.inl ⟨by rfl, ?_⟩) ?_ ?_
     rotate_left
     ·intro w'
      go_simp
      with_reducible rfl
     rotate_left
     ·simp only [Act.put, List.setIfInBounds_toArray, List.set_cons_zero, List.set_cons_succ, i64_w, i32_w]
      rfl
     refine pure_ (i := 22) (N := some 79) (v := ?_) (a' := ?_) #[Tt, Tt, Tt, Tt, Tt, Tt, Tt, Tt, Tt, Tt, Tt, Tt, Tt, Tt, Tt, Tt, Tt, Tt, Tt, Tt, Tt, Tt, Tt, Ff, Ff] rfl rfl (any_of HT_.out (by kernel_rfl)) (fun _ _ _ h => h) (Or.inl ⟨by rfl, ?_⟩) ?_ ?_
     rotate_left
     ·intro w'
      go_simp
      with_reducible rfl
     rotate_left
     ·simp only [Act.put, List.setIfInBounds_toArray, List.set_cons_zero, List.set_cons_succ, i64_w, i32_w]
      rfl
     refine pure_ (i := 23) (N := some 80) (v := ?_) (a' := ?_) #[Tt, Tt, Tt, Tt, Tt, Tt, Tt, Tt, Tt, Tt, Tt, Tt, Tt, Tt, Tt, Tt, Tt, Tt, Tt, Tt, Tt, Tt, Tt, Tt, Ff] rfl rfl (any_of HT_.out (by kernel_rfl)) (fun _ _ _ h => h) (Or.inl ⟨by rfl, ?_⟩) ?_ ?_
     rotate_left
     ·intro w'
      go_simp
      with_reducible rfl
     rotate_left
     ·simp only [Act.put, List.setIfInBounds_toArray, List.set_cons_zero, List.set_cons_succ, i64_w, i32_w]
      rfl
     refine pure_ (i := 24) (N := some 81) (v := ?_) (a' := ?_) #[Tt, Tt, Tt, Tt, Tt, Tt, Tt, Tt, Tt, Tt, Tt, Tt, Tt, Tt, Tt, Tt, Tt, Tt, Tt, Tt, Tt, Tt, Tt, Tt, Tt] rfl rfl (any_of HT_.out (by kernel_rfl)) (fun _ _ _ h => h) (Or.inl ⟨by rfl, ?_⟩) ?_ ?_
     rotate_left
     ·intro w'
      go_simp
      with_reducible rfl
     rotate_left
     ·simp only [Act.put, List.setIfInBounds_toArray, List.set_cons_zero, List.set_cons_succ, i64_w, i32_w]
      rfl
     refine done_ (done_of HT_.out (by kernel_rfl)) ?_
     try go_wp2
     go_meet
     case rel => exact ⟨_, ((t395 != 0)), (by first | rfl | (simp; done) | (simp [*]; done)), H', ⟨by have := HJ11.out; first | omega | exact Nat.le_refl _⟩, ⟨by (with_reducible repeat (first | apply Kd.V_alloc | apply Kd.V_drewN | apply Kd.V_drew)); exact HO_366001.out⟩, ⟨by (with_reducible repeat (first | refine cn ?_ _ | refine cd ?_ | refine ca ?_ _)); exact BK360.out⟩, ⟨by (with_reducible repeat (first | refine cn ?_ _ | refine cd ?_ | refine ca ?_ _)); exact BK365.out⟩, ⟨by (with_reducible repeat (first | refine cn ?_ _ | refine cd ?_ | refine ca ?_ _)); exact BK376.out⟩, ⟨by (with_reducible repeat (first | refine cn ?_ _ | refine cd ?_ | refine ca ?_ _)); exact BK383.out⟩, ⟨by (with_reducible repeat (first | refine cn ?_ _ | refine cd ?_ | refine ca ?_ _)); exact BK394.out⟩, ⟨by repeat (first | (with_reducible first | exact HB.out | apply qa | apply qn | apply qd | refine qs ?_ GE360.out | refine qs ?_ GE365.out | refine qs ?_ GE376.out | refine qs ?_ GE383.out | refine qs ?_ GE394.out) | exact HB.out)⟩⟩
    rw [if_pos c61] at H
    have c61b0 : (t396 == 0) = true := beq_iff_eq.mpr c61
    have c61b1 : (t396 != 0) = false := bne_eq_false_iff_eq.mpr c61
    clear c61
    (first | rw [c61b0] | (simp only [i64_w, i32_w]; rw [c61b0]) | skip)
    by_cases c62 : x16_11 = true
    rotate_left
    ·replace c62 := Bool.eq_false_iff.mpr c62
     subst c62
     have H1 : (parquetlaw01_WideOnes.j1 kj11 a1 t393 t396 t402 t403 true a0_0 a0_1 a0_2 a0_3 a0_4 t361 t362 t370 t371 t372 t373 t374 t377 t378 t379 t380 t381 t388 t389 t390 t391 t392) = some r := by rw [if_neg (show ¬ (false = true) by decide)] at H; exact H
     clear H
     have H := H1
     clear H1
     have H' := Aside0.mk H
     clear H
     try go_wp2
     have n0_ := Aside0.mk (Kd.V_drew HO_366001.out)
     have n1_ := Aside0.mk (blk_drew BK360.out)
     have n2_ := Aside0.mk (blk_drew BK365.out)
     have n3_ := Aside0.mk (blk_drew BK376.out)
     have n4_ := Aside0.mk (blk_drew BK383.out)
     have n5_ := Aside0.mk (blk_drew BK394.out)
     have n6_ := Aside0.mk (below_drew1 HB.out)
     clear HO_366001
     clear BK360
     clear BK365
     clear BK376
     clear BK383
     clear BK394
     clear HB
     have HO_366001 := n0_
     have BK360 := n1_
     have BK365 := n2_
     have BK376 := n3_
     have BK383 := n4_
     have BK394 := n5_
     have HB := n6_
     clear n0_ n1_ n2_ n3_ n4_ n5_ n6_
     refine start_ (n := 25) (S := fun w' => True) (ds := []) #[Ff, Ff, Ff, Ff, Ff, Ff, Ff, Ff, Ff, Ff, Ff, Ff, Ff, Ff, Ff, Ff, Ff, Ff, Ff, Ff, Ff, Ff, Ff, Ff, Ff] (by kernel_rfl) rfl rfl trivial (fun hHeld => ?_); refine with_tabW parquetlaw01_WideOnes.tab8 parquetlaw01_WideOnes.bits8 (fun HT_ HW_ => ?_)
     generalize wc.drew = w74 at HO_366001 BK360 BK365 BK376 BK383 BK394 HB hHeld ⊢
     refine pure_ (i := 0) (N := some 57) (v := ?_) (a' := ?_) #[Tt, Ff, Ff, Ff, Ff, Ff, Ff, Ff, Ff, Ff, Ff, Ff, Ff, Ff, Ff, Ff, Ff, Ff, Ff, Ff, Ff, Ff, Ff, Ff, Ff] rfl rfl (any_of HT_.out (by kernel_rfl)) (fun _ _ _ h => h) (Or.inl ⟨by rfl, ?_⟩) ?_ ?_
     rotate_left
     ·intro w'
      go_simp
      with_reducible rfl
     rotate_left
     ·simp only [Act.put, List.setIfInBounds_toArray, List.set_cons_zero, List.set_cons_succ, i64_w, i32_w]
      rfl
     refine pure_ (i := 1) (N := some 58) (v := ?_) (a' := ?_) #[Tt, Tt, Ff, Ff, Ff, Ff, Ff, Ff, Ff, Ff, Ff, Ff, Ff, Ff, Ff, Ff, Ff, Ff, Ff, Ff, Ff, Ff, Ff, Ff, Ff] rfl rfl (any_of HT_.out (by kernel_rfl)) (fun _ _ _ h => h) (Or.inl ⟨by rfl, ?_⟩) ?_ ?_
     rotate_left
     ·intro w'
      go_simp
      with_reducible rfl
     rotate_left
     ·simp only [Act.put, List.setIfInBounds_toArray, List.set_cons_zero, List.set_cons_succ, i64_w, i32_w]
      rfl
     refine pure_ (i := 2) (N := some 59) (v := ?_) (a' := ?_) #[Tt, Tt, Tt, Ff, Ff, Ff, Ff, Ff, Ff, Ff, Ff, Ff, Ff, Ff, Ff, Ff, Ff, Ff, Ff, Ff, Ff, Ff, Ff, Ff, Ff] rfl rfl (any_of HT_.out (by kernel_rfl)) (fun _ _ _ h => h) (Or.inl ⟨by rfl, ?_⟩) ?_ ?_
     rotate_left
     ·intro w'
      go_simp
      with_reducible rfl
     rotate_left
     ·simp only [Act.put, List.setIfInBounds_toArray, List.set_cons_zero, List.set_cons_succ, i64_w, i32_w]
      rfl
     refine pure_ (i := 3) (N := some 60) (v := ?_) (a' := ?_) #[Tt, Tt, Tt, Tt, Ff, Ff, Ff, Ff, Ff, Ff, Ff, Ff, Ff, Ff, Ff, Ff, Ff, Ff, Ff, Ff, Ff, Ff, Ff, Ff, Ff] rfl rfl (any_of HT_.out (by kernel_rfl)) (fun _ _ _ h => h) (Or.inl ⟨by rfl, ?_⟩) ?_ ?_
     rotate_left
     ·intro w'
      go_simp
      with_reducible rfl
     rotate_left
     ·simp only [Act.put, List.setIfInBounds_toArray, List.set_cons_zero, List.set_cons_succ, i64_w, i32_w]
      rfl
     refine pure_ (i := 4) (N := some 61) (v := ?_) (a' := ?_) #[Tt, Tt, Tt, Tt, Tt, Ff, Ff, Ff, Ff, Ff, Ff, Ff, Ff, Ff, Ff, Ff, Ff, Ff, Ff, Ff, Ff, Ff, Ff, Ff, Ff] rfl rfl (any_of HT_.out (by kernel_rfl)) (fun _ _ _ h => h) (Or.inl ⟨by rfl, ?_⟩) ?_ ?_
     rotate_left
     ·intro w'
      go_simp
      with_reducible rfl
     rotate_left
     ·simp only [Act.put, List.setIfInBounds_toArray, List.set_cons_zero, List.set_cons_succ, i64_w, i32_w]
      rfl
     refine pure_ (i := 5) (N := some 62) (v := ?_) (a' := ?_) #[Tt, Tt, Tt, Tt, Tt, Tt, Ff, Ff, Ff, Ff, Ff, Ff, Ff, Ff, Ff, Ff, Ff, Ff, Ff, Ff, Ff, Ff, Ff, Ff, Ff] rfl rfl (any_of HT_.out (by kernel_rfl)) (fun _ _ _ h => h) (Or.inl ⟨by rfl, ?_⟩) ?_ ?_
     rotate_left
     ·intro w'
      go_simp
      with_reducible rfl
     rotate_left
     ·simp only [Act.put, List.setIfInBounds_toArray, List.set_cons_zero, List.set_cons_succ, i64_w, i32_w]
      rfl
     refine pure_ (i := 6) (N := some 63) (v := undef) (a' := ?_) #[Tt, Tt, Tt, Tt, Tt, Tt, Tt, Ff, Ff, Ff, Ff, Ff, Ff, Ff, Ff, Ff, Ff, Ff, Ff, Ff, Ff, Ff, Ff, Ff, Ff] rfl rfl (any_of HT_.out (by kernel_rfl)) (fun _ _ _ h => h) (Or.inr ⟨by rfl, rfl⟩) ?_ ?_
     rotate_left
     ·simp only [Act.put, List.setIfInBounds_toArray, List.set_cons_zero, List.set_cons_succ, i64_w, i32_w]
      rfl
     refine pure_ (i := 7) (N := some 64) (v := undef) (a' := ?_) #[Tt, Tt, Tt, Tt, Tt, Tt, Tt, Tt, Ff, Ff, Ff, Ff, Ff, Ff, Ff, Ff, Ff, Ff, Ff, Ff, Ff, Ff, Ff, Ff, Ff] rfl rfl (any_of HT_.out (by kernel_rfl)) (fun _ _ _ h => h) (Or.inr ⟨by rfl, rfl⟩) ?_ ?_
     rotate_left
     ·simp only [Act.put, List.setIfInBounds_toArray, List.set_cons_zero, List.set_cons_succ, i64_w, i32_w]
      rfl
     refine pure_ (i := 8) (N := some 65) (v := undef) (a' := ?_) #[Tt, Tt, Tt, Tt, Tt, Tt, Tt, Tt, Tt, Ff, Ff, Ff, Ff, Ff, Ff, Ff, Ff, Ff, Ff, Ff, Ff, Ff, Ff, Ff, Ff] rfl rfl (any_of HT_.out (by kernel_rfl)) (fun _ _ _ h => h) (Or.inr ⟨by rfl, rfl⟩) ?_ ?_
     rotate_left
     ·simp only [Act.put, List.setIfInBounds_toArray, List.set_cons_zero, List.set_cons_succ, i64_w, i32_w]
      rfl
     refine pure_ (i := 9) (N := some 66) (v := undef) (a' := ?_) #[Tt, Tt, Tt, Tt, Tt, Tt, Tt, Tt, Tt, Tt, Ff, Ff, Ff, Ff, Ff, Ff, Ff, Ff, Ff, Ff, Ff, Ff, Ff, Ff, Ff] rfl rfl (any_of HT_.out (by kernel_rfl)) (fun _ _ _ h => h) (Or.inr ⟨by rfl, rfl⟩) ?_ ?_
     rotate_left
     ·simp only [Act.put, List.setIfInBounds_toArray, List.set_cons_zero, List.set_cons_succ, i64_w, i32_w]
      rfl
     refine pure_ (i := 10) (N := some 67) (v := undef) (a' := ?_) #[Tt, Tt, Tt, Tt, Tt, Tt, Tt, Tt, Tt, Tt, Tt, Ff, Ff, Ff, Ff, Ff, Ff, Ff, Ff, Ff, Ff, Ff, Ff, Ff, Ff] rfl rfl (any_of HT_.out (by kernel_rfl)) (fun _ _ _ h => h) (Or.inr ⟨by rfl, rfl⟩) ?_ ?_
     rotate_left
     ·simp only [Act.put, List.setIfInBounds_toArray, List.set_cons_zero, List.set_cons_succ, i64_w, i32_w]
      rfl
     refine pure_ (i := 11) (N := some 68) (v := ?_) (a' := ?_) #[Tt, Tt, Tt, Tt, Tt, Tt, Tt, Tt, Tt, Tt, Tt, Tt, Ff, Ff, Ff, Ff, Ff, Ff, Ff, Ff, Ff, Ff, Ff, Ff, Ff] rfl rfl (any_of HT_.out (by kernel_rfl)) (fun _ _ _ h => h) (Or.inl ⟨by rfl, ?_⟩) ?_ ?_
     rotate_left
     ·intro w'
      go_simp
      with_reducible rfl
     rotate_left
     ·simp only [Act.put, List.setIfInBounds_toArray, List.set_cons_zero, List.set_cons_succ, i64_w, i32_w]
      rfl
     refine pure_ (i := 12) (N := some 69) (v := ?_) (a' := ?_) #[Tt, Tt, Tt, Tt, Tt, Tt, Tt, Tt, Tt, Tt, Tt, Tt, Tt, Ff, Ff, Ff, Ff, Ff, Ff, Ff, Ff, Ff, Ff, Ff, Ff] rfl rfl (any_of HT_.out (by kernel_rfl)) (fun _ _ _ h => h) (Or.inl ⟨by rfl, ?_⟩) ?_ ?_
     rotate_left
     ·intro w'
      go_simp
      with_reducible rfl
     rotate_left
     ·simp only [Act.put, List.setIfInBounds_toArray, List.set_cons_zero, List.set_cons_succ, i64_w, i32_w]
      rfl
     refine pure_ (i := 13) (N := some 70) (v := ?_) (a' := ?_) #[Tt, Tt, Tt, Tt, Tt, Tt, Tt, Tt, Tt, Tt, Tt, Tt, Tt, Tt, Ff, Ff, Ff, Ff, Ff, Ff, Ff, Ff, Ff, Ff, Ff] rfl rfl (any_of HT_.out (by kernel_rfl)) (fun _ _ _ h => h) (Or.inl ⟨by rfl, ?_⟩) ?_ ?_
     rotate_left
     ·intro w'
      go_simp
      with_reducible rfl
     rotate_left
     ·simp only [Act.put, List.setIfInBounds_toArray, List.set_cons_zero, List.set_cons_succ, i64_w, i32_w]
      rfl
     refine pure_ (i := 14) (N := some 71) (v := undef) (a' := ?_) #[Tt, Tt, Tt, Tt, Tt, Tt, Tt, Tt, Tt, Tt, Tt, Tt, Tt, Tt, Tt, Ff, Ff, Ff, Ff, Ff, Ff, Ff, Ff, Ff, Ff] rfl rfl (any_of HT_.out (by kernel_rfl)) (fun _ _ _ h => h) (Or.inr ⟨by rfl, rfl⟩) ?_ ?_
     rotate_left
     ·simp only [Act.put, List.setIfInBounds_toArray, List.set_cons_zero, List.set_cons_succ, i64_w, i32_w]
      rfl
     refine pure_ (i := 15) (N := some 72) (v := undef) (a' := ?_) #[Tt, Tt, Tt, Tt, Tt, Tt, Tt, Tt, Tt, Tt, Tt, Tt, Tt, Tt, Tt, Tt, Ff, Ff, Ff, Ff, Ff, Ff, Ff, Ff, Ff] rfl rfl (any_of HT_.out (by kernel_rfl)) (fun _ _ _ h => h) (Or.inr ⟨by rfl, rfl⟩) ?_ ?_
     rotate_left
     ·simp only [Act.put, List.setIfInBounds_toArray, List.set_cons_zero, List.set_cons_succ, i64_w, i32_w]
      rfl
     refine pure_ (i := 16) (N := some 73) (v := undef) (a' := ?_) #[Tt, Tt, Tt, Tt, Tt, Tt, Tt, Tt, Tt, Tt, Tt, Tt, Tt, Tt, Tt, Tt, Tt, Ff, Ff, Ff, Ff, Ff, Ff, Ff, Ff] rfl rfl (any_of HT_.out (by kernel_rfl)) (fun _ _ _ h => h) (Or.inr ⟨by rfl, rfl⟩) ?_ ?_
     rotate_left
     ·simp only [Act.put, List.setIfInBounds_toArray, List.set_cons_zero, List.set_cons_succ, i64_w, i32_w]
      rfl
     refine pure_ (i := 17) (N := some 74) (v := undef) (a' := ?_) #[Tt, Tt, Tt, Tt, Tt, Tt, Tt, Tt, Tt, Tt, Tt, Tt, Tt, Tt, Tt, Tt, Tt, Tt, Ff, Ff, Ff, Ff, Ff, Ff, Ff] rfl rfl (any_of HT_.out (by kernel_rfl)) (fun _ _ _ h => h) (Or.inr ⟨by rfl, rfl⟩) ?_ ?_
     rotate_left
     ·simp only [Act.put, List.setIfInBounds_toArray, List.set_cons_zero, List.set_cons_succ, i64_w, i32_w]
      rfl
     refine pure_ (i := 18) (N := some 75) (v := undef) (a' := ?_) #[Tt, Tt, Tt, Tt, Tt, Tt, Tt, Tt, Tt, Tt, Tt, Tt, Tt, Tt, Tt, Tt, Tt, Tt, Tt, Ff, Ff, Ff, Ff, Ff, Ff] rfl rfl (any_of HT_.out (by kernel_rfl)) (fun _ _ _ h => h) (Or.inr ⟨by rfl, rfl⟩) ?_ ?_
     rotate_left
     ·simp only [Act.put, List.setIfInBounds_toArray, List.set_cons_zero, List.set_cons_succ, i64_w, i32_w]
      rfl
     refine pure_ (i := 19) (N := some 76) (v := undef) (a' := ?_) #[Tt, Tt, Tt, Tt, Tt, Tt, Tt, Tt, Tt, Tt, Tt, Tt, Tt, Tt, Tt, Tt, Tt, Tt, Tt, Tt, Ff, Ff, Ff, Ff, Ff] rfl rfl (any_of HT_.out (by kernel_rfl)) (fun _ _ _ h => h) (Or.inr ⟨by rfl, rfl⟩) ?_ ?_
     rotate_left
     ·simp only [Act.put, List.setIfInBounds_toArray, List.set_cons_zero, List.set_cons_succ, i64_w, i32_w]
      rfl
     refine pure_ (i := 20) (N := some 77) (v := undef) (a' := ?_) #[Tt, Tt, Tt, Tt, Tt, Tt, Tt, Tt, Tt, Tt, Tt, Tt, Tt, Tt, Tt, Tt, Tt, Tt, Tt, Tt, Tt, Ff, Ff, Ff, Ff] rfl rfl (any_of HT_.out (by kernel_rfl)) (fun _ _ _ h => h) (Or.inr ⟨by rfl, rfl⟩) ?_ ?_
     rotate_left
     ·simp only [Act.put, List.setIfInBounds_toArray, List.set_cons_zero, List.set_cons_succ, i64_w, i32_w]
      rfl
     refine pure_ (i := 21) (N := some 78) (v := undef) (a' := ?_) #[Tt, Tt, Tt, Tt, Tt, Tt, Tt, Tt, Tt, Tt, Tt, Tt, Tt, Tt, Tt, Tt, Tt, Tt, Tt, Tt, Tt, Tt, Ff, Ff, Ff] rfl rfl (any_of HT_.out (by kernel_rfl)) (fun _ _ _ h => h) (Or.inr ⟨by rfl, rfl⟩) ?_ ?_
     rotate_left
     ·simp only [Act.put, List.setIfInBounds_toArray, List.set_cons_zero, List.set_cons_succ, i64_w, i32_w]
      rfl
     refine pure_ (i := 22) (N := some 79) (v := undef) (a' := ?_) #[Tt, Tt, Tt, Tt, Tt, Tt, Tt, Tt, Tt, Tt, Tt, Tt, Tt, Tt, Tt, Tt, Tt, Tt, Tt, Tt, Tt, Tt, Tt, Ff, Ff] rfl rfl (any_of HT_.out (by kernel_rfl)) (fun _ _ _ h => h) (Or.inr ⟨by rfl, rfl⟩) ?_ ?_
     rotate_left
     ·simp only [Act.put, List.setIfInBounds_toArray, List.set_cons_zero, List.set_cons_succ, i64_w, i32_w]
      rfl
     refine pure_ (i := 23) (N := some 80) (v := undef) (a' := ?_) #[Tt, Tt, Tt, Tt, Tt, Tt, Tt, Tt, Tt, Tt, Tt, Tt, Tt, Tt, Tt, Tt, Tt, Tt, Tt, Tt, Tt, Tt, Tt, Tt, Ff] rfl rfl (any_of HT_.out (by kernel_rfl)) (fun _ _ _ h => h) (Or.inr ⟨by rfl, rfl⟩) ?_ ?_
     rotate_left
     ·simp only [Act.put, List.setIfInBounds_toArray, List.set_cons_zero, List.set_cons_succ, i64_w, i32_w]
      rfl
     refine pure_ (i := 24) (N := some 81) (v := ?_) (a' := ?_) #[Tt, Tt, Tt, Tt, Tt, Tt, Tt, Tt, Tt, Tt, Tt, Tt, Tt, Tt, Tt, Tt, Tt, Tt, Tt, Tt, Tt, Tt, Tt, Tt, Tt] rfl rfl (any_of HT_.out (by kernel_rfl)) (fun _ _ _ h => h) (Or.inl ⟨by rfl, ?_⟩) ?_ ?_
     rotate_left
     ·intro w'
      go_simp
      with_reducible rfl
     rotate_left
     ·simp only [Act.put, List.setIfInBounds_toArray, List.set_cons_zero, List.set_cons_succ, i64_w, i32_w]
      rfl
     refine done_ (done_of HT_.out (by kernel_rfl)) ?_
     try go_wp2
     go_meet
     case rel => exact ⟨_, (true), (by first | rfl | (simp; done) | (simp [*]; done)), H', ⟨by have := HJ11.out; first | omega | exact Nat.le_refl _⟩, ⟨by (with_reducible repeat (first | apply Kd.V_alloc | apply Kd.V_drewN | apply Kd.V_drew)); exact HO_366001.out⟩, ⟨by (with_reducible repeat (first | refine cn ?_ _ | refine cd ?_ | refine ca ?_ _)); exact BK360.out⟩, ⟨by (with_reducible repeat (first | refine cn ?_ _ | refine cd ?_ | refine ca ?_ _)); exact BK365.out⟩, ⟨by (with_reducible repeat (first | refine cn ?_ _ | refine cd ?_ | refine ca ?_ _)); exact BK376.out⟩, ⟨by (with_reducible repeat (first | refine cn ?_ _ | refine cd ?_ | refine ca ?_ _)); exact BK383.out⟩, ⟨by (with_reducible repeat (first | refine cn ?_ _ | refine cd ?_ | refine ca ?_ _)); exact BK394.out⟩, ⟨by repeat (first | (with_reducible first | exact HB.out | apply qa | apply qn | apply qd | refine qs ?_ GE360.out | refine qs ?_ GE365.out | refine qs ?_ GE376.out | refine qs ?_ GE383.out | refine qs ?_ GE394.out) | exact HB.out)⟩⟩
    subst c62
    have H1 : ((parquetref01_Small.f kj11 t395).bind fun bt409 => ((parquetref01_Num_Cmp.f kj11 bt409.1 bt409.2 t361 t362).bind fun t413 => (if t413 = 0 then (parquetlaw01_WideOnes.j1 kj11 a1 t393 t396 t402 t403 false a0_0 a0_1 a0_2 a0_3 a0_4 t361 t362 t370 t371 t372 t373 t374 t377 t378 t379 t380 t381 t388 t389 t390 t391 t392) else (parquetlaw01_WideOnes.j1 kj11 a1 t393 t396 t402 t403 true a0_0 a0_1 a0_2 a0_3 a0_4 t361 t362 t370 t371 t372 t373 t374 t377 t378 t379 t380 t381 t388 t389 t390 t391 t392)))) = some r := by rw [if_pos rfl] at H; exact H
    clear H
    have H := H1
    clear H1
    replace H := Option.bind_eq_some_iff.mp H
    obtain ⟨⟨t409, t410⟩, A630, H⟩ := H
    try dsimp only at H
    have A63 := Aside0.mk A630
    clear A630
    replace H := Option.bind_eq_some_iff.mp H
    obtain ⟨t413, A640, H⟩ := H
    try dsimp only at H
    have A64 := Aside0.mk A640
    clear A640
    by_cases c65 : t413 = 0
    rotate_left
    ·rw [if_neg c65] at H
     have c65b0 : (t413 == 0) = false := beq_eq_false_iff_ne.mpr c65
     have c65b1 : (t413 != 0) = true := bne_iff_ne.mpr c65
     have H' := Aside0.mk H
     clear H
     try go_wp2
     have n0_ := Aside0.mk (Kd.V_drew HO_366001.out)
     have n1_ := Aside0.mk (blk_drew BK360.out)
     have n2_ := Aside0.mk (blk_drew BK365.out)
     have n3_ := Aside0.mk (blk_drew BK376.out)
     have n4_ := Aside0.mk (blk_drew BK383.out)
     have n5_ := Aside0.mk (blk_drew BK394.out)
     have n6_ := Aside0.mk (below_drew1 HB.out)
     clear HO_366001
     clear BK360
     clear BK365
     clear BK376
     clear BK383
     clear BK394
     clear HB
     have HO_366001 := n0_
     have BK360 := n1_
     have BK365 := n2_
     have BK376 := n3_
     have BK383 := n4_
     have BK394 := n5_
     have HB := n6_
     clear n0_ n1_ n2_ n3_ n4_ n5_ n6_
     refine start_ (n := 25) (S := fun w' => w'.cell? ⟨gb365, 0, none⟩ = some (.bool t361) ∧ w'.cell? ⟨gb365, 1, none⟩ = some (.slice Ao19 t362.length co19)) (ds := []) #[Ff, Ff, Ff, Ff, Ff, Ff, Ff, Ff, Ff, Ff, Ff, Ff, Ff, Ff, Ff, Ff, Ff, Ff, Ff, Ff, Ff, Ff, Ff, Ff, Ff] (by kernel_rfl) rfl rfl ⟨(blk_cell BK365.out 0).trans rfl, (blk_cell BK365.out 1).trans rfl⟩ (fun hHeld => ?_); refine with_tabW parquetlaw01_WideOnes.tab8 parquetlaw01_WideOnes.bits8 (fun HT_ HW_ => ?_)
     generalize wc.drew = w70 at HO_366001 BK360 BK365 BK376 BK383 BK394 HB hHeld ⊢
     refine pure_ (i := 0) (N := some 57) (v := ?_) (a' := ?_) #[Tt, Ff, Ff, Ff, Ff, Ff, Ff, Ff, Ff, Ff, Ff, Ff, Ff, Ff, Ff, Ff, Ff, Ff, Ff, Ff, Ff, Ff, Ff, Ff, Ff] rfl rfl (any_of HT_.out (by kernel_rfl)) (fun _ _ _ h => h) (Or.inl ⟨by rfl, ?_⟩) ?_ ?_
     rotate_left
     ·intro w'
      go_simp
      with_reducible rfl
     rotate_left
     ·simp only [Act.put, List.setIfInBounds_toArray, List.set_cons_zero, List.set_cons_succ, i64_w, i32_w]
      rfl
     refine pure_ (i := 1) (N := some 58) (v := ?_) (a' := ?_) #[Tt, Tt, Ff, Ff, Ff, Ff, Ff, Ff, Ff, Ff, Ff, Ff, Ff, Ff, Ff, Ff, Ff, Ff, Ff, Ff, Ff, Ff, Ff, Ff, Ff] rfl rfl (any_of HT_.out (by kernel_rfl)) (fun _ _ _ h => h) (Or.inl ⟨by rfl, ?_⟩) ?_ ?_
     rotate_left
     ·intro w'
      go_simp
      with_reducible rfl
     rotate_left
     ·simp only [Act.put, List.setIfInBounds_toArray, List.set_cons_zero, List.set_cons_succ, i64_w, i32_w]
      rfl
     refine pure_ (i := 2) (N := some 59) (v := ?_) (a' := ?_) #[Tt, Tt, Tt, Ff, Ff, Ff, Ff, Ff, Ff, Ff, Ff, Ff, Ff, Ff, Ff, Ff, Ff, Ff, Ff, Ff, Ff, Ff, Ff, Ff, Ff] rfl rfl (any_of HT_.out (by kernel_rfl)) (fun _ _ _ h => h) (Or.inl ⟨by rfl, ?_⟩) ?_ ?_
     rotate_left
     ·intro w'
      go_simp
      with_reducible rfl
     rotate_left
     ·simp only [Act.put, List.setIfInBounds_toArray, List.set_cons_zero, List.set_cons_succ, i64_w, i32_w]
      rfl
     refine pure_ (i := 3) (N := some 60) (v := ?_) (a' := ?_) #[Tt, Tt, Tt, Tt, Ff, Ff, Ff, Ff, Ff, Ff, Ff, Ff, Ff, Ff, Ff, Ff, Ff, Ff, Ff, Ff, Ff, Ff, Ff, Ff, Ff] rfl rfl (any_of HT_.out (by kernel_rfl)) (fun _ _ _ h => h) (Or.inl ⟨by rfl, ?_⟩) ?_ ?_
     rotate_left
     ·intro w'
      go_simp
      with_reducible rfl
     rotate_left
     ·simp only [Act.put, List.setIfInBounds_toArray, List.set_cons_zero, List.set_cons_succ, i64_w, i32_w]
      rfl
     refine pure_ (i := 4) (N := some 61) (v := ?_) (a' := ?_) #[Tt, Tt, Tt, Tt, Tt, Ff, Ff, Ff, Ff, Ff, Ff, Ff, Ff, Ff, Ff, Ff, Ff, Ff, Ff, Ff, Ff, Ff, Ff, Ff, Ff] rfl rfl (any_of HT_.out (by kernel_rfl)) (fun _ _ _ h => h) (Or.inl ⟨by rfl, ?_⟩) ?_ ?_
     rotate_left
     ·intro w'
      go_simp
      with_reducible rfl
     rotate_left
     ·simp only [Act.put, List.setIfInBounds_toArray, List.set_cons_zero, List.set_cons_succ, i64_w, i32_w]
      rfl
     refine pure_ (i := 5) (N := some 62) (v := ?_) (a' := ?_) #[Tt, Tt, Tt, Tt, Tt, Tt, Ff, Ff, Ff, Ff, Ff, Ff, Ff, Ff, Ff, Ff, Ff, Ff, Ff, Ff, Ff, Ff, Ff, Ff, Ff] rfl rfl (any_of HT_.out (by kernel_rfl)) (fun _ _ _ h => h) (Or.inl ⟨by rfl, ?_⟩) ?_ ?_
     rotate_left
     ·intro w'
      go_simp
      with_reducible rfl
     rotate_left
     ·simp only [Act.put, List.setIfInBounds_toArray, List.set_cons_zero, List.set_cons_succ, i64_w, i32_w]
      rfl
     refine pure_ (i := 6) (N := some 63) (v := ?_) (a' := ?_) #[Tt, Tt, Tt, Tt, Tt, Tt, Tt, Ff, Ff, Ff, Ff, Ff, Ff, Ff, Ff, Ff, Ff, Ff, Ff, Ff, Ff, Ff, Ff, Ff, Ff] rfl rfl (any_of HT_.out (by kernel_rfl)) (fun _ _ _ h => h) (Or.inl ⟨by rfl, ?_⟩) ?_ ?_
     rotate_left
     ·intro w'
      go_simp
      with_reducible rfl
     rotate_left
     ·simp only [Act.put, List.setIfInBounds_toArray, List.set_cons_zero, List.set_cons_succ, i64_w, i32_w]
      rfl
     refine take_ (i := 8) (N := some 65) (v := ?_) (a' := ?_) #[Tt, Tt, Tt, Tt, Tt, Tt, Tt, Ff, Tt, Ff, Ff, Ff, Ff, Ff, Ff, Ff, Ff, Ff, Ff, Ff, Ff, Ff, Ff, Ff, Ff] rfl rfl (take_ofW HT_.out HW_.out (by kernel_rfl)) (fun _ _ _ h => h) (Or.inl ⟨by rfl, ?_⟩) hHeld ?_ ?_
     rotate_left
     ·rintro w' ⟨s0, s1⟩
      go_simp
      with_reducible rfl
     rotate_left
     ·simp only [Act.put, List.setIfInBounds_toArray, List.set_cons_zero, List.set_cons_succ, i64_w, i32_w]
      rfl
     refine one_ (i := 7) (N := some 64) #[Tt, Tt, Tt, Tt, Tt, Tt, Tt, Tt, Tt, Ff, Ff, Ff, Ff, Ff, Ff, Ff, Ff, Ff, Ff, Ff, Ff, Ff, Ff, Ff, Ff] rfl rfl (one_of HT_.out (by kernel_rfl)) (by decide) (fun K hK => ?_)
     refine goes_ Try.func26 (by kernel_rfl) rfl #[.int .i64 t395] (by rfl) rfl rfl (by (try simp only [List.map_toArray, List.map_cons, List.map_nil]); first | done | rfl | (simp only [List.length_drop, List.length_take]; rfl)) ?_
     with_reducible refine (parquetref01_Small.calls kj11 t395 t409 t410 _ A63.out).mono ?_
     rintro e w71 ⟨v411, rfl, ho0, hb⟩
     refine ⟨_, rfl, ?_⟩
     have n0_ := Aside0.mk (Kd.V_below (by (with_reducible repeat (first | apply Kd.V_alloc | apply Kd.V_drewN | apply Kd.V_drew)); exact HO_366001.out) hb)
     have n1_ := Aside0.mk (Kd.V_lower (Kd.V_mono (ok' := fun k_ => k_ ≠ gb360 ∧ k_ ≠ gb365 ∧ k_ ≠ gb376 ∧ k_ ≠ gb383 ∧ k_ ≠ gb394) ho0 (fun k_ hk_ => ⟨(Kd.freshB (g := gb360) (o := .cells #[.bool a0_0, .int .u64 a0_1, .int .u64 a0_2, .int .u64 a0_3, .int .u64 a0_4] 27 (0, 0)) (by exact lb BK360.out) k_ hk_), (Kd.freshB (g := gb365) (o := .cells #[.bool t361, .slice Ao19 t362.length co19] 38 (0, 0)) (by exact lb BK365.out) k_ hk_), (Kd.freshB (g := gb376) (o := .cells #[.bool t370, .int .u64 t371, .int .u64 t372, .int .u64 t373, .int .u64 t374] 27 (0, 0)) (by exact lb BK376.out) k_ hk_), (Kd.freshB (g := gb383) (o := .cells #[.bool t377, .int .u64 t378, .int .u64 t379, .int .u64 t380, .int .u64 t381] 27 (0, 0)) (by exact lb BK383.out) k_ hk_), (Kd.freshB (g := gb394) (o := .cells #[.bool t388, .int .u64 t389, .int .u64 t390, .int .u64 t391, .int .u64 t392] 27 (0, 0)) (by exact lb BK394.out) k_ hk_)⟩)) (below_size (by repeat (first | (with_reducible first | exact HB.out | apply qa | apply qn | apply qd | refine qs ?_ GE360.out | refine qs ?_ GE365.out | refine qs ?_ GE376.out | refine qs ?_ GE383.out | refine qs ?_ GE394.out) | exact HB.out))))
     have n2_ := bb BK360 hb
     have n3_ := bb BK365 hb
     have n4_ := bb BK376 hb
     have n5_ := bb BK383 hb
     have n6_ := bb BK394 hb
     have n7_ := Aside0.mk (below_step (by repeat (first | (with_reducible first | exact HB.out | apply qa | apply qn | apply qd | refine qs ?_ GE360.out | refine qs ?_ GE365.out | refine qs ?_ GE376.out | refine qs ?_ GE383.out | refine qs ?_ GE394.out) | exact HB.out)) hb)
     clear HO_366001
     clear BK360
     clear BK365
     clear BK376
     clear BK383
     clear BK394
     clear HB
     have HO_366001 := n0_
     have HO412 := n1_
     have BK360 := n2_
     have BK365 := n3_
     have BK376 := n4_
     have BK383 := n5_
     have BK394 := n6_
     have HB := n7_
     clear n0_ n1_ n2_ n3_ n4_ n5_ n6_ n7_
     (try clear hb)
     (try clear hb2)
     (try clear hk)
     (try clear hi)
     (try clear ho0)
     obtain ⟨Ao72, co72, eo72⟩ := Kd.V_slice HO412.out
     (first | subst eo72 | (injection eo72 with f1_ f2_ f3_; have f4_ := f1_.symm; have f5_ := f3_.symm; clear f1_ f2_ f3_; subst f4_; subst f5_))
     refine hK.out _ _ ⟨(blk_cell BK365.out 0).trans rfl, (blk_cell BK365.out 1).trans rfl⟩ (fun hHeld => ?_)
     clear hK K
     refine norm_ (a' := ?_) ?_ ?_
     rotate_left
     ·show Act.put _ (some 64) _ = _
      simp only [Act.put, List.setIfInBounds_toArray, List.set_cons_zero, List.set_cons_succ, i64_w, i32_w]
      rfl
     refine one_ (i := 9) (N := some 66) #[Tt, Tt, Tt, Tt, Tt, Tt, Tt, Tt, Tt, Tt, Ff, Ff, Ff, Ff, Ff, Ff, Ff, Ff, Ff, Ff, Ff, Ff, Ff, Ff, Ff] rfl rfl (one_of HT_.out (by kernel_rfl)) (by decide) (fun K hK => ?_)
     refine goes_ Try.func27 (by kernel_rfl) rfl #[.agg #[.bool t409, .slice Ao72 t410.length co72], .agg #[.bool t361, .slice Ao19 t362.length co19]] (by rfl) rfl rfl (by (try simp only [List.map_toArray, List.map_cons, List.map_nil]); first | done | rfl | (simp only [List.length_drop, List.length_take]; rfl)) ?_
     with_reducible refine (parquetref01_Num_Cmp.calls kj11 t409 _ _ t410 t361 _ _ t362 t413 _ ?side1 ?side2 ?side3 ?side4 A64.out).mono ?_
     (case side1 => repeat (first | exact (Kd.V_reads' HO412.out).2.2 | (with_reducible refine Kd.C_alloc ?_ _) | (with_reducible refine Kd.C_drewN ?_ _) | (with_reducible refine Kd.C_drew ?_)))
     (case side2 => exact (Kd.V_reads' HO412.out).2.1)
     (case side3 => repeat (first | exact (Kd.V_reads' HO_366001.out).2.2 | (with_reducible refine Kd.C_alloc ?_ _) | (with_reducible refine Kd.C_drewN ?_ _) | (with_reducible refine Kd.C_drew ?_)))
     (case side4 => exact (Kd.V_reads' HO_366001.out).2.1)
     rintro e w73 ⟨rfl, hb⟩
     refine ⟨_, rfl, ?_⟩
     have n0_ := Aside0.mk (Kd.V_below (by (with_reducible repeat (first | apply Kd.V_alloc | apply Kd.V_drewN | apply Kd.V_drew)); exact HO_366001.out) hb)
     have n1_ := Aside0.mk (Kd.V_below (by (with_reducible repeat (first | apply Kd.V_alloc | apply Kd.V_drewN | apply Kd.V_drew)); exact HO412.out) hb)
     have n2_ := bb BK360 hb
     have n3_ := bb BK365 hb
     have n4_ := bb BK376 hb
     have n5_ := bb BK383 hb
     have n6_ := bb BK394 hb
     have n7_ := Aside0.mk (below_step (by repeat (first | (with_reducible first | exact HB.out | apply qa | apply qn | apply qd | refine qs ?_ GE360.out | refine qs ?_ GE365.out | refine qs ?_ GE376.out | refine qs ?_ GE383.out | refine qs ?_ GE394.out) | exact HB.out)) hb)
     clear HO_366001
     clear HO412
     clear BK360
     clear BK365
     clear BK376
     clear BK383
     clear BK394
     clear HB
     have HO_366001 := n0_
     have HO412 := n1_
     have BK360 := n2_
     have BK365 := n3_
     have BK376 := n4_
     have BK383 := n5_
     have BK394 := n6_
     have HB := n7_
     clear n0_ n1_ n2_ n3_ n4_ n5_ n6_ n7_
     (try clear hb)
     (try clear hb2)
     (try clear hk)
     (try clear hi)
     refine hK.out _ _ ⟨(blk_cell BK365.out 0).trans rfl, (blk_cell BK365.out 1).trans rfl⟩ (fun hHeld => ?_)
     clear hK K
     refine norm_ (a' := ?_) ?_ ?_
     rotate_left
     ·show Act.put _ (some 66) _ = _
      simp only [Act.put, List.setIfInBounds_toArray, List.set_cons_zero, List.set_cons_succ, i64_w, i32_w]
      rfl
     refine pure_ (i := 10) (N := some 67) (v := ?_) (a' := ?_) #[Tt, Tt, Tt, Tt, Tt, Tt, Tt, Tt, Tt, Tt, Tt, Ff, Ff, Ff, Ff, Ff, Ff, Ff, Ff, Ff, Ff, Ff, Ff, Ff, Ff] rfl rfl (any_of HT_.out (by kernel_rfl)) (fun _ _ _ h => h) (Or.inl ⟨by rfl, ?_⟩) ?_ ?_
     rotate_left
     ·intro w'
      go_simp
      with_reducible rfl
     rotate_left
     ·simp only [Act.put, List.setIfInBounds_toArray, List.set_cons_zero, List.set_cons_succ, i64_w, i32_w]
      rfl
     refine pure_ (i := 11) (N := some 68) (v := ?_) (a' := ?_) #[Tt, Tt, Tt, Tt, Tt, Tt, Tt, Tt, Tt, Tt, Tt, Tt, Ff, Ff, Ff, Ff, Ff, Ff, Ff, Ff, Ff, Ff, Ff, Ff, Ff] rfl rfl (any_of HT_.out (by kernel_rfl)) (fun _ _ _ h => h) (Or.inl ⟨by rfl, ?_⟩) ?_ ?_
     rotate_left
     ·intro w'
      go_simp
      with_reducible rfl
     rotate_left
     ·simp only [Act.put, List.setIfInBounds_toArray, List.set_cons_zero, List.set_cons_succ, i64_w, i32_w]
      rfl
     refine pure_ (i := 12) (N := some 69) (v := ?_) (a' := ?_) #[Tt, Tt, Tt, Tt, Tt, Tt, Tt, Tt, Tt, Tt, Tt, Tt, Tt, Ff, Ff, Ff, Ff, Ff, Ff, Ff, Ff, Ff, Ff, Ff, Ff] rfl rfl (any_of HT_.out (by kernel_rfl)) (fun _ _ _ h => h) (Or.inl ⟨by rfl, ?_⟩) ?_ ?_
     rotate_left
     ·intro w'
      go_simp
      with_reducible rfl
     rotate_left
     ·simp only [Act.put, List.setIfInBounds_toArray, List.set_cons_zero, List.set_cons_succ, i64_w, i32_w]
      rfl
     refine pure_ (i := 13) (N := some 70) (v := ?_) (a' := ?_) #[Tt, Tt, Tt, Tt, Tt, Tt, Tt, Tt, Tt, Tt, Tt, Tt, Tt, Tt, Ff, Ff, Ff, Ff, Ff, Ff, Ff, Ff, Ff, Ff, Ff] rfl rfl (any_of HT_.out (by kernel_rfl)) (fun _ _ _ h => h) (Or.inl ⟨by rfl, ?_⟩) ?_ ?_
     rotate_left
     ·intro w'
      go_simp
      with_reducible rfl
     rotate_left
     ·simp only [Act.put, List.setIfInBounds_toArray, List.set_cons_zero, List.set_cons_succ, i64_w, i32_w]
      rfl
     refine pure_ (i := 14) (N := some 71) (v := undef) (a' := ?_) #[Tt, Tt, Tt, Tt, Tt, Tt, Tt, Tt, Tt, Tt, Tt, Tt, Tt, Tt, Tt, Ff, Ff, Ff, Ff, Ff, Ff, Ff, Ff, Ff, Ff] rfl rfl (any_of HT_.out (by kernel_rfl)) (fun _ _ _ h => h) (Or.inr ⟨by rfl, rfl⟩) ?_ ?_
     rotate_left
     ·simp only [Act.put, List.setIfInBounds_toArray, List.set_cons_zero, List.set_cons_succ, i64_w, i32_w]
      rfl
     refine pure_ (i := 15) (N := some 72) (v := undef) (a' := ?_) #[Tt, Tt, Tt, Tt, Tt, Tt, Tt, Tt, Tt, Tt, Tt, Tt, Tt, Tt, Tt, Tt, Ff, Ff, Ff, Ff, Ff, Ff, Ff, Ff, Ff] rfl rfl (any_of HT_.out (by kernel_rfl)) (fun _ _ _ h => h) (Or.inr ⟨by rfl, rfl⟩) ?_ ?_
     rotate_left
     ·simp only [Act.put, List.setIfInBounds_toArray, List.set_cons_zero, List.set_cons_succ, i64_w, i32_w]
      rfl
     refine pure_ (i := 16) (N := some 73) (v := undef) (a' := ?_) #[Tt, Tt, Tt, Tt, Tt, Tt, Tt, Tt, Tt, Tt, Tt, Tt, Tt, Tt, Tt, Tt, Tt, Ff, Ff, Ff, Ff, Ff, Ff, Ff, Ff] rfl rfl (any_of HT_.out (by kernel_rfl)) (fun _ _ _ h => h) (Or.inr ⟨by rfl, rfl⟩) ?_ ?_
     rotate_left
     ·simp only [Act.put, List.setIfInBounds_toArray, List.set_cons_zero, List.set_cons_succ, i64_w, i32_w]
      rfl
     refine pure_ (i := 17) (N := some 74) (v := undef) (a' := ?_) #[Tt, Tt, Tt, Tt, Tt, Tt, Tt, Tt, Tt, Tt, Tt, Tt, Tt, Tt, Tt, Tt, Tt, Tt, Ff, Ff, Ff, Ff, Ff, Ff, Ff] rfl rfl (any_of HT_.out (by kernel_rfl)) (fun _ _ _ h => h) (Or.inr ⟨by rfl, rfl⟩) ?_ ?_
     rotate_left
     ·simp only [Act.put, List.setIfInBounds_toArray, List.set_cons_zero, List.set_cons_succ, i64_w, i32_w]
      rfl
     refine pure_ (i := 18) (N := some 75) (v := undef) (a' := ?_) #[Tt, Tt, Tt, Tt, Tt, Tt, Tt, Tt, Tt, Tt, Tt, Tt, Tt, Tt, Tt, Tt, Tt, Tt, Tt, Ff, Ff, Ff, Ff, Ff, Ff] rfl rfl (any_of HT_.out (by kernel_rfl)) (fun _ _ _ h => h) (Or.inr ⟨by rfl, rfl⟩) ?_ ?_
     rotate_left
     ·simp only [Act.put, List.setIfInBounds_toArray, List.set_cons_zero, List.set_cons_succ, i64_w, i32_w]
      rfl
     refine pure_ (i := 19) (N := some 76) (v := undef) (a' := ?_) #[Tt, Tt, Tt, Tt, Tt, Tt, Tt, Tt, Tt, Tt, Tt, Tt, Tt, Tt, Tt, Tt, Tt, Tt, Tt, Tt, Ff, Ff, Ff, Ff, Ff] rfl rfl (any_of HT_.out (by kernel_rfl)) (fun _ _ _ h => h) (Or.inr ⟨by rfl, rfl⟩) ?_ ?_
     rotate_left
     ·simp only [Act.put, List.setIfInBounds_toArray, List.set_cons_zero, List.set_cons_succ, i64_w, i32_w]
      rfl
     refine pure_ (i := 20) (N := some 77) (v := undef) (a' := ?_) #[Tt, Tt, Tt, Tt, Tt, Tt, Tt, Tt, Tt, Tt, Tt, Tt, Tt, Tt, Tt, Tt, Tt, Tt, Tt, Tt, Tt, Ff, Ff, Ff, Ff] rfl rfl (any_of HT_.out (by kernel_rfl)) (fun _ _ _ h => h) (Or.inr ⟨by rfl, rfl⟩) ?_ ?_
     rotate_left
     ·simp only [Act.put, List.setIfInBounds_toArray, List.set_cons_zero, List.set_cons_succ, i64_w, i32_w]
      rfl
     refine pure_ (i := 21) (N := some 78) (v := undef) (a' := ?_) #[Tt, Tt, Tt, Tt, Tt, Tt, Tt, Tt, Tt, Tt, Tt, Tt, Tt, Tt, Tt, Tt, Tt, Tt, Tt, Tt, Tt, Tt, Ff, Ff, Ff] rfl rfl (any_of HT_.out (by kernel_rfl)) (fun _ _ _ h => h) (Or.inr ⟨by rfl, rfl⟩) ?_ ?_
     rotate_left
     ·simp only [Act.put, List.setIfInBounds_toArray, List.set_cons_zero, List.set_cons_succ, i64_w, i32_w]
      rfl
     refine pure_ (i := 22) (N := some 79) (v := undef) (a' := ?_) #[Tt, Tt, Tt, Tt, Tt, Tt, Tt, Tt, Tt, Tt, Tt, Tt, Tt, Tt, Tt, Tt, Tt, Tt, Tt, Tt, Tt, Tt, Tt, Ff, Ff] rfl rfl (any_of HT_.out (by kernel_rfl)) (fun _ _ _ h => h) (Or.inr ⟨by rfl, rfl⟩) ?_ ?_
     rotate_left
     ·simp only [Act.put, List.setIfInBounds_toArray, List.set_cons_zero, List.set_cons_succ, i64_w, i32_w]
      rfl
     refine pure_ (i := 23) (N := some 80) (v := undef) (a' := ?_) #[Tt, Tt, Tt, Tt, Tt, Tt, Tt, Tt, Tt, Tt, Tt, Tt, Tt, Tt, Tt, Tt, Tt, Tt, Tt, Tt, Tt, Tt, Tt, Tt, Ff] rfl rfl (any_of HT_.out (by kernel_rfl)) (fun _ _ _ h => h) (Or.inr ⟨by rfl, rfl⟩) ?_ ?_
     rotate_left
     ·simp only [Act.put, List.setIfInBounds_toArray, List.set_cons_zero, List.set_cons_succ, i64_w, i32_w]
      rfl
     refine pure_ (i := 24) (N := some 81) (v := ?_) (a' := ?_) #[Tt, Tt, Tt, Tt, Tt, Tt, Tt, Tt, Tt, Tt, Tt, Tt, Tt, Tt, Tt, Tt, Tt, Tt, Tt, Tt, Tt, Tt, Tt, Tt, Tt] rfl rfl (any_of HT_.out (by kernel_rfl)) (fun _ _ _ h => h) (Or.inl ⟨by rfl, ?_⟩) ?_ ?_
     rotate_left
     ·intro w'
      go_simp
      with_reducible rfl
     rotate_left
     ·simp only [Act.put, List.setIfInBounds_toArray, List.set_cons_zero, List.set_cons_succ, i64_w, i32_w]
      rfl
     refine done_ (done_of HT_.out (by kernel_rfl)) ?_
     try go_wp2
     go_meet
     case rel => exact ⟨_, (true), (by first | rfl | (simp; done) | (simp [*]; done)), H', ⟨by have := HJ11.out; first | omega | exact Nat.le_refl _⟩, ⟨by (with_reducible repeat (first | apply Kd.V_alloc | apply Kd.V_drewN | apply Kd.V_drew)); exact HO_366001.out⟩, ⟨by (with_reducible repeat (first | refine cn ?_ _ | refine cd ?_ | refine ca ?_ _)); exact BK360.out⟩, ⟨by (with_reducible repeat (first | refine cn ?_ _ | refine cd ?_ | refine ca ?_ _)); exact BK365.out⟩, ⟨by (with_reducible repeat (first | refine cn ?_ _ | refine cd ?_ | refine ca ?_ _)); exact BK376.out⟩, ⟨by (with_reducible repeat (first | refine cn ?_ _ | refine cd ?_ | refine ca ?_ _)); exact BK383.out⟩, ⟨by (with_reducible repeat (first | refine cn ?_ _ | refine cd ?_ | refine ca ?_ _)); exact BK394.out⟩, ⟨by repeat (first | (with_reducible first | exact HB.out | apply qa | apply qn | apply qd | refine qs ?_ GE360.out | refine qs ?_ GE365.out | refine qs ?_ GE376.out | refine qs ?_ GE383.out | refine qs ?_ GE394.out) | exact HB.out)⟩⟩
    rw [if_pos c65] at H
    have c65b0 : (t413 == 0) = true := beq_iff_eq.mpr c65
    have c65b1 : (t413 != 0) = false := bne_eq_false_iff_eq.mpr c65
    clear c65
    have H' := Aside0.mk H
    clear H
    try go_wp2
    have n0_ := Aside0.mk (Kd.V_drew HO_366001.out)
    have n1_ := Aside0.mk (blk_drew BK360.out)
    have n2_ := Aside0.mk (blk_drew BK365.out)
    have n3_ := Aside0.mk (blk_drew BK376.out)
    have n4_ := Aside0.mk (blk_drew BK383.out)
    have n5_ := Aside0.mk (blk_drew BK394.out)
    have n6_ := Aside0.mk (below_drew1 HB.out)
    clear HO_366001
    clear BK360
    clear BK365
    clear BK376
    clear BK383
    clear BK394
    clear HB
    have HO_366001 := n0_
    have BK360 := n1_
    have BK365 := n2_
    have BK376 := n3_
    have BK383 := n4_
    have BK394 := n5_
    have HB := n6_
    clear n0_ n1_ n2_ n3_ n4_ n5_ n6_
    refine start_ (n := 25) (S := fun w' => w'.cell? ⟨gb365, 0, none⟩ = some (.bool t361) ∧ w'.cell? ⟨gb365, 1, none⟩ = some (.slice Ao19 t362.length co19)) (ds := []) #[Ff, Ff, Ff, Ff, Ff, Ff, Ff, Ff, Ff, Ff, Ff, Ff, Ff, Ff, Ff, Ff, Ff, Ff, Ff, Ff, Ff, Ff, Ff, Ff, Ff] (by kernel_rfl) rfl rfl ⟨(blk_cell BK365.out 0).trans rfl, (blk_cell BK365.out 1).trans rfl⟩ (fun hHeld => ?_); refine with_tabW parquetlaw01_WideOnes.tab8 parquetlaw01_WideOnes.bits8 (fun HT_ HW_ => ?_)
    generalize wc.drew = w66 at HO_366001 BK360 BK365 BK376 BK383 BK394 HB hHeld ⊢
    refine pure_ (i := 0) (N := some 57) (v := ?_) (a' := ?_) #[Tt, Ff, Ff, Ff, Ff, Ff, Ff, Ff, Ff, Ff, Ff, Ff, Ff, Ff, Ff, Ff, Ff, Ff, Ff, Ff, Ff, Ff, Ff, Ff, Ff] rfl rfl (any_of HT_.out (by kernel_rfl)) (fun _ _ _ h => h) (Or.inl ⟨by rfl, ?_⟩) ?_ ?_
    rotate_left
    ·intro w'
     go_simp
     with_reducible rfl
    rotate_left
    ·simp only [Act.put, List.setIfInBounds_toArray, List.set_cons_zero, List.set_cons_succ, i64_w, i32_w]
     rfl
    refine pure_ (i := 1) (N := some 58) (v := ?_) (a' := ?_) #[Tt, Tt, Ff, Ff, Ff, Ff, Ff, Ff, Ff, Ff, Ff, Ff, Ff, Ff, Ff, Ff, Ff, Ff, Ff, Ff, Ff, Ff, Ff, Ff, Ff] rfl rfl (any_of HT_.out (by kernel_rfl)) (fun _ _ _ h => h) (Or.inl ⟨by rfl, ?_⟩) ?_ ?_
    rotate_left
    ·intro w'
     go_simp
     with_reducible rfl
    rotate_left
    ·simp only [Act.put, List.setIfInBounds_toArray, List.set_cons_zero, List.set_cons_succ, i64_w, i32_w]
     rfl
    refine pure_ (i := 2) (N := some 59) (v := ?_) (a' := ?_) #[Tt, Tt, Tt, Ff, Ff, Ff, Ff, Ff, Ff, Ff, Ff, Ff, Ff, Ff, Ff, Ff, Ff, Ff, Ff, Ff, Ff, Ff, Ff, Ff, Ff] rfl rfl (any_of HT_.out (by kernel_rfl)) (fun _ _ _ h => h) (Or.inl ⟨by rfl, ?_⟩) ?_ ?_
    rotate_left
    ·intro w'
     go_simp
     with_reducible rfl
    rotate_left
    ·simp only [Act.put, List.setIfInBounds_toArray, List.set_cons_zero, List.set_cons_succ, i64_w, i32_w]
     rfl
    refine pure_ (i := 3) (N := some 60) (v := ?_) (a' := ?_) #[Tt, Tt, Tt, Tt, Ff, Ff, Ff, Ff, Ff, Ff, Ff, Ff, Ff, Ff, Ff, Ff, Ff, Ff, Ff, Ff, Ff, Ff, Ff, Ff, Ff] rfl rfl (any_of HT_.out (by kernel_rfl)) (fun _ _ _ h => h) (Or.inl ⟨by rfl, ?_⟩) ?_ ?_
    rotate_left
    ·intro w'
     go_simp
     with_reducible rfl
    rotate_left
    ·simp only [Act.put, List.setIfInBounds_toArray, List.set_cons_zero, List.set_cons_succ, i64_w, i32_w]
     rfl
    refine pure_ (i := 4) (N := some 61) (v := ?_) (a' := ?_) #[Tt, Tt, Tt, Tt, Tt, Ff, Ff, Ff, Ff, Ff, Ff, Ff, Ff, Ff, Ff, Ff, Ff, Ff, Ff, Ff, Ff, Ff, Ff, Ff, Ff] rfl rfl (any_of HT_.out (by kernel_rfl)) (fun _ _ _ h => h) (Or.inl ⟨by rfl, ?_⟩) ?_ ?_
    rotate_left
    ·intro w'
     go_simp
     with_reducible rfl
    rotate_left
    ·simp only [Act.put, List.setIfInBounds_toArray, List.set_cons_zero, List.set_cons_succ, i64_w, i32_w]
     rfl
    refine pure_ (i := 5) (N := some 62) (v := ?_) (a' := ?_) #[Tt, Tt, Tt, Tt, Tt, Tt, Ff, Ff, Ff, Ff, Ff, Ff, Ff, Ff, Ff, Ff, Ff, Ff, Ff, Ff, Ff, Ff, Ff, Ff, Ff] rfl rfl (any_of HT_.out (by kernel_rfl)) (fun _ _ _ h => h) (Or.inl ⟨by rfl, ?_⟩) ?_ ?_
    rotate_left
    ·intro w'
     go_simp
     with_reducible rfl
    rotate_left
    ·simp only [Act.put, List.setIfInBounds_toArray, List.set_cons_zero, List.set_cons_succ, i64_w, i32_w]
     rfl
    refine pure_ (i := 6) (N := some 63) (v := ?_) (a' := ?_) #[Tt, Tt, Tt, Tt, Tt, Tt, Tt, Ff, Ff, Ff, Ff, Ff, Ff, Ff, Ff, Ff, Ff, Ff, Ff, Ff, Ff, Ff, Ff, Ff, Ff] rfl rfl (any_of HT_.out (by kernel_rfl)) (fun _ _ _ h => h) (Or.inl ⟨by rfl, ?_⟩) ?_ ?_
    rotate_left
    ·intro w'
     go_simp
     with_reducible rfl
    rotate_left
    ·simp only [Act.put, List.setIfInBounds_toArray, List.set_cons_zero, List.set_cons_succ, i64_w, i32_w]
     rfl
    refine take_ (i := 8) (N := some 65) (v := ?_) (a' := ?_) #[Tt, Tt, Tt, Tt, Tt, Tt, Tt, Ff, Tt, Ff, Ff, Ff, Ff, Ff, Ff, Ff, Ff, Ff, Ff, Ff, Ff, Ff, Ff, Ff, Ff] rfl rfl (take_ofW HT_.out HW_.out (by kernel_rfl)) (fun _ _ _ h => h) (Or.inl ⟨by rfl, ?_⟩) hHeld ?_ ?_
    rotate_left
    ·rintro w' ⟨s0, s1⟩
     go_simp
     with_reducible rfl
    rotate_left
    ·simp only [Act.put, List.setIfInBounds_toArray, List.set_cons_zero, List.set_cons_succ, i64_w, i32_w]
     rfl
    refine one_ (i := 7) (N := some 64) #[Tt, Tt, Tt, Tt, Tt, Tt, Tt, Tt, Tt, Ff, Ff, Ff, Ff, Ff, Ff, Ff, Ff, Ff, Ff, Ff, Ff, Ff, Ff, Ff, Ff] rfl rfl (one_of HT_.out (by kernel_rfl)) (by decide) (fun K hK => ?_)
    refine goes_ Try.func26 (by kernel_rfl) rfl #[.int .i64 t395] (by rfl) rfl rfl (by (try simp only [List.map_toArray, List.map_cons, List.map_nil]); first | done | rfl | (simp only [List.length_drop, List.length_take]; rfl)) ?_
    with_reducible refine (parquetref01_Small.calls kj11 t395 t409 t410 _ A63.out).mono ?_
    rintro e w67 ⟨v411, rfl, ho0, hb⟩
    refine ⟨_, rfl, ?_⟩
    have n0_ := Aside0.mk (Kd.V_below (by (with_reducible repeat (first | apply Kd.V_alloc | apply Kd.V_drewN | apply Kd.V_drew)); exact HO_366001.out) hb)
    have n1_ := Aside0.mk (Kd.V_lower (Kd.V_mono (ok' := fun k_ => k_ ≠ gb360 ∧ k_ ≠ gb365 ∧ k_ ≠ gb376 ∧ k_ ≠ gb383 ∧ k_ ≠ gb394) ho0 (fun k_ hk_ => ⟨(Kd.freshB (g := gb360) (o := .cells #[.bool a0_0, .int .u64 a0_1, .int .u64 a0_2, .int .u64 a0_3, .int .u64 a0_4] 27 (0, 0)) (by exact lb BK360.out) k_ hk_), (Kd.freshB (g := gb365) (o := .cells #[.bool t361, .slice Ao19 t362.length co19] 38 (0, 0)) (by exact lb BK365.out) k_ hk_), (Kd.freshB (g := gb376) (o := .cells #[.bool t370, .int .u64 t371, .int .u64 t372, .int .u64 t373, .int .u64 t374] 27 (0, 0)) (by exact lb BK376.out) k_ hk_), (Kd.freshB (g := gb383) (o := .cells #[.bool t377, .int .u64 t378, .int .u64 t379, .int .u64 t380, .int .u64 t381] 27 (0, 0)) (by exact lb BK383.out) k_ hk_), (Kd.freshB (g := gb394) (o := .cells #[.bool t388, .int .u64 t389, .int .u64 t390, .int .u64 t391, .int .u64 t392] 27 (0, 0)) (by exact lb BK394.out) k_ hk_)⟩)) (below_size (by repeat (first | (with_reducible first | exact HB.out | apply qa | apply qn | apply qd | refine qs ?_ GE360.out | refine qs ?_ GE365.out | refine qs ?_ GE376.out | refine qs ?_ GE383.out | refine qs ?_ GE394.out) | exact HB.out))))
    have n2_ := bb BK360 hb
    have n3_ := bb BK365 hb
    have n4_ := bb BK376 hb
    have n5_ := bb BK383 hb
    have n6_ := bb BK394 hb
    have n7_ := Aside0.mk (below_step (by repeat (first | (with_reducible first | exact HB.out | apply qa | apply qn | apply qd | refine qs ?_ GE360.out | refine qs ?_ GE365.out | refine qs ?_ GE376.out | refine qs ?_ GE383.out | refine qs ?_ GE394.out) | exact HB.out)) hb)
    clear HO_366001
    clear BK360
    clear BK365
    clear BK376
    clear BK383
    clear BK394
    clear HB
    have HO_366001 := n0_
    have HO412 := n1_
    have BK360 := n2_
    have BK365 := n3_
    have BK376 := n4_
    have BK383 := n5_
    have BK394 := n6_
    have HB := n7_
    clear n0_ n1_ n2_ n3_ n4_ n5_ n6_ n7_
    (try clear hb)
    (try clear hb2)
    (try clear hk)
    (try clear hi)
    (try clear ho0)
    obtain ⟨Ao68, co68, eo68⟩ := Kd.V_slice HO412.out
    (first | subst eo68 | (injection eo68 with f1_ f2_ f3_; have f4_ := f1_.symm; have f5_ := f3_.symm; clear f1_ f2_ f3_; subst f4_; subst f5_))
    refine hK.out _ _ ⟨(blk_cell BK365.out 0).trans rfl, (blk_cell BK365.out 1).trans rfl⟩ (fun hHeld => ?_)
    clear hK K
    refine norm_ (a' := ?_) ?_ ?_
    rotate_left
    ·show Act.put _ (some 64) _ = _
     simp only [Act.put, List.setIfInBounds_toArray, List.set_cons_zero, List.set_cons_succ, i64_w, i32_w]
     rfl
    refine one_ (i := 9) (N := some 66) #[Tt, Tt, Tt, Tt, Tt, Tt, Tt, Tt, Tt, Tt, Ff, Ff, Ff, Ff, Ff, Ff, Ff, Ff, Ff, Ff, Ff, Ff, Ff, Ff, Ff] rfl rfl (one_of HT_.out (by kernel_rfl)) (by decide) (fun K hK => ?_)
    refine goes_ Try.func27 (by kernel_rfl) rfl #[.agg #[.bool t409, .slice Ao68 t410.length co68], .agg #[.bool t361, .slice Ao19 t362.length co19]] (by rfl) rfl rfl (by (try simp only [List.map_toArray, List.map_cons, List.map_nil]); first | done | rfl | (simp only [List.length_drop, List.length_take]; rfl)) ?_
    with_reducible refine (parquetref01_Num_Cmp.calls kj11 t409 _ _ t410 t361 _ _ t362 t413 _ ?side1 ?side2 ?side3 ?side4 A64.out).mono ?_
    (case side1 => repeat (first | exact (Kd.V_reads' HO412.out).2.2 | (with_reducible refine Kd.C_alloc ?_ _) | (with_reducible refine Kd.C_drewN ?_ _) | (with_reducible refine Kd.C_drew ?_)))
    (case side2 => exact (Kd.V_reads' HO412.out).2.1)
    (case side3 => repeat (first | exact (Kd.V_reads' HO_366001.out).2.2 | (with_reducible refine Kd.C_alloc ?_ _) | (with_reducible refine Kd.C_drewN ?_ _) | (with_reducible refine Kd.C_drew ?_)))
    (case side4 => exact (Kd.V_reads' HO_366001.out).2.1)
    rintro e w69 ⟨rfl, hb⟩
    refine ⟨_, rfl, ?_⟩
    have n0_ := Aside0.mk (Kd.V_below (by (with_reducible repeat (first | apply Kd.V_alloc | apply Kd.V_drewN | apply Kd.V_drew)); exact HO_366001.out) hb)
    have n1_ := Aside0.mk (Kd.V_below (by (with_reducible repeat (first | apply Kd.V_alloc | apply Kd.V_drewN | apply Kd.V_drew)); exact HO412.out) hb)
    have n2_ := bb BK360 hb
    have n3_ := bb BK365 hb
    have n4_ := bb BK376 hb
    have n5_ := bb BK383 hb
    have n6_ := bb BK394 hb
    have n7_ := Aside0.mk (below_step (by repeat (first | (with_reducible first | exact HB.out | apply qa | apply qn | apply qd | refine qs ?_ GE360.out | refine qs ?_ GE365.out | refine qs ?_ GE376.out | refine qs ?_ GE383.out | refine qs ?_ GE394.out) | exact HB.out)) hb)
    clear HO_366001
    clear HO412
    clear BK360
    clear BK365
    clear BK376
    clear BK383
    clear BK394
    clear HB
    have HO_366001 := n0_
    have HO412 := n1_
    have BK360 := n2_
    have BK365 := n3_
    have BK376 := n4_
    have BK383 := n5_
    have BK394 := n6_
    have HB := n7_
    clear n0_ n1_ n2_ n3_ n4_ n5_ n6_ n7_
    (try clear hb)
    (try clear hb2)
    (try clear hk)
    (try clear hi)
    refine hK.out _ _ ⟨(blk_cell BK365.out 0).trans rfl, (blk_cell BK365.out 1).trans rfl⟩ (fun hHeld => ?_)
    clear hK K
    refine norm_ (a' := ?_) ?_ ?_
    rotate_left
    ·show Act.put _ (some 66) _ = _
     simp only [Act.put, List.setIfInBounds_toArray, List.set_cons_zero, List.set_cons_succ, i64_w, i32_w]
     rfl
    refine pure_ (i := 10) (N := some 67) (v := ?_) (a' := ?_) #[Tt, Tt, Tt, Tt, Tt, Tt, Tt, Tt, Tt, Tt, Tt, Ff, Ff, Ff, Ff, Ff, Ff, Ff, Ff, Ff, Ff, Ff, Ff, Ff, Ff] rfl rfl (any_of HT_.out (by kernel_rfl)) (fun _ _ _ h => h) (Or.inl ⟨by rfl, ?_⟩) ?_ ?_
    rotate_left
    ·intro w'
     go_simp
     with_reducible rfl
    rotate_left
    ·simp only [Act.put, List.setIfInBounds_toArray, List.set_cons_zero, List.set_cons_succ, i64_w, i32_w]
     rfl
    refine pure_ (i := 11) (N := some 68) (v := ?_) (a' := ?_) #[Tt, Tt, Tt, Tt, Tt, Tt, Tt, Tt, Tt, Tt, Tt, Tt, Ff, Ff, Ff, Ff, Ff, Ff, Ff, Ff, Ff, Ff, Ff, Ff, Ff] rfl rfl (any_of HT_.out (by kernel_rfl)) (fun _ _ _ h => h) (Or.inl ⟨by rfl, ?_⟩) ?_ ?_
    rotate_left
    ·intro w'
     go_simp
     with_reducible rfl
    rotate_left
    ·simp only [Act.put, List.setIfInBounds_toArray, List.set_cons_zero, List.set_cons_succ, i64_w, i32_w]
     rfl
    refine pure_ (i := 12) (N := some 69) (v := ?_) (a' := ?_) #[Tt, Tt, Tt, Tt, Tt, Tt, Tt, Tt, Tt, Tt, Tt, Tt, Tt, Ff, Ff, Ff, Ff, Ff, Ff, Ff, Ff, Ff, Ff, Ff, Ff] rfl rfl (any_of HT_.out (by kernel_rfl)) (fun _ _ _ h => h) (Or.inl ⟨by rfl, ?_⟩) ?_ ?_
    rotate_left
    ·intro w'
     go_simp
     with_reducible rfl
    rotate_left
    ·simp only [Act.put, List.setIfInBounds_toArray, List.set_cons_zero, List.set_cons_succ, i64_w, i32_w]
     rfl
    refine pure_ (i := 13) (N := some 70) (v := ?_) (a' := ?_) #[Tt, Tt, Tt, Tt, Tt, Tt, Tt, Tt, Tt, Tt, Tt, Tt, Tt, Tt, Ff, Ff, Ff, Ff, Ff, Ff, Ff, Ff, Ff, Ff, Ff] rfl rfl (any_of HT_.out (by kernel_rfl)) (fun _ _ _ h => h) (Or.inl ⟨by rfl, ?_⟩) ?_ ?_
    rotate_left
    ·intro w'
     go_simp
     with_reducible rfl
    rotate_left
    ·simp only [Act.put, List.setIfInBounds_toArray, List.set_cons_zero, List.set_cons_succ, i64_w, i32_w]
     rfl
    refine pure_ (i := 14) (N := some 71) (v := ?_) (a' := ?_) #[Tt, Tt, Tt, Tt, Tt, Tt, Tt, Tt, Tt, Tt, Tt, Tt, Tt, Tt, Tt, Ff, Ff, Ff, Ff, Ff, Ff, Ff, Ff, Ff, Ff] rfl rfl (any_of HT_.out (by kernel_rfl)) (fun _ _ _ h => h) (Or.inl ⟨by rfl, ?_⟩) ?_ ?_
    rotate_left
    ·intro w'
     go_simp
     with_reducible rfl
    rotate_left
    ·simp only [Act.put, List.setIfInBounds_toArray, List.set_cons_zero, List.set_cons_succ, i64_w, i32_w]
     rfl
    refine pure_ (i := 15) (N := some 72) (v := ?_) (a' := ?_) #[Tt, Tt, Tt, Tt, Tt, Tt, Tt, Tt, Tt, Tt, Tt, Tt, Tt, Tt, Tt, Tt, Ff, Ff, Ff, Ff, Ff, Ff, Ff, Ff, Ff] rfl rfl (any_of HT_.out (by kernel_rfl)) (fun _ _ _ h => h) (Or.inl ⟨by rfl, ?_⟩) ?_ ?_
    rotate_left
    ·intro w'
     go_simp
     with_reducible rfl
    rotate_left
    ·simp only [Act.put, List.setIfInBounds_toArray, List.set_cons_zero, List.set_cons_succ, i64_w, i32_w]
     rfl
    refine pure_ (i := 16) (N := some 73) (v := ?_) (a' := ?_) #[Tt, Tt, Tt, Tt, Tt, Tt, Tt, Tt, Tt, Tt, Tt, Tt, Tt, Tt, Tt, Tt, Tt, Ff, Ff, Ff, Ff, Ff, Ff, Ff, Ff] rfl rfl (any_of HT_.out (by kernel_rfl)) (fun _ _ _ h => h) (Or.inl ⟨by rfl, ?_⟩) ?_ ?_
    rotate_left
    ·intro w'
     go_simp
     with_reducible rfl
    rotate_left
    ·simp only [Act.put, List.setIfInBounds_toArray, List.set_cons_zero, List.set_cons_succ, i64_w, i32_w]
     rfl
    refine pure_ (i := 17) (N := some 74) (v := undef) (a' := ?_) #[Tt, Tt, Tt, Tt, Tt, Tt, Tt, Tt, Tt, Tt, Tt, Tt, Tt, Tt, Tt, Tt, Tt, Tt, Ff, Ff, Ff, Ff, Ff, Ff, Ff] rfl rfl (any_of HT_.out (by kernel_rfl)) (fun _ _ _ h => h) (Or.inr ⟨by rfl, rfl⟩) ?_ ?_
    rotate_left
    ·simp only [Act.put, List.setIfInBounds_toArray, List.set_cons_zero, List.set_cons_succ, i64_w, i32_w]
     rfl
    refine pure_ (i := 18) (N := some 75) (v := undef) (a' := ?_) #[Tt, Tt, Tt, Tt, Tt, Tt, Tt, Tt, Tt, Tt, Tt, Tt, Tt, Tt, Tt, Tt, Tt, Tt, Tt, Ff, Ff, Ff, Ff, Ff, Ff] rfl rfl (any_of HT_.out (by kernel_rfl)) (fun _ _ _ h => h) (Or.inr ⟨by rfl, rfl⟩) ?_ ?_
    rotate_left
    ·simp only [Act.put, List.setIfInBounds_toArray, List.set_cons_zero, List.set_cons_succ, i64_w, i32_w]
     rfl
    refine pure_ (i := 19) (N := some 76) (v := undef) (a' := ?_) #[Tt, Tt, Tt, Tt, Tt, Tt, Tt, Tt, Tt, Tt, Tt, Tt, Tt, Tt, Tt, Tt, Tt, Tt, Tt, Tt, Ff, Ff, Ff, Ff, Ff] rfl rfl (any_of HT_.out (by kernel_rfl)) (fun _ _ _ h => h) (Or.inr ⟨by rfl, rfl⟩) ?_ ?_
    rotate_left
    ·simp only [Act.put, List.setIfInBounds_toArray, List.set_cons_zero, List.set_cons_succ, i64_w, i32_w]
     rfl
    refine pure_ (i := 20) (N := some 77) (v := undef) (a' := ?_) #[Tt, Tt, Tt, Tt, Tt, Tt, Tt, Tt, Tt, Tt, Tt, Tt, Tt, Tt, Tt, Tt, Tt, Tt, Tt, Tt, Tt, Ff, Ff, Ff, Ff] rfl rfl (any_of HT_.out (by kernel_rfl)) (fun _ _ _ h => h) (Or.inr ⟨by rfl, rfl⟩) ?_ ?_
    rotate_left
    ·simp only [Act.put, List.setIfInBounds_toArray, List.set_cons_zero, List.set_cons_succ, i64_w, i32_w]
     rfl
    refine pure_ (i := 21) (N := some 78) (v := undef) (a' := ?_) #[Tt, Tt, Tt, Tt, Tt, Tt, Tt, Tt, Tt, Tt, Tt, Tt, Tt, Tt, Tt, Tt, Tt, Tt, Tt, Tt, Tt, Tt, Ff, Ff, Ff] rfl rfl (any_of HT_.out (by kernel_rfl)) (fun _ _ _ h => h) (Or.inr ⟨by rfl, rfl⟩) ?_ ?_
    rotate_left
    ·simp only [Act.put, List.setIfInBounds_toArray, List.set_cons_zero, List.set_cons_succ, i64_w, i32_w]
     rfl
    refine pure_ (i := 22) (N := some 79) (v := undef) (a' := ?_) #[Tt, Tt, Tt, Tt, Tt, Tt, Tt, Tt, Tt, Tt, Tt, Tt, Tt, Tt, Tt, Tt, Tt, Tt, Tt, Tt, Tt, Tt, Tt, Ff, Ff] rfl rfl (any_of HT_.out (by kernel_rfl)) (fun _ _ _ h => h) (Or.inr ⟨by rfl, rfl⟩) ?_ ?_
    rotate_left
    ·simp only [Act.put, List.setIfInBounds_toArray, List.set_cons_zero, List.set_cons_succ, i64_w, i32_w]
     rfl
    refine pure_ (i := 23) (N := some 80) (v := ?_) (a' := ?_) #[Tt, Tt, Tt, Tt, Tt, Tt, Tt, Tt, Tt, Tt, Tt, Tt, Tt, Tt, Tt, Tt, Tt, Tt, Tt, Tt, Tt, Tt, Tt, Tt, Ff] rfl rfl (any_of HT_.out (by kernel_rfl)) (fun _ _ _ h => h) (Or.inl ⟨by rfl, ?_⟩) ?_ ?_
    rotate_left
    ·intro w'
     go_simp
     with_reducible rfl
    rotate_left
    ·simp only [Act.put, List.setIfInBounds_toArray, List.set_cons_zero, List.set_cons_succ, i64_w, i32_w]
     rfl
    refine pure_ (i := 24) (N := some 81) (v := ?_) (a' := ?_) #[Tt, Tt, Tt, Tt, Tt, Tt, Tt, Tt, Tt, Tt, Tt, Tt, Tt, Tt, Tt, Tt, Tt, Tt, Tt, Tt, Tt, Tt, Tt, Tt, Tt] rfl rfl (any_of HT_.out (by kernel_rfl)) (fun _ _ _ h => h) (Or.inl ⟨by rfl, ?_⟩) ?_ ?_
    rotate_left
    ·intro w'
     go_simp
     with_reducible rfl
    rotate_left
    ·simp only [Act.put, List.setIfInBounds_toArray, List.set_cons_zero, List.set_cons_succ, i64_w, i32_w]
     rfl
    refine done_ (done_of HT_.out (by kernel_rfl)) ?_
    try go_wp2
    go_meet
    case rel => exact ⟨_, (false), (by first | rfl | (simp; done) | (simp [*]; done)), H', ⟨by have := HJ11.out; first | omega | exact Nat.le_refl _⟩, ⟨by (with_reducible repeat (first | apply Kd.V_alloc | apply Kd.V_drewN | apply Kd.V_drew)); exact HO_366001.out⟩, ⟨by (with_reducible repeat (first | refine cn ?_ _ | refine cd ?_ | refine ca ?_ _)); exact BK360.out⟩, ⟨by (with_reducible repeat (first | refine cn ?_ _ | refine cd ?_ | refine ca ?_ _)); exact BK365.out⟩, ⟨by (with_reducible repeat (first | refine cn ?_ _ | refine cd ?_ | refine ca ?_ _)); exact BK376.out⟩, ⟨by (with_reducible repeat (first | refine cn ?_ _ | refine cd ?_ | refine ca ?_ _)); exact BK383.out⟩, ⟨by (with_reducible repeat (first | refine cn ?_ _ | refine cd ?_ | refine ca ?_ _)); exact BK394.out⟩, ⟨by repeat (first | (with_reducible first | exact HB.out | apply qa | apply qn | apply qd | refine qs ?_ GE360.out | refine qs ?_ GE365.out | refine qs ?_ GE376.out | refine qs ?_ GE383.out | refine qs ?_ GE394.out) | exact HB.out)⟩⟩
   case rest =>
    clear HC60
    try clear p2
    try clear c6
    try clear c7
    try clear c61
    try clear c61b0
    try clear c61b1
    try clear c62
    try clear c75
    try clear c75b0
    try clear c75b1
    obtain ⟨kq, x81_59, rfl, HA, HJ59, HO_366001, BK360, BK365, BK376, BK383, BK394, HB⟩ := hcut
    cases kq with
    | zero => exact absurd HA.out (by simp [parquetlaw01_WideOnes.j1])
    | succ kj59 =>
     have H := HA.out
     clear HA
     simp only [parquetlaw01_WideOnes.j1] at H
     by_cases c78 : x81_59 = true
     ·subst c78
      have H1 : (some false) = some r := by rw [if_pos rfl] at H; exact H
      clear H
      have H := H1
      clear H1
      exact absurd ((Option.some.inj H).trans hr_) (by decide)
     replace c78 := Bool.eq_false_iff.mpr c78
     subst c78
     have H1 : ((parquetref01_Small.f kj59 9223372036854775807).bind fun bt414 => ((parquetref01_Num_Cmp.f kj59 t361 t362 bt414.1 bt414.2).bind fun t418 => (if t418 ≤ 0 then ((parquetref01_Small.f kj59 (-9223372036854775808)).bind fun bt419 => ((parquetref01_Num_Cmp.f kj59 t361 t362 bt419.1 bt419.2).bind fun t423 => (parquetlaw01_WideOnes.j2 kj59 a1 t393 t396 t402 t403 (decide (t423 ≥ 0)) a0_0 a0_1 a0_2 a0_3 a0_4 t361 t362 t370 t371 t372 t373 t374 t377 t378 t379 t380 t381 t388 t389 t390 t391 t392))) else (parquetlaw01_WideOnes.j2 kj59 a1 t393 t396 t402 t403 false a0_0 a0_1 a0_2 a0_3 a0_4 t361 t362 t370 t371 t372 t373 t374 t377 t378 t379 t380 t381 t388 t389 t390 t391 t392)))) = some r := by rw [if_neg (show ¬ (false = true) by decide)] at H; exact H
     clear H
     have H := H1
     clear H1
     have HC79 := Aside0.mk H
     clear H
     go_upto_region 10 with (fail)
     go_cut [17] (fun v17 wc => ∃ (kq : Nat) (x17_78 : Bool), v17 = .bool x17_78 ∧ Aside0 (parquetlaw01_WideOnes.j2 kq a1 t393 t396 t402 t403 x17_78 a0_0 a0_1 a0_2 a0_3 a0_4 t361 t362 t370 t371 t372 t373 t374 t377 t378 t379 t380 t381 t388 t389 t390 t391 t392 = some r) ∧ Aside0 (kq ≤ kj59) ∧ Aside0 (Kd.V (Kd.int .i64) 3 wc w.heap.size (fun k_ => k_ ≠ gb360 ∧ k_ ≠ gb365 ∧ k_ ≠ gb376 ∧ k_ ≠ gb383 ∧ k_ ≠ gb394) (.slice Ao19 t362.length co19) t362) ∧ Aside0 (wc.heap[gb360]? = some (.cells #[.bool a0_0, .int .u64 a0_1, .int .u64 a0_2, .int .u64 a0_3, .int .u64 a0_4] 27 (0, 0))) ∧ Aside0 (wc.heap[gb365]? = some (.cells #[.bool t361, (.slice Ao19 t362.length co19)] 38 (0, 0))) ∧ Aside0 (wc.heap[gb376]? = some (.cells #[.bool t370, .int .u64 t371, .int .u64 t372, .int .u64 t373, .int .u64 t374] 27 (0, 0))) ∧ Aside0 (wc.heap[gb383]? = some (.cells #[.bool t377, .int .u64 t378, .int .u64 t379, .int .u64 t380, .int .u64 t381] 27 (0, 0))) ∧ Aside0 (wc.heap[gb394]? = some (.cells #[.bool t388, .int .u64 t389, .int .u64 t390, .int .u64 t391, .int .u64 t392] 27 (0, 0))) ∧ Aside0 (Below w.heap.size w wc))
     case first =>
      have H := HC79.out
      clear HC79
      replace H := Option.bind_eq_some_iff.mp H
      obtain ⟨⟨t414, t415⟩, A800, H⟩ := H
      try dsimp only at H
      have A80 := Aside0.mk A800
      clear A800
      replace H := Option.bind_eq_some_iff.mp H
      obtain ⟨t418, A810, H⟩ := H
      try dsimp only at H
      have A81 := Aside0.mk A810
      clear A810
      by_cases c82 : t418 ≤ 0
      rotate_left
      ·rw [if_neg c82] at H
       have c82b0 : decide (t418 ≤ 0) = false := decide_eq_false c82
       clear c82
       (first | rw [c82b0] | (simp only [i64_w, i32_w]; rw [c82b0]) | skip)
       have H' := Aside0.mk H
       clear H
       try go_wp2
       have n0_ := Aside0.mk (Kd.V_drew HO_366001.out)
       have n1_ := Aside0.mk (blk_drew BK360.out)
       have n2_ := Aside0.mk (blk_drew BK365.out)
       have n3_ := Aside0.mk (blk_drew BK376.out)
       have n4_ := Aside0.mk (blk_drew BK383.out)
       have n5_ := Aside0.mk (blk_drew BK394.out)
       have n6_ := Aside0.mk (below_drew1 HB.out)
       clear HO_366001
       clear BK360
       clear BK365
       clear BK376
       clear BK383
       clear BK394
       clear HB
       have HO_366001 := n0_
       have BK360 := n1_
       have BK365 := n2_
       have BK376 := n3_
       have BK383 := n4_
       have BK394 := n5_
       have HB := n6_
       clear n0_ n1_ n2_ n3_ n4_ n5_ n6_
       refine start_ (n := 11) (S := fun w' => w'.cell? ⟨gb365, 0, none⟩ = some (.bool t361) ∧ w'.cell? ⟨gb365, 1, none⟩ = some (.slice Ao19 t362.length co19)) (ds := []) #[Ff, Ff, Ff, Ff, Ff, Ff, Ff, Ff, Ff, Ff, Ff] (by kernel_rfl) rfl rfl ⟨(blk_cell BK365.out 0).trans rfl, (blk_cell BK365.out 1).trans rfl⟩ (fun hHeld => ?_); refine with_tabW parquetlaw01_WideOnes.tab10 parquetlaw01_WideOnes.bits10 (fun HT_ HW_ => ?_)
       generalize wc.drew = w92 at HO_366001 BK360 BK365 BK376 BK383 BK394 HB hHeld ⊢
       refine take_ (i := 0) (N := some 82) (v := ?_) (a' := ?_) #[Tt, Ff, Ff, Ff, Ff, Ff, Ff, Ff, Ff, Ff, Ff] rfl rfl (take_ofW HT_.out HW_.out (by kernel_rfl)) (fun _ _ _ h => h) (Or.inl ⟨by rfl, ?_⟩) hHeld ?_ ?_
       rotate_left
       ·rintro w' ⟨s0, s1⟩
        go_simp
        with_reducible rfl
       rotate_left
       ·simp only [Act.put, List.setIfInBounds_toArray, List.set_cons_zero, List.set_cons_succ, i64_w, i32_w]
        rfl
       refine one_ (i := 1) (N := some 83) #[Tt, Tt, Ff, Ff, Ff, Ff, Ff, Ff, Ff, Ff, Ff] rfl rfl (one_of HT_.out (by kernel_rfl)) (by decide) (fun K hK => ?_)
       refine goes_ Try.func26 (by kernel_rfl) rfl #[.int .i64 9223372036854775807] (by rfl) rfl rfl (by (try simp only [List.map_toArray, List.map_cons, List.map_nil]); first | done | rfl | (simp only [List.length_drop, List.length_take]; rfl)) ?_
       with_reducible refine (parquetref01_Small.calls kj59 9223372036854775807 t414 t415 _ A80.out).mono ?_
       rintro e w93 ⟨v416, rfl, ho0, hb⟩
       refine ⟨_, rfl, ?_⟩
       have n0_ := Aside0.mk (Kd.V_below (by (with_reducible repeat (first | apply Kd.V_alloc | apply Kd.V_drewN | apply Kd.V_drew)); exact HO_366001.out) hb)
       have n1_ := Aside0.mk (Kd.V_lower (Kd.V_mono (ok' := fun k_ => k_ ≠ gb360 ∧ k_ ≠ gb365 ∧ k_ ≠ gb376 ∧ k_ ≠ gb383 ∧ k_ ≠ gb394) ho0 (fun k_ hk_ => ⟨(Kd.freshB (g := gb360) (o := .cells #[.bool a0_0, .int .u64 a0_1, .int .u64 a0_2, .int .u64 a0_3, .int .u64 a0_4] 27 (0, 0)) (by exact lb BK360.out) k_ hk_), (Kd.freshB (g := gb365) (o := .cells #[.bool t361, .slice Ao19 t362.length co19] 38 (0, 0)) (by exact lb BK365.out) k_ hk_), (Kd.freshB (g := gb376) (o := .cells #[.bool t370, .int .u64 t371, .int .u64 t372, .int .u64 t373, .int .u64 t374] 27 (0, 0)) (by exact lb BK376.out) k_ hk_), (Kd.freshB (g := gb383) (o := .cells #[.bool t377, .int .u64 t378, .int .u64 t379, .int .u64 t380, .int .u64 t381] 27 (0, 0)) (by exact lb BK383.out) k_ hk_), (Kd.freshB (g := gb394) (o := .cells #[.bool t388, .int .u64 t389, .int .u64 t390, .int .u64 t391, .int .u64 t392] 27 (0, 0)) (by exact lb BK394.out) k_ hk_)⟩)) (below_size (by repeat (first | (with_reducible first | exact HB.out | apply qa | apply qn | apply qd | refine qs ?_ GE360.out | refine qs ?_ GE365.out | refine qs ?_ GE376.out | refine qs ?_ GE383.out | refine qs ?_ GE394.out) | exact HB.out))))
       have n2_ := bb BK360 hb
       have n3_ := bb BK365 hb
       have n4_ := bb BK376 hb
       have n5_ := bb BK383 hb
       have n6_ := bb BK394 hb
       have n7_ := Aside0.mk (below_step (by repeat (first | (with_reducible first | exact HB.out | apply qa | apply qn | apply qd | refine qs ?_ GE360.out | refine qs ?_ GE365.out | refine qs ?_ GE376.out | refine qs ?_ GE383.out | refine qs ?_ GE394.out) | exact HB.out)) hb)
       clear HO_366001
       clear BK360
       clear BK365
       clear BK376
       clear BK383
       clear BK394
       clear HB
       have HO_366001 := n0_
       have HO417 := n1_
       have BK360 := n2_
       have BK365 := n3_
       have BK376 := n4_
       have BK383 := n5_
       have BK394 := n6_
       have HB := n7_
       clear n0_ n1_ n2_ n3_ n4_ n5_ n6_ n7_
       (try clear hb)
       (try clear hb2)
       (try clear hk)
       (try clear hi)
       (try clear ho0)
       obtain ⟨Ao94, co94, eo94⟩ := Kd.V_slice HO417.out
       (first | subst eo94 | (injection eo94 with f1_ f2_ f3_; have f4_ := f1_.symm; have f5_ := f3_.symm; clear f1_ f2_ f3_; subst f4_; subst f5_))
       refine hK.out _ _ ⟨(blk_cell BK365.out 0).trans rfl, (blk_cell BK365.out 1).trans rfl⟩ (fun hHeld => ?_)
       clear hK K
       refine norm_ (a' := ?_) ?_ ?_
       rotate_left
       ·show Act.put _ (some 83) _ = _
        simp only [Act.put, List.setIfInBounds_toArray, List.set_cons_zero, List.set_cons_succ, i64_w, i32_w]
        rfl
       refine one_ (i := 2) (N := some 84) #[Tt, Tt, Tt, Ff, Ff, Ff, Ff, Ff, Ff, Ff, Ff] rfl rfl (one_of HT_.out (by kernel_rfl)) (by decide) (fun K hK => ?_)
       refine goes_ Try.func27 (by kernel_rfl) rfl #[.agg #[.bool t361, .slice Ao19 t362.length co19], .agg #[.bool t414, .slice Ao94 t415.length co94]] (by rfl) rfl rfl (by (try simp only [List.map_toArray, List.map_cons, List.map_nil]); first | done | rfl | (simp only [List.length_drop, List.length_take]; rfl)) ?_
       with_reducible refine (parquetref01_Num_Cmp.calls kj59 t361 _ _ t362 t414 _ _ t415 t418 _ ?side1 ?side2 ?side3 ?side4 A81.out).mono ?_
       (case side1 => repeat (first | exact (Kd.V_reads' HO_366001.out).2.2 | (with_reducible refine Kd.C_alloc ?_ _) | (with_reducible refine Kd.C_drewN ?_ _) | (with_reducible refine Kd.C_drew ?_)))
       (case side2 => exact (Kd.V_reads' HO_366001.out).2.1)
       (case side3 => repeat (first | exact (Kd.V_reads' HO417.out).2.2 | (with_reducible refine Kd.C_alloc ?_ _) | (with_reducible refine Kd.C_drewN ?_ _) | (with_reducible refine Kd.C_drew ?_)))
       (case side4 => exact (Kd.V_reads' HO417.out).2.1)
       rintro e w95 ⟨rfl, hb⟩
       refine ⟨_, rfl, ?_⟩
       have n0_ := Aside0.mk (Kd.V_below (by (with_reducible repeat (first | apply Kd.V_alloc | apply Kd.V_drewN | apply Kd.V_drew)); exact HO_366001.out) hb)
       have n1_ := Aside0.mk (Kd.V_below (by (with_reducible repeat (first | apply Kd.V_alloc | apply Kd.V_drewN | apply Kd.V_drew)); exact HO417.out) hb)
       have n2_ := bb BK360 hb
       have n3_ := bb BK365 hb
       have n4_ := bb BK376 hb
       have n5_ := bb BK383 hb
       have n6_ := bb BK394 hb
       have n7_ := Aside0.mk (below_step (by repeat (first | (with_reducible first | exact HB.out | apply qa | apply qn | apply qd | refine qs ?_ GE360.out | refine qs ?_ GE365.out | refine qs ?_ GE376.out | refine qs ?_ GE383.out | refine qs ?_ GE394.out) | exact HB.out)) hb)
       clear HO_366001
       clear HO417
       clear BK360
       clear BK365
       clear BK376
       clear BK383
       clear BK394
       clear HB
       have HO_366001 := n0_
       have HO417 := n1_
       have BK360 := n2_
       have BK365 := n3_
       have BK376 := n4_
       have BK383 := n5_
       have BK394 := n6_
       have HB := n7_
       clear n0_ n1_ n2_ n3_ n4_ n5_ n6_ n7_
       (try clear hb)
       (try clear hb2)
       (try clear hk)
       (try clear hi)
       refine hK.out _ _ ⟨(blk_cell BK365.out 0).trans rfl, (blk_cell BK365.out 1).trans rfl⟩ (fun hHeld => ?_)
       clear hK K
       refine norm_ (a' := ?_) ?_ ?_
       rotate_left
       ·show Act.put _ (some 84) _ = _
        simp only [Act.put, List.setIfInBounds_toArray, List.set_cons_zero, List.set_cons_succ, i64_w, i32_w]
        rfl
       refine pure_ (i := 3) (N := some 85) (v := ?_) (a' := ?_) #[Tt, Tt, Tt, Tt, Ff, Ff, Ff, Ff, Ff, Ff, Ff] rfl rfl (any_of HT_.out (by kernel_rfl)) (fun _ _ _ h => h) (Or.inl ⟨by rfl, ?_⟩) ?_ ?_
       rotate_left
       ·intro w'
        go_simp
        with_reducible rfl
       rotate_left
       ·simp only [Act.put, List.setIfInBounds_toArray, List.set_cons_zero, List.set_cons_succ, i64_w, i32_w]
        rfl
       refine pure_ (i := 4) (N := some 86) (v := ?_) (a' := ?_) #[Tt, Tt, Tt, Tt, Tt, Ff, Ff, Ff, Ff, Ff, Ff] rfl rfl (any_of HT_.out (by kernel_rfl)) (fun _ _ _ h => h) (Or.inl ⟨by rfl, ?_⟩) ?_ ?_
       rotate_left
       ·intro w'
        go_simp
        with_reducible rfl
       rotate_left
       ·simp only [Act.put, List.setIfInBounds_toArray, List.set_cons_zero, List.set_cons_succ, i64_w, i32_w]
        rfl
       refine pure_ (i := 5) (N := some 87) (v := undef) (a' := ?_) #[Tt, Tt, Tt, Tt, Tt, Tt, Ff, Ff, Ff, Ff, Ff] rfl rfl (any_of HT_.out (by kernel_rfl)) (fun _ _ _ h => h) (Or.inr ⟨by rfl, rfl⟩) ?_ ?_
       rotate_left
       ·simp only [Act.put, List.setIfInBounds_toArray, List.set_cons_zero, List.set_cons_succ, i64_w, i32_w]
        rfl
       refine pure_ (i := 6) (N := some 88) (v := undef) (a' := ?_) #[Tt, Tt, Tt, Tt, Tt, Tt, Tt, Ff, Ff, Ff, Ff] rfl rfl (any_of HT_.out (by kernel_rfl)) (fun _ _ _ h => h) (Or.inr ⟨by rfl, rfl⟩) ?_ ?_
       rotate_left
       ·simp only [Act.put, List.setIfInBounds_toArray, List.set_cons_zero, List.set_cons_succ, i64_w, i32_w]
        rfl
       refine pure_ (i := 7) (N := some 89) (v := undef) (a' := ?_) #[Tt, Tt, Tt, Tt, Tt, Tt, Tt, Tt, Ff, Ff, Ff] rfl rfl (any_of HT_.out (by kernel_rfl)) (fun _ _ _ h => h) (Or.inr ⟨by rfl, rfl⟩) ?_ ?_
       rotate_left
       ·simp only [Act.put, List.setIfInBounds_toArray, List.set_cons_zero, List.set_cons_succ, i64_w, i32_w]
        rfl
       refine pure_ (i := 8) (N := some 90) (v := undef) (a' := ?_) #[Tt, Tt, Tt, Tt, Tt, Tt, Tt, Tt, Tt, Ff, Ff] rfl rfl (any_of HT_.out (by kernel_rfl)) (fun _ _ _ h => h) (Or.inr ⟨by rfl, rfl⟩) ?_ ?_
       rotate_left
       ·simp only [Act.put, List.setIfInBounds_toArray, List.set_cons_zero, List.set_cons_succ, i64_w, i32_w]
        rfl
       refine pure_ (i := 9) (N := some 91) (v := ?_) (a' := ?_) #[Tt, Tt, Tt, Tt, Tt, Tt, Tt, Tt, Tt, Tt, Ff] rfl rfl (any_of HT_.out (by kernel_rfl)) (fun _ _ _ h => h) (Or.inl ⟨by rfl, ?_⟩) ?_ ?_
       rotate_left
       ·intro w'
        go_simp
        with_reducible rfl
       rotate_left
       ·simp only [Act.put, List.setIfInBounds_toArray, List.set_cons_zero, List.set_cons_succ, i64_w, i32_w]
        rfl
       refine pure_ (i := 10) (N := some 17) (v := ?_) (a' := ?_) #[Tt, Tt, Tt, Tt, Tt, Tt, Tt, Tt, Tt, Tt, Tt] rfl rfl (any_of HT_.out (by kernel_rfl)) (fun _ _ _ h => h) (Or.inl ⟨by rfl, ?_⟩) ?_ ?_
       rotate_left
       ·intro w'
        go_simp
        with_reducible rfl
       rotate_left
       ·simp only [Act.put, List.setIfInBounds_toArray, List.set_cons_zero, List.set_cons_succ, i64_w, i32_w]
        rfl
       refine done_ (done_of HT_.out (by kernel_rfl)) ?_
       try go_wp2
       go_meet
       case rel => exact ⟨_, (false), (by first | rfl | (simp; done) | (simp [*]; done)), H', ⟨by have := HJ11.out; have := HJ59.out; first | omega | exact Nat.le_refl _⟩, ⟨by (with_reducible repeat (first | apply Kd.V_alloc | apply Kd.V_drewN | apply Kd.V_drew)); exact HO_366001.out⟩, ⟨by (with_reducible repeat (first | refine cn ?_ _ | refine cd ?_ | refine ca ?_ _)); exact BK360.out⟩, ⟨by (with_reducible repeat (first | refine cn ?_ _ | refine cd ?_ | refine ca ?_ _)); exact BK365.out⟩, ⟨by (with_reducible repeat (first | refine cn ?_ _ | refine cd ?_ | refine ca ?_ _)); exact BK376.out⟩, ⟨by (with_reducible repeat (first | refine cn ?_ _ | refine cd ?_ | refine ca ?_ _)); exact BK383.out⟩, ⟨by (with_reducible repeat (first | refine cn ?_ _ | refine cd ?_ | refine ca ?_ _)); exact BK394.out⟩, ⟨by repeat (first | (with_reducible first | exact HB.out | apply qa | apply qn | apply qd | refine qs ?_ GE360.out | refine qs ?_ GE365.out | refine qs ?_ GE376.out | refine qs ?_ GE383.out | refine qs ?_ GE394.out) | exact HB.out)⟩⟩
      rw [if_pos c82] at H
      have c82b0 : decide (t418 ≤ 0) = true := decide_eq_true c82
      clear c82
      (first | rw [c82b0] | (simp only [i64_w, i32_w]; rw [c82b0]) | skip)
      replace H := Option.bind_eq_some_iff.mp H
      obtain ⟨⟨t419, t420⟩, A830, H⟩ := H
      replace H : ((parquetref01_Num_Cmp.f kj59 t361 t362 t419 t420).bind fun t423 => (parquetlaw01_WideOnes.j2 kj59 a1 t393 t396 t402 t403 (decide (t423 ≥ 0)) a0_0 a0_1 a0_2 a0_3 a0_4 t361 t362 t370 t371 t372 t373 t374 t377 t378 t379 t380 t381 t388 t389 t390 t391 t392)) = some r := H
      have A83 := Aside0.mk A830
      clear A830
      replace H := Option.bind_eq_some_iff.mp H
      obtain ⟨t423, A840, H⟩ := H
      replace H : (parquetlaw01_WideOnes.j2 kj59 a1 t393 t396 t402 t403 (decide (t423 ≥ 0)) a0_0 a0_1 a0_2 a0_3 a0_4 t361 t362 t370 t371 t372 t373 t374 t377 t378 t379 t380 t381 t388 t389 t390 t391 t392) = some r := H
      have A84 := Aside0.mk A840
      clear A840
      have H' := Aside0.mk H
      clear H
      try go_wp2
      have n0_ := Aside0.mk (Kd.V_drew HO_366001.out)
      have n1_ := Aside0.mk (blk_drew BK360.out)
      have n2_ := Aside0.mk (blk_drew BK365.out)
      have n3_ := Aside0.mk (blk_drew BK376.out)
      have n4_ := Aside0.mk (blk_drew BK383.out)
      have n5_ := Aside0.mk (blk_drew BK394.out)
      have n6_ := Aside0.mk (below_drew1 HB.out)
      clear HO_366001
      clear BK360
      clear BK365
      clear BK376
      clear BK383
      clear BK394
      clear HB
      have HO_366001 := n0_
      have BK360 := n1_
      have BK365 := n2_
      have BK376 := n3_
      have BK383 := n4_
      have BK394 := n5_
      have HB := n6_
      clear n0_ n1_ n2_ n3_ n4_ n5_ n6_
      refine start_ (n := 11) (S := fun w' => w'.cell? ⟨gb365, 0, none⟩ = some (.bool t361) ∧ w'.cell? ⟨gb365, 1, none⟩ = some (.slice Ao19 t362.length co19)) (ds := []) #[Ff, Ff, Ff, Ff, Ff, Ff, Ff, Ff, Ff, Ff, Ff] (by kernel_rfl) rfl rfl ⟨(blk_cell BK365.out 0).trans rfl, (blk_cell BK365.out 1).trans rfl⟩ (fun hHeld => ?_); refine with_tabW parquetlaw01_WideOnes.tab10 parquetlaw01_WideOnes.bits10 (fun HT_ HW_ => ?_)
      generalize wc.drew = w85 at HO_366001 BK360 BK365 BK376 BK383 BK394 HB hHeld ⊢
      refine take_ (i := 0) (N := some 82) (v := ?_) (a' := ?_) #[Tt, Ff, Ff, Ff, Ff, Ff, Ff, Ff, Ff, Ff, Ff] rfl rfl (take_ofW HT_.out HW_.out (by kernel_rfl)) (fun _ _ _ h => h) (Or.inl ⟨by rfl, ?_⟩) hHeld ?_ ?_
      rotate_left
      ·rintro w' ⟨s0, s1⟩
       go_simp
       with_reducible rfl
      rotate_left
      ·simp only [Act.put, List.setIfInBounds_toArray, List.set_cons_zero, List.set_cons_succ, i64_w, i32_w]
       rfl
      refine one_ (i := 1) (N := some 83) #[Tt, Tt, Ff, Ff, Ff, Ff, Ff, Ff, Ff, Ff, Ff] rfl rfl (one_of HT_.out (by kernel_rfl)) (by decide) (fun K hK => ?_)
      refine goes_ Try.func26 (by kernel_rfl) rfl #[.int .i64 9223372036854775807] (by rfl) rfl rfl (by (try simp only [List.map_toArray, List.map_cons, List.map_nil]); first | done | rfl | (simp only [List.length_drop, List.length_take]; rfl)) ?_
      with_reducible refine (parquetref01_Small.calls kj59 9223372036854775807 t414 t415 _ A80.out).mono ?_
      rintro e w86 ⟨v416, rfl, ho0, hb⟩
      refine ⟨_, rfl, ?_⟩
      have n0_ := Aside0.mk (Kd.V_below (by (with_reducible repeat (first | apply Kd.V_alloc | apply Kd.V_drewN | apply Kd.V_drew)); exact HO_366001.out) hb)
      have n1_ := Aside0.mk (Kd.V_lower (Kd.V_mono (ok' := fun k_ => k_ ≠ gb360 ∧ k_ ≠ gb365 ∧ k_ ≠ gb376 ∧ k_ ≠ gb383 ∧ k_ ≠ gb394) ho0 (fun k_ hk_ => ⟨(Kd.freshB (g := gb360) (o := .cells #[.bool a0_0, .int .u64 a0_1, .int .u64 a0_2, .int .u64 a0_3, .int .u64 a0_4] 27 (0, 0)) (by exact lb BK360.out) k_ hk_), (Kd.freshB (g := gb365) (o := .cells #[.bool t361, .slice Ao19 t362.length co19] 38 (0, 0)) (by exact lb BK365.out) k_ hk_), (Kd.freshB (g := gb376) (o := .cells #[.bool t370, .int .u64 t371, .int .u64 t372, .int .u64 t373, .int .u64 t374] 27 (0, 0)) (by exact lb BK376.out) k_ hk_), (Kd.freshB (g := gb383) (o := .cells #[.bool t377, .int .u64 t378, .int .u64 t379, .int .u64 t380, .int .u64 t381] 27 (0, 0)) (by exact lb BK383.out) k_ hk_), (Kd.freshB (g := gb394) (o := .cells #[.bool t388, .int .u64 t389, .int .u64 t390, .int .u64 t391, .int .u64 t392] 27 (0, 0)) (by exact lb BK394.out) k_ hk_)⟩)) (below_size (by repeat (first | (with_reducible first | exact HB.out | apply qa | apply qn | apply qd | refine qs ?_ GE360.out | refine qs ?_ GE365.out | refine qs ?_ GE376.out | refine qs ?_ GE383.out | refine qs ?_ GE394.out) | exact HB.out))))
      have n2_ := bb BK360 hb
      have n3_ := bb BK365 hb
      have n4_ := bb BK376 hb
      have n5_ := bb BK383 hb
      have n6_ := bb BK394 hb
      have n7_ := Aside0.mk (below_step (by repeat (first | (with_reducible first | exact HB.out | apply qa | apply qn | apply qd | refine qs ?_ GE360.out | refine qs ?_ GE365.out | refine qs ?_ GE376.out | refine qs ?_ GE383.out | refine qs ?_ GE394.out) | exact HB.out)) hb)
      clear HO_366001
      clear BK360
      clear BK365
      clear BK376
      clear BK383
      clear BK394
      clear HB
      have HO_366001 := n0_
      have HO417 := n1_
      have BK360 := n2_
      have BK365 := n3_
      have BK376 := n4_
      have BK383 := n5_
      have BK394 := n6_
      have HB := n7_
      clear n0_ n1_ n2_ n3_ n4_ n5_ n6_ n7_
      (try clear hb)
      (try clear hb2)
      (try clear hk)
      (try clear hi)
      (try clear ho0)
      obtain ⟨Ao87, co87, eo87⟩ := Kd.V_slice HO417.out
      (first | subst eo87 | (injection eo87 with f1_ f2_ f3_; have f4_ := f1_.symm; have f5_ := f3_.symm; clear f1_ f2_ f3_; subst f4_; subst f5_))
      refine hK.out _ _ ⟨(blk_cell BK365.out 0).trans rfl, (blk_cell BK365.out 1).trans rfl⟩ (fun hHeld => ?_)
      clear hK K
      refine norm_ (a' := ?_) ?_ ?_
      rotate_left
      ·show Act.put _ (some 83) _ = _
       simp only [Act.put, List.setIfInBounds_toArray, List.set_cons_zero, List.set_cons_succ, i64_w, i32_w]
       rfl
      refine one_ (i := 2) (N := some 84) #[Tt, Tt, Tt, Ff, Ff, Ff, Ff, Ff, Ff, Ff, Ff] rfl rfl (one_of HT_.out (by kernel_rfl)) (by decide) (fun K hK => ?_)
      refine goes_ Try.func27 (by kernel_rfl) rfl #[.agg #[.bool t361, .slice Ao19 t362.length co19], .agg #[.bool t414, .slice Ao87 t415.length co87]] (by rfl) rfl rfl (by (try simp only [List.map_toArray, List.map_cons, List.map_nil]); first | done | rfl | (simp only [List.length_drop, List.length_take]; rfl)) ?_
      with_reducible refine (parquetref01_Num_Cmp.calls kj59 t361 _ _ t362 t414 _ _ t415 t418 _ ?side1 ?side2 ?side3 ?side4 A81.out).mono ?_
      (case side1 => repeat (first | exact (Kd.V_reads' HO_366001.out).2.2 | (with_reducible refine Kd.C_alloc ?_ _) | (with_reducible refine Kd.C_drewN ?_ _) | (with_reducible refine Kd.C_drew ?_)))
      (case side2 => exact (Kd.V_reads' HO_366001.out).2.1)
      (case side3 => repeat (first | exact (Kd.V_reads' HO417.out).2.2 | (with_reducible refine Kd.C_alloc ?_ _) | (with_reducible refine Kd.C_drewN ?_ _) | (with_reducible refine Kd.C_drew ?_)))
      (case side4 => exact (Kd.V_reads' HO417.out).2.1)
      rintro e w88 ⟨rfl, hb⟩
      refine ⟨_, rfl, ?_⟩
      have n0_ := Aside0.mk (Kd.V_below (by (with_reducible repeat (first | apply Kd.V_alloc | apply Kd.V_drewN | apply Kd.V_drew)); exact HO_366001.out) hb)
      have n1_ := Aside0.mk (Kd.V_below (by (with_reducible repeat (first | apply Kd.V_alloc | apply Kd.V_drewN | apply Kd.V_drew)); exact HO417.out) hb)
      have n2_ := bb BK360 hb
      have n3_ := bb BK365 hb
      have n4_ := bb BK376 hb
      have n5_ := bb BK383 hb
      have n6_ := bb BK394 hb
      have n7_ := Aside0.mk (below_step (by repeat (first | (with_reducible first | exact HB.out | apply qa | apply qn | apply qd | refine qs ?_ GE360.out | refine qs ?_ GE365.out | refine qs ?_ GE376.out | refine qs ?_ GE383.out | refine qs ?_ GE394.out) | exact HB.out)) hb)
      clear HO_366001
      clear HO417
      clear BK360
      clear BK365
      clear BK376
      clear BK383
      clear BK394
      clear HB
      have HO_366001 := n0_
      have HO417 := n1_
      have BK360 := n2_
      have BK365 := n3_
      have BK376 := n4_
      have BK383 := n5_
      have BK394 := n6_
      have HB := n7_
      clear n0_ n1_ n2_ n3_ n4_ n5_ n6_ n7_
      (try clear hb)
      (try clear hb2)
      (try clear hk)
      (try clear hi)
      refine hK.out _ _ ⟨(blk_cell BK365.out 0).trans rfl, (blk_cell BK365.out 1).trans rfl⟩ (fun hHeld => ?_)
      clear hK K
      refine norm_ (a' := ?_) ?_ ?_
      rotate_left
      ·show Act.put _ (some 84) _ = _
       simp only [Act.put, List.setIfInBounds_toArray, List.set_cons_zero, List.set_cons_succ, i64_w, i32_w]
       rfl
      refine pure_ (i := 3) (N := some 85) (v := ?_) (a' := ?_) #[Tt, Tt, Tt, Tt, Ff, Ff, Ff, Ff, Ff, Ff, Ff] rfl rfl (any_of HT_.out (by kernel_rfl)) (fun _ _ _ h => h) (Or.inl ⟨by rfl, ?_⟩) ?_ ?_
      rotate_left
      ·intro w'
       go_simp
       with_reducible rfl
      rotate_left
      ·simp only [Act.put, List.setIfInBounds_toArray, List.set_cons_zero, List.set_cons_succ, i64_w, i32_w]
       rfl
      refine pure_ (i := 4) (N := some 86) (v := ?_) (a' := ?_) #[Tt, Tt, Tt, Tt, Tt, Ff, Ff, Ff, Ff, Ff, Ff] rfl rfl (any_of HT_.out (by kernel_rfl)) (fun _ _ _ h => h) (Or.inl ⟨by rfl, ?_⟩) ?_ ?_
      rotate_left
      ·intro w'
       go_simp
       with_reducible rfl
      rotate_left
      ·simp only [Act.put, List.setIfInBounds_toArray, List.set_cons_zero, List.set_cons_succ, i64_w, i32_w]
       rfl
      refine take_ (i := 5) (N := some 87) (v := ?_) (a' := ?_) #[Tt, Tt, Tt, Tt, Tt, Tt, Ff, Ff, Ff, Ff, Ff] rfl rfl (take_ofW HT_.out HW_.out (by kernel_rfl)) (fun _ _ _ h => h) (Or.inl ⟨by rfl, ?_⟩) hHeld ?_ ?_
      rotate_left
      ·rintro w' ⟨s0, s1⟩
       go_simp
       with_reducible rfl
      rotate_left
      ·simp only [Act.put, List.setIfInBounds_toArray, List.set_cons_zero, List.set_cons_succ, i64_w, i32_w]
       rfl
      refine one_ (i := 6) (N := some 88) #[Tt, Tt, Tt, Tt, Tt, Tt, Tt, Ff, Ff, Ff, Ff] rfl rfl (one_of HT_.out (by kernel_rfl)) (by decide) (fun K hK => ?_)
      refine goes_ Try.func26 (by kernel_rfl) rfl #[.int .i64 (-9223372036854775808)] (by rfl) rfl rfl (by (try simp only [List.map_toArray, List.map_cons, List.map_nil]); first | done | rfl | (simp only [List.length_drop, List.length_take]; rfl)) ?_
      with_reducible refine (parquetref01_Small.calls kj59 (-9223372036854775808) t419 t420 _ A83.out).mono ?_
      rintro e w89 ⟨v421, rfl, ho0, hb⟩
      refine ⟨_, rfl, ?_⟩
      have n0_ := Aside0.mk (Kd.V_below (by (with_reducible repeat (first | apply Kd.V_alloc | apply Kd.V_drewN | apply Kd.V_drew)); exact HO_366001.out) hb)
      have n1_ := Aside0.mk (Kd.V_below (by (with_reducible repeat (first | apply Kd.V_alloc | apply Kd.V_drewN | apply Kd.V_drew)); exact HO417.out) hb)
      have n2_ := Aside0.mk (Kd.V_lower (Kd.V_mono (ok' := fun k_ => k_ ≠ gb360 ∧ k_ ≠ gb365 ∧ k_ ≠ gb376 ∧ k_ ≠ gb383 ∧ k_ ≠ gb394) ho0 (fun k_ hk_ => ⟨(Kd.freshB (g := gb360) (o := .cells #[.bool a0_0, .int .u64 a0_1, .int .u64 a0_2, .int .u64 a0_3, .int .u64 a0_4] 27 (0, 0)) (by exact lb BK360.out) k_ hk_), (Kd.freshB (g := gb365) (o := .cells #[.bool t361, .slice Ao19 t362.length co19] 38 (0, 0)) (by exact lb BK365.out) k_ hk_), (Kd.freshB (g := gb376) (o := .cells #[.bool t370, .int .u64 t371, .int .u64 t372, .int .u64 t373, .int .u64 t374] 27 (0, 0)) (by exact lb BK376.out) k_ hk_), (Kd.freshB (g := gb383) (o := .cells #[.bool t377, .int .u64 t378, .int .u64 t379, .int .u64 t380, .int .u64 t381] 27 (0, 0)) (by exact lb BK383.out) k_ hk_), (Kd.freshB (g := gb394) (o := .cells #[.bool t388, .int .u64 t389, .int .u64 t390, .int .u64 t391, .int .u64 t392] 27 (0, 0)) (by exact lb BK394.out) k_ hk_)⟩)) (below_size (by repeat (first | (with_reducible first | exact HB.out | apply qa | apply qn | apply qd | refine qs ?_ GE360.out | refine qs ?_ GE365.out | refine qs ?_ GE376.out | refine qs ?_ GE383.out | refine qs ?_ GE394.out) | exact HB.out))))
      have n3_ := bb BK360 hb
      have n4_ := bb BK365 hb
      have n5_ := bb BK376 hb
      have n6_ := bb BK383 hb
      have n7_ := bb BK394 hb
      have n8_ := Aside0.mk (below_step (by repeat (first | (with_reducible first | exact HB.out | apply qa | apply qn | apply qd | refine qs ?_ GE360.out | refine qs ?_ GE365.out | refine qs ?_ GE376.out | refine qs ?_ GE383.out | refine qs ?_ GE394.out) | exact HB.out)) hb)
      clear HO_366001
      clear HO417
      clear BK360
      clear BK365
      clear BK376
      clear BK383
      clear BK394
      clear HB
      have HO_366001 := n0_
      have HO417 := n1_
      have HO422 := n2_
      have BK360 := n3_
      have BK365 := n4_
      have BK376 := n5_
      have BK383 := n6_
      have BK394 := n7_
      have HB := n8_
      clear n0_ n1_ n2_ n3_ n4_ n5_ n6_ n7_ n8_
      (try clear hb)
      (try clear hb2)
      (try clear hk)
      (try clear hi)
      (try clear ho0)
      obtain ⟨Ao90, co90, eo90⟩ := Kd.V_slice HO422.out
      (first | subst eo90 | (injection eo90 with f1_ f2_ f3_; have f4_ := f1_.symm; have f5_ := f3_.symm; clear f1_ f2_ f3_; subst f4_; subst f5_))
      refine hK.out _ _ ⟨(blk_cell BK365.out 0).trans rfl, (blk_cell BK365.out 1).trans rfl⟩ (fun hHeld => ?_)
      clear hK K
      refine norm_ (a' := ?_) ?_ ?_
      rotate_left
      ·show Act.put _ (some 88) _ = _
       simp only [Act.put, List.setIfInBounds_toArray, List.set_cons_zero, List.set_cons_succ, i64_w, i32_w]
       rfl
      refine one_ (i := 7) (N := some 89) #[Tt, Tt, Tt, Tt, Tt, Tt, Tt, Tt, Ff, Ff, Ff] rfl rfl (one_of HT_.out (by kernel_rfl)) (by decide) (fun K hK => ?_)
      refine goes_ Try.func27 (by kernel_rfl) rfl #[.agg #[.bool t361, .slice Ao19 t362.length co19], .agg #[.bool t419, .slice Ao90 t420.length co90]] (by rfl) rfl rfl (by (try simp only [List.map_toArray, List.map_cons, List.map_nil]); first | done | rfl | (simp only [List.length_drop, List.length_take]; rfl)) ?_
      with_reducible refine (parquetref01_Num_Cmp.calls kj59 t361 _ _ t362 t419 _ _ t420 t423 _ ?side1 ?side2 ?side3 ?side4 A84.out).mono ?_
      (case side1 => repeat (first | exact (Kd.V_reads' HO_366001.out).2.2 | (with_reducible refine Kd.C_alloc ?_ _) | (with_reducible refine Kd.C_drewN ?_ _) | (with_reducible refine Kd.C_drew ?_)))
      (case side2 => exact (Kd.V_reads' HO_366001.out).2.1)
      (case side3 => repeat (first | exact (Kd.V_reads' HO422.out).2.2 | (with_reducible refine Kd.C_alloc ?_ _) | (with_reducible refine Kd.C_drewN ?_ _) | (with_reducible refine Kd.C_drew ?_)))
      (case side4 => exact (Kd.V_reads' HO422.out).2.1)
      rintro e w91 ⟨rfl, hb⟩
      refine ⟨_, rfl, ?_⟩
      have n0_ := Aside0.mk (Kd.V_below (by (with_reducible repeat (first | apply Kd.V_alloc | apply Kd.V_drewN | apply Kd.V_drew)); exact HO_366001.out) hb)
      have n1_ := Aside0.mk (Kd.V_below (by (with_reducible repeat (first | apply Kd.V_alloc | apply Kd.V_drewN | apply Kd.V_drew)); exact HO417.out) hb)
      have n2_ := Aside0.mk (Kd.V_below (by (with_reducible repeat (first | apply Kd.V_alloc | apply Kd.V_drewN | apply Kd.V_drew)); exact HO422.out) hb)
      have n3_ := bb BK360 hb
      have n4_ := bb BK365 hb
      have n5_ := bb BK376 hb
      have n6_ := bb BK383 hb
      have n7_ := bb BK394 hb
      have n8_ := Aside0.mk (below_step (by repeat (first | (with_reducible first | exact HB.out | apply qa | apply qn | apply qd | refine qs ?_ GE360.out | refine qs ?_ GE365.out | refine qs ?_ GE376.out | refine qs ?_ GE383.out | refine qs ?_ GE394.out) | exact HB.out)) hb)
      clear HO_366001
      clear HO417
      clear HO422
      clear BK360
      clear BK365
      clear BK376
      clear BK383
      clear BK394
      clear HB
      have HO_366001 := n0_
      have HO417 := n1_
      have HO422 := n2_
      have BK360 := n3_
      have BK365 := n4_
      have BK376 := n5_
      have BK383 := n6_
      have BK394 := n7_
      have HB := n8_
      clear n0_ n1_ n2_ n3_ n4_ n5_ n6_ n7_ n8_
      (try clear hb)
      (try clear hb2)
      (try clear hk)
      (try clear hi)
      refine hK.out _ _ ⟨(blk_cell BK365.out 0).trans rfl, (blk_cell BK365.out 1).trans rfl⟩ (fun hHeld => ?_)
      clear hK K
      refine norm_ (a' := ?_) ?_ ?_
      rotate_left
      ·show Act.put _ (some 89) _ = _
       simp only [Act.put, List.setIfInBounds_toArray, List.set_cons_zero, List.set_cons_succ, i64_w, i32_w]
       rfl
      refine pure_ (i := 8) (N := some 90) (v := ?_) (a' := ?_) #[Tt, Tt, Tt, Tt, Tt, Tt, Tt, Tt, Tt, Ff, Ff] rfl rfl (any_of HT_.out (by kernel_rfl)) (fun _ _ _ h => h) (Or.inl ⟨by rfl, ?_⟩) ?_ ?_
      rotate_left
      ·intro w'
       go_simp
       with_reducible rfl
      rotate_left
      ·simp only [Act.put, List.setIfInBounds_toArray, List.set_cons_zero, List.set_cons_succ, i64_w, i32_w]
       rfl
      refine pure_ (i := 9) (N := some 91) (v := ?_) (a' := ?_) #[Tt, Tt, Tt, Tt, Tt, Tt, Tt, Tt, Tt, Tt, Ff] rfl rfl (any_of HT_.out (by kernel_rfl)) (fun _ _ _ h => h) (Or.inl ⟨by rfl, ?_⟩) ?_ ?_
      rotate_left
      ·intro w'
       go_simp
       with_reducible rfl
      rotate_left
      ·simp only [Act.put, List.setIfInBounds_toArray, List.set_cons_zero, List.set_cons_succ, i64_w, i32_w]
       rfl
      refine pure_ (i := 10) (N := some 17) (v := ?_) (a' := ?_) #[Tt, Tt, Tt, Tt, Tt, Tt, Tt, Tt, Tt, Tt, Tt] rfl rfl (any_of HT_.out (by kernel_rfl)) (fun _ _ _ h => h) (Or.inl ⟨by rfl, ?_⟩) ?_ ?_
      rotate_left
      ·intro w'
       go_simp
       with_reducible rfl
      rotate_left
      ·simp only [Act.put, List.setIfInBounds_toArray, List.set_cons_zero, List.set_cons_succ, i64_w, i32_w]
       rfl
      refine done_ (done_of HT_.out (by kernel_rfl)) ?_
      try go_wp2
      go_meet
      case rel => exact ⟨_, (decide (t423 ≥ 0)), (by first | rfl | (simp; done) | (simp [*]; done)), H', ⟨by have := HJ11.out; have := HJ59.out; first | omega | exact Nat.le_refl _⟩, ⟨by (with_reducible repeat (first | apply Kd.V_alloc | apply Kd.V_drewN | apply Kd.V_drew)); exact HO_366001.out⟩, ⟨by (with_reducible repeat (first | refine cn ?_ _ | refine cd ?_ | refine ca ?_ _)); exact BK360.out⟩, ⟨by (with_reducible repeat (first | refine cn ?_ _ | refine cd ?_ | refine ca ?_ _)); exact BK365.out⟩, ⟨by (with_reducible repeat (first | refine cn ?_ _ | refine cd ?_ | refine ca ?_ _)); exact BK376.out⟩, ⟨by (with_reducible repeat (first | refine cn ?_ _ | refine cd ?_ | refine ca ?_ _)); exact BK383.out⟩, ⟨by (with_reducible repeat (first | refine cn ?_ _ | refine cd ?_ | refine ca ?_ _)); exact BK394.out⟩, ⟨by repeat (first | (with_reducible first | exact HB.out | apply qa | apply qn | apply qd | refine qs ?_ GE360.out | refine qs ?_ GE365.out | refine qs ?_ GE376.out | refine qs ?_ GE383.out | refine qs ?_ GE394.out) | exact HB.out)⟩⟩
     case rest =>
      clear HC79
      try clear c2
      try clear p2
      try clear c6
      try clear c7
      try clear c8
      try clear c26
      try clear c27
      try clear c61
      try clear c61b0
      try clear c61b1
      try clear c62
      try clear c75
      try clear c75b0
      try clear c75b1
      try clear c78
      try clear c82
      try clear c82b0
      try clear p2
      obtain ⟨kq, x17_78, rfl, HA, HJ78, HO_366001, BK360, BK365, BK376, BK383, BK394, HB⟩ := hcut
      cases kq with
      | zero => exact absurd HA.out (by simp [parquetlaw01_WideOnes.j2])
      | succ kj78 =>
       have H := HA.out
       clear HA
       simp only [parquetlaw01_WideOnes.j2] at H
       replace H := Option.bind_eq_some_iff.mp H
       obtain ⟨⟨t424, t425, t426, t427, t428⟩, A960, H⟩ := H
       try dsimp only at H
       have A96 := Aside0.mk A960
       clear A960
       replace H := Option.bind_eq_some_iff.mp H
       obtain ⟨⟨t429, t430, t431, t432, t433⟩, A970, H⟩ := H
       try dsimp only at H
       have A97 := Aside0.mk A970
       clear A970
       replace H := Option.bind_eq_some_iff.mp H
       obtain ⟨⟨t435, t436, t437, t438, t439⟩, A980, H⟩ := H
       try dsimp only at H
       have A98 := Aside0.mk A980
       clear A980
       by_cases c99 : (t435 == t370 && ((t436 == t371 && (t437 == t372 && (t438 == t373 && (t439 == t374)))))) = true
       rotate_left
       ·rw [if_neg c99] at H
        have c99b0 : (t435 == t370 && ((t436 == t371 && (t437 == t372 && (t438 == t373 && (t439 == t374)))))) = false := by simpa using c99
        (try (have c99b1 : decide (t435 = t370 && ((t436 == t371 && (t437 == t372 && (t438 == t373 && (t439 == t374)))))) = false := by simpa using c99))
        (try (have c99b2 : (t435 == t370 && ((t436 == t371 && (t437 == t372 && (t438 == t373 && (t439 == t374)))))) = false := by simpa using c99))
        (try (have c99b3 : ¬ (t435 = t370 && ((t436 == t371 && (t437 == t372 && (t438 == t373 && (t439 == t374)))))) := by simpa using c99))
        clear c99
        exact absurd ((Option.some.inj H).trans hr_) (by decide)
       rw [if_pos c99] at H
       have c99b0 : (t435 == t370 && ((t436 == t371 && (t437 == t372 && (t438 == t373 && (t439 == t374)))))) = true := c99
       (try (have c99b1 : decide (t435 = t370 && ((t436 == t371 && (t437 == t372 && (t438 == t373 && (t439 == t374)))))) = true := by simpa using c99))
       (try (have c99b2 : (t435 == t370 && ((t436 == t371 && (t437 == t372 && (t438 == t373 && (t439 == t374)))))) = true := by simpa using c99))
       clear c99
       by_cases c100 : (t429 == t377 && ((t430 == t378 && (t431 == t379 && (t432 == t380 && (t433 == t381)))))) = true
       rotate_left
       ·rw [if_neg c100] at H
        have c100b0 : (t429 == t377 && ((t430 == t378 && (t431 == t379 && (t432 == t380 && (t433 == t381)))))) = false := by simpa using c100
        (try (have c100b1 : decide (t429 = t377 && ((t430 == t378 && (t431 == t379 && (t432 == t380 && (t433 == t381)))))) = false := by simpa using c100))
        (try (have c100b2 : (t429 == t377 && ((t430 == t378 && (t431 == t379 && (t432 == t380 && (t433 == t381)))))) = false := by simpa using c100))
        (try (have c100b3 : ¬ (t429 = t377 && ((t430 == t378 && (t431 == t379 && (t432 == t380 && (t433 == t381)))))) := by simpa using c100))
        clear c100
        exact absurd ((Option.some.inj H).trans hr_) (by decide)
       rw [if_pos c100] at H
       have c100b0 : (t429 == t377 && ((t430 == t378 && (t431 == t379 && (t432 == t380 && (t433 == t381)))))) = true := c100
       (try (have c100b1 : decide (t429 = t377 && ((t430 == t378 && (t431 == t379 && (t432 == t380 && (t433 == t381)))))) = true := by simpa using c100))
       (try (have c100b2 : (t429 == t377 && ((t430 == t378 && (t431 == t379 && (t432 == t380 && (t433 == t381)))))) = true := by simpa using c100))
       clear c100
       replace H := Option.bind_eq_some_iff.mp H
       obtain ⟨t440, A1010, H⟩ := H
       try dsimp only at H
       have A101 := Aside0.mk A1010
       clear A1010
       replace H := Option.bind_eq_some_iff.mp H
       obtain ⟨t441, A1020, H⟩ := H
       try dsimp only at H
       have A102 := Aside0.mk A1020
       clear A1020
       by_cases c103 : t440 = t441
       rotate_left
       ·rw [if_neg c103] at H
        have c103b0 : (t440 == t441) = false := beq_eq_false_iff_ne.mpr c103
        have c103b1 : (t440 != t441) = true := bne_iff_ne.mpr c103
        exact absurd ((Option.some.inj H).trans hr_) (by decide)
       rw [if_pos c103] at H
       have c103b0 : (t440 == t441) = true := beq_iff_eq.mpr c103
       have c103b1 : (t440 != t441) = false := bne_eq_false_iff_eq.mpr c103
       clear c103
       replace H := Option.bind_eq_some_iff.mp H
       obtain ⟨t442, A1040, H⟩ := H
       try dsimp only at H
       have A104 := Aside0.mk A1040
       clear A1040
       replace H := Option.bind_eq_some_iff.mp H
       obtain ⟨t443, A1050, H⟩ := H
       try dsimp only at H
       have A105 := Aside0.mk A1050
       clear A1050
       by_cases c106 : t442.toList = t443.toList
       rotate_left
       ·rw [if_neg c106] at H
        have c106b0 : (t442.toList == t443.toList) = false := beq_eq_false_iff_ne.mpr c106
        have c106b1 : (t442.toList != t443.toList) = true := bne_iff_ne.mpr c106
        exact absurd ((Option.some.inj H).trans hr_) (by decide)
       rw [if_pos c106] at H
       have c106b0 : (t442.toList == t443.toList) = true := beq_iff_eq.mpr c106
       have c106b1 : (t442.toList != t443.toList) = false := bne_eq_false_iff_eq.mpr c106
       clear c106
       by_cases c107 : t393 = true
       rotate_left
       ·replace c107 := Bool.eq_false_iff.mpr c107
        subst c107
        have H1 : (some false) = some r := by rw [if_neg (show ¬ (false = true) by decide)] at H; exact H
        clear H
        have H := H1
        clear H1
        exact absurd ((Option.some.inj H).trans hr_) (by decide)
       subst c107
       have H1 : ((wide_Of.f a1).bind fun bt444 => (if (bt444.1 == t388 && ((bt444.2.1 == t389 && (bt444.2.2.1 == t390 && (bt444.2.2.2.1 == t391 && (bt444.2.2.2.2 == t392)))))) = true then (if t402 = a1 then (if t403 = 0 then (if ((t396 == 0) == x17_78) = true then ((parquetlaw01_known.f).bind fun t449 => (some t449)) else (some false)) else (some false)) else (some false)) else (some false))) = some r := by rw [if_pos rfl] at H; exact H
       clear H
       have H := H1
       clear H1
       replace H := Option.bind_eq_some_iff.mp H
       obtain ⟨⟨t444, t445, t446, t447, t448⟩, A1080, H⟩ := H
       try dsimp only at H
       have A108 := Aside0.mk A1080
       clear A1080
       by_cases c109 : (t444 == t388 && ((t445 == t389 && (t446 == t390 && (t447 == t391 && (t448 == t392)))))) = true
       rotate_left
       ·rw [if_neg c109] at H
        have c109b0 : (t444 == t388 && ((t445 == t389 && (t446 == t390 && (t447 == t391 && (t448 == t392)))))) = false := by simpa using c109
        (try (have c109b1 : decide (t444 = t388 && ((t445 == t389 && (t446 == t390 && (t447 == t391 && (t448 == t392)))))) = false := by simpa using c109))
        (try (have c109b2 : (t444 == t388 && ((t445 == t389 && (t446 == t390 && (t447 == t391 && (t448 == t392)))))) = false := by simpa using c109))
        (try (have c109b3 : ¬ (t444 = t388 && ((t445 == t389 && (t446 == t390 && (t447 == t391 && (t448 == t392)))))) := by simpa using c109))
        clear c109
        exact absurd ((Option.some.inj H).trans hr_) (by decide)
       rw [if_pos c109] at H
       have c109b0 : (t444 == t388 && ((t445 == t389 && (t446 == t390 && (t447 == t391 && (t448 == t392)))))) = true := c109
       (try (have c109b1 : decide (t444 = t388 && ((t445 == t389 && (t446 == t390 && (t447 == t391 && (t448 == t392)))))) = true := by simpa using c109))
       (try (have c109b2 : (t444 == t388 && ((t445 == t389 && (t446 == t390 && (t447 == t391 && (t448 == t392)))))) = true := by simpa using c109))
       clear c109
       by_cases c110 : t402 = a1
       rotate_left
       ·rw [if_neg c110] at H
        have c110b0 : (t402 == a1) = false := beq_eq_false_iff_ne.mpr c110
        have c110b1 : (t402 != a1) = true := bne_iff_ne.mpr c110
        exact absurd ((Option.some.inj H).trans hr_) (by decide)
       rw [if_pos c110] at H
       have c110b0 : (t402 == a1) = true := beq_iff_eq.mpr c110
       have c110b1 : (t402 != a1) = false := bne_eq_false_iff_eq.mpr c110
       clear c110
       by_cases c111 : t403 = 0
       rotate_left
       ·rw [if_neg c111] at H
        have c111b0 : (t403 == 0) = false := beq_eq_false_iff_ne.mpr c111
        have c111b1 : (t403 != 0) = true := bne_iff_ne.mpr c111
        exact absurd ((Option.some.inj H).trans hr_) (by decide)
       rw [if_pos c111] at H
       have c111b0 : (t403 == 0) = true := beq_iff_eq.mpr c111
       have c111b1 : (t403 != 0) = false := bne_eq_false_iff_eq.mpr c111
       clear c111
       by_cases c112 : ((t396 == 0) == x17_78) = true
       rotate_left
       ·rw [if_neg c112] at H
        have c112b0 : ((t396 == 0) == x17_78) = false := by simpa using c112
        (try (have c112b1 : decide ((t396 == 0) = x17_78) = false := by simpa using c112))
        (try (have c112b2 : ((t396 == 0) == x17_78) = false := by simpa using c112))
        (try (have c112b3 : ¬ ((t396 == 0) = x17_78) := by simpa using c112))
        clear c112
        exact absurd ((Option.some.inj H).trans hr_) (by decide)
       rw [if_pos c112] at H
       have c112b0 : ((t396 == 0) == x17_78) = true := c112
       (try (have c112b1 : decide ((t396 == 0) = x17_78) = true := by simpa using c112))
       (try (have c112b2 : ((t396 == 0) == x17_78) = true := by simpa using c112))
       clear c112
       replace H := Option.bind_eq_some_iff.mp H
       obtain ⟨t449, A1130, H⟩ := H
       replace H : (some t449) = some r := H
       have A113 := Aside0.mk A1130
       clear A1130
       obtain rfl := Option.some.inj H
       have hnb114 := NB360_365.out
       have hnc114 := NB365_360.out
       have hnb115 := NB360_376.out
       have hnc115 := NB376_360.out
       have hnb116 := NB360_383.out
       have hnc116 := NB383_360.out
       have hnb117 := NB360_394.out
       have hnc117 := NB394_360.out
       obtain ⟨hcz118_0, hcz118_1, hcz118_2, hcz118_3, hcz118_4⟩ := cl5 BK360.out
       obtain ⟨hfz118_0, hfz118_1, hfz118_2, hfz118_3, hfz118_4⟩ := fr5 BK360.out
       try go_wp2_with (first | ((with_reducible refine gate_callee (f := 39) rfl ?_); refine goesL_ (some 93) rfl rfl Try.func39 (by kernel_rfl) rfl #[.agg #[.bool a0_0, .int .u64 a0_1, .int .u64 a0_2, .int .u64 a0_3, .int .u64 a0_4]] rfl (by (try simp only [List.map_toArray, List.map_cons, List.map_nil]); first | done | rfl | (simp only [List.length_drop, List.length_take]; rfl)) ?_; (with_reducible refine (wide_Neg.calls a0_0 a0_1 a0_2 a0_3 a0_4 t424 t425 t426 t427 t428 _ A96.out).mono ?_); rintro e w119 ⟨rfl, hb⟩; refine ⟨_, rfl, ?_⟩; have n0_ := Aside0.mk (Kd.V_below (by (with_reducible repeat (first | apply Kd.V_alloc | apply Kd.V_drewN | apply Kd.V_drew)); exact HO_366001.out) hb); have n1_ := bb BK360 hb; have n2_ := bb BK365 hb; have n3_ := bb BK376 hb; have n4_ := bb BK383 hb; have n5_ := bb BK394 hb; have n6_ := Aside0.mk (below_step (by repeat (first | (with_reducible first | exact HB.out | apply qa | apply qn | apply qd | refine qs ?_ GE360.out | refine qs ?_ GE365.out | refine qs ?_ GE376.out | refine qs ?_ GE383.out | refine qs ?_ GE394.out) | exact HB.out)) hb); clear HO_366001; clear BK360; clear BK365; clear BK376; clear BK383; clear BK394; clear HB; have HO_366001 := n0_; have BK360 := n1_; have BK365 := n2_; have BK376 := n3_; have BK383 := n4_; have BK394 := n5_; have HB := n6_; clear n0_ n1_ n2_ n3_ n4_ n5_ n6_; (try clear hb); (try clear hb2); (try clear hk); (try clear hi)) | ((with_reducible refine gate_callee (f := 39) rfl ?_); refine goesL_ (some 94) rfl rfl Try.func39 (by kernel_rfl) rfl #[.agg #[.bool t424, .int .u64 t425, .int .u64 t426, .int .u64 t427, .int .u64 t428]] rfl (by (try simp only [List.map_toArray, List.map_cons, List.map_nil]); first | done | rfl | (simp only [List.length_drop, List.length_take]; rfl)) ?_; (with_reducible refine (wide_Neg.calls t424 t425 t426 t427 t428 t429 t430 t431 t432 t433 _ A97.out).mono ?_); rintro e w120 ⟨rfl, hb⟩; refine ⟨_, rfl, ?_⟩; have n0_ := Aside0.mk (Kd.V_below (by (with_reducible repeat (first | apply Kd.V_alloc | apply Kd.V_drewN | apply Kd.V_drew)); exact HO_366001.out) hb); have n1_ := bb BK360 hb; have n2_ := bb BK365 hb; have n3_ := bb BK376 hb; have n4_ := bb BK383 hb; have n5_ := bb BK394 hb; have n6_ := Aside0.mk (below_step (by repeat (first | (with_reducible first | exact HB.out | apply qa | apply qn | apply qd | refine qs ?_ GE360.out | refine qs ?_ GE365.out | refine qs ?_ GE376.out | refine qs ?_ GE383.out | refine qs ?_ GE394.out) | exact HB.out)) hb); clear HO_366001; clear BK360; clear BK365; clear BK376; clear BK383; clear BK394; clear HB; have HO_366001 := n0_; have BK360 := n1_; have BK365 := n2_; have BK376 := n3_; have BK383 := n4_; have BK394 := n5_; have HB := n6_; clear n0_ n1_ n2_ n3_ n4_ n5_ n6_; (try clear hb); (try clear hb2); (try clear hk); (try clear hi)) | ((with_reducible refine gate_dst (N := 18) rfl ?_); refine box_event ?hg (N := 18) ?hd (cs := #[.bool false, .int .u64 0, .int .u64 0, .int .u64 0, .int .u64 0]) (t := 27) ?hr ?_; (case hd => rfl); (case hg => rfl); (case hr => first | (go_simp; done) | (go_simp; rfl)); intro gb434 hg w121 hbox hb; have n0_ := Aside0.mk (Kd.V_below (Kd.V_elderB (by (with_reducible repeat (first | apply Kd.V_alloc | apply Kd.V_drewN | apply Kd.V_drew)); exact HO_366001.out) gb434 (Nat.le_of_eq hg.symm)) hb); have n1_ := bb BK360 hb; have n2_ := bb BK365 hb; have n3_ := bb BK376 hb; have n4_ := bb BK383 hb; have n5_ := bb BK394 hb; have n6_ := Aside0.mk (below_step (by repeat (first | (with_reducible first | exact HB.out | apply qa | apply qn | apply qd | refine qs ?_ GE360.out | refine qs ?_ GE365.out | refine qs ?_ GE376.out | refine qs ?_ GE383.out | refine qs ?_ GE394.out) | exact HB.out)) hb); have n7_ := Aside0.mk (hbox); have n8_ := bgw HB hg; have n9_ := bgw HB hg; have n10_ := bnl BK360 hg; have n11_ := bng BK360 hg; have n12_ := bnl BK365 hg; have n13_ := bng BK365 hg; have n14_ := bnl BK376 hg; have n15_ := bng BK376 hg; have n16_ := bnl BK383 hg; have n17_ := bng BK383 hg; have n18_ := bnl BK394 hg; have n19_ := bng BK394 hg; clear HO_366001; clear BK360; clear BK365; clear BK376; clear BK383; clear BK394; clear HB; have HO_366001 := n0_; have BK360 := n1_; have BK365 := n2_; have BK376 := n3_; have BK383 := n4_; have BK394 := n5_; have HB := n6_; have BK434 := n7_; have GW434 := n8_; have GE434 := n9_; have NB360_434 := n10_; have NB434_360 := n11_; have NB365_434 := n12_; have NB434_365 := n13_; have NB376_434 := n14_; have NB434_376 := n15_; have NB383_434 := n16_; have NB434_383 := n17_; have NB394_434 := n18_; have NB434_394 := n19_; clear n0_ n1_ n2_ n3_ n4_ n5_ n6_ n7_ n8_ n9_ n10_ n11_ n12_ n13_ n14_ n15_ n16_ n17_ n18_ n19_; clear hb hbox hg; have hnb122 := NB434_360.out; have hnc122 := NB360_434.out; have hnb123 := NB434_365.out; have hnc123 := NB365_434.out; have hnb124 := NB434_376.out; have hnc124 := NB376_434.out; have hnb125 := NB434_383.out; have hnc125 := NB383_434.out; have hnb126 := NB434_394.out; have hnc126 := NB394_434.out; obtain ⟨hcz127_0, hcz127_1, hcz127_2, hcz127_3, hcz127_4⟩ := cl5 BK434.out; obtain ⟨hfz127_0, hfz127_1, hfz127_2, hfz127_3, hfz127_4⟩ := fr5 BK434.out))
       have n0_ : Aside0 (Kd.V (Kd.int .i64) 3 (((((w121.setCell ⟨gb434, 0, none⟩ (.bool t429)).setCell ⟨gb434, 1, none⟩ (.int .u64 t430)).setCell ⟨gb434, 2, none⟩ (.int .u64 t431)).setCell ⟨gb434, 3, none⟩ (.int .u64 t432)).setCell ⟨gb434, 4, none⟩ (.int .u64 t433)) w.heap.size (fun k_ => k_ ≠ gb360 ∧ k_ ≠ gb365 ∧ k_ ≠ gb376 ∧ k_ ≠ gb383 ∧ k_ ≠ gb394 ∧ k_ ≠ gb434) (.slice Ao19 t362.length co19) t362) := ⟨by (with_reducible repeat (first | apply Kd.V_alloc | apply Kd.V_drewN | apply Kd.V_drew)); exact Kd.V_mono (Kd.V_far (p := ⟨gb434, 4, none⟩) (Kd.V_far (p := ⟨gb434, 3, none⟩) (Kd.V_far (p := ⟨gb434, 2, none⟩) (Kd.V_far (p := ⟨gb434, 1, none⟩) (Kd.V_far (p := ⟨gb434, 0, none⟩) (Kd.V_mono HO_366001.out (fun k_ hk => (⟨hk, hk.2⟩ : _ ∧ k_ ≠ gb434))) (fun _ hk => hk.2) (.bool t429)) (fun _ hk => hk.2) (.int .u64 t430)) (fun _ hk => hk.2) (.int .u64 t431)) (fun _ hk => hk.2) (.int .u64 t432)) (fun _ hk => hk.2) (.int .u64 t433)) (fun _ hk => ⟨hk.1.1.1, ⟨hk.1.1.2.1, ⟨hk.1.1.2.2.1, ⟨hk.1.1.2.2.2.1, ⟨hk.1.1.2.2.2.2, hk.1.2⟩⟩⟩⟩⟩)⟩
       have n1_ : Aside0 ((((((w121.setCell ⟨gb434, 0, none⟩ (.bool t429)).setCell ⟨gb434, 1, none⟩ (.int .u64 t430)).setCell ⟨gb434, 2, none⟩ (.int .u64 t431)).setCell ⟨gb434, 3, none⟩ (.int .u64 t432)).setCell ⟨gb434, 4, none⟩ (.int .u64 t433)).heap[gb360]? = some (.cells #[.bool a0_0, .int .u64 a0_1, .int .u64 a0_2, .int .u64 a0_3, .int .u64 a0_4] 27 (0, 0))) := ⟨by repeat (with_reducible first | exact lb BK360.out | refine blk_far ?_ NB360_434.out _ | refine cn ?_ _ | refine cd ?_ | refine ca ?_ _)⟩
       have n2_ : Aside0 ((((((w121.setCell ⟨gb434, 0, none⟩ (.bool t429)).setCell ⟨gb434, 1, none⟩ (.int .u64 t430)).setCell ⟨gb434, 2, none⟩ (.int .u64 t431)).setCell ⟨gb434, 3, none⟩ (.int .u64 t432)).setCell ⟨gb434, 4, none⟩ (.int .u64 t433)).heap[gb365]? = some (.cells #[.bool t361, .slice Ao19 t362.length co19] 38 (0, 0))) := ⟨by repeat (with_reducible first | exact lb BK365.out | refine blk_far ?_ NB365_434.out _ | refine cn ?_ _ | refine cd ?_ | refine ca ?_ _)⟩
       have n3_ : Aside0 ((((((w121.setCell ⟨gb434, 0, none⟩ (.bool t429)).setCell ⟨gb434, 1, none⟩ (.int .u64 t430)).setCell ⟨gb434, 2, none⟩ (.int .u64 t431)).setCell ⟨gb434, 3, none⟩ (.int .u64 t432)).setCell ⟨gb434, 4, none⟩ (.int .u64 t433)).heap[gb376]? = some (.cells #[.bool t370, .int .u64 t371, .int .u64 t372, .int .u64 t373, .int .u64 t374] 27 (0, 0))) := ⟨by repeat (with_reducible first | exact lb BK376.out | refine blk_far ?_ NB376_434.out _ | refine cn ?_ _ | refine cd ?_ | refine ca ?_ _)⟩
       have n4_ : Aside0 ((((((w121.setCell ⟨gb434, 0, none⟩ (.bool t429)).setCell ⟨gb434, 1, none⟩ (.int .u64 t430)).setCell ⟨gb434, 2, none⟩ (.int .u64 t431)).setCell ⟨gb434, 3, none⟩ (.int .u64 t432)).setCell ⟨gb434, 4, none⟩ (.int .u64 t433)).heap[gb383]? = some (.cells #[.bool t377, .int .u64 t378, .int .u64 t379, .int .u64 t380, .int .u64 t381] 27 (0, 0))) := ⟨by repeat (with_reducible first | exact lb BK383.out | refine blk_far ?_ NB383_434.out _ | refine cn ?_ _ | refine cd ?_ | refine ca ?_ _)⟩
       have n5_ : Aside0 ((((((w121.setCell ⟨gb434, 0, none⟩ (.bool t429)).setCell ⟨gb434, 1, none⟩ (.int .u64 t430)).setCell ⟨gb434, 2, none⟩ (.int .u64 t431)).setCell ⟨gb434, 3, none⟩ (.int .u64 t432)).setCell ⟨gb434, 4, none⟩ (.int .u64 t433)).heap[gb394]? = some (.cells #[.bool t388, .int .u64 t389, .int .u64 t390, .int .u64 t391, .int .u64 t392] 27 (0, 0))) := ⟨by repeat (with_reducible first | exact lb BK394.out | refine blk_far ?_ NB394_434.out _ | refine cn ?_ _ | refine cd ?_ | refine ca ?_ _)⟩
       have n6_ : Aside0 ((((((w121.setCell ⟨gb434, 0, none⟩ (.bool t429)).setCell ⟨gb434, 1, none⟩ (.int .u64 t430)).setCell ⟨gb434, 2, none⟩ (.int .u64 t431)).setCell ⟨gb434, 3, none⟩ (.int .u64 t432)).setCell ⟨gb434, 4, none⟩ (.int .u64 t433)).heap[gb434]? = some (.cells #[.bool t429, .int .u64 t430, .int .u64 t431, .int .u64 t432, .int .u64 t433] 27 (0, 0))) := ⟨by repeat (with_reducible first | exact bp5 (lb BK434.out) | refine cn ?_ _ | refine cd ?_ | refine ca ?_ _)⟩
       have n7_ : Aside0 (Below w.heap.size w (((((w121.setCell ⟨gb434, 0, none⟩ (.bool t429)).setCell ⟨gb434, 1, none⟩ (.int .u64 t430)).setCell ⟨gb434, 2, none⟩ (.int .u64 t431)).setCell ⟨gb434, 3, none⟩ (.int .u64 t432)).setCell ⟨gb434, 4, none⟩ (.int .u64 t433))) := ⟨by repeat (first | (with_reducible first | exact HB.out | apply qa | apply qn | apply qd | refine qs ?_ GE360.out | refine qs ?_ GE365.out | refine qs ?_ GE376.out | refine qs ?_ GE383.out | refine qs ?_ GE394.out | refine qs ?_ GE434.out) | exact HB.out)⟩
       (try clear HO_366001)
       (try clear BK360)
       (try clear BK365)
       (try clear BK376)
       (try clear BK383)
       (try clear BK394)
       (try clear BK434)
       (try clear HB)
       generalize (((((w121.setCell ⟨gb434, 0, none⟩ (.bool t429)).setCell ⟨gb434, 1, none⟩ (.int .u64 t430)).setCell ⟨gb434, 2, none⟩ (.int .u64 t431)).setCell ⟨gb434, 3, none⟩ (.int .u64 t432)).setCell ⟨gb434, 4, none⟩ (.int .u64 t433)) = w128 at n0_ n1_ n2_ n3_ n4_ n5_ n6_ n7_ ⊢
       have HO_366001 := n0_
       have BK360 := n1_
       have BK365 := n2_
       have BK376 := n3_
       have BK383 := n4_
       have BK394 := n5_
       have BK434 := n6_
       have HB := n7_
       clear n0_ n1_ n2_ n3_ n4_ n5_ n6_ n7_
       have n0_ := Aside0.mk (Kd.V_drew HO_366001.out)
       have n1_ := Aside0.mk (blk_drew BK360.out)
       have n2_ := Aside0.mk (blk_drew BK365.out)
       have n3_ := Aside0.mk (blk_drew BK376.out)
       have n4_ := Aside0.mk (blk_drew BK383.out)
       have n5_ := Aside0.mk (blk_drew BK394.out)
       have n6_ := Aside0.mk (blk_drew BK434.out)
       have n7_ := Aside0.mk (below_drew1 HB.out)
       clear HO_366001
       clear BK360
       clear BK365
       clear BK376
       clear BK383
       clear BK394
       clear BK434
       clear HB
       have HO_366001 := n0_
       have BK360 := n1_
       have BK365 := n2_
       have BK376 := n3_
       have BK383 := n4_
       have BK394 := n5_
       have BK434 := n6_
       have HB := n7_
       clear n0_ n1_ n2_ n3_ n4_ n5_ n6_ n7_
       refine start_ (n := 51) (S := fun w' => w'.cell? ⟨gb360, 0, none⟩ = some (.bool a0_0) ∧ w'.cell? ⟨gb360, 1, none⟩ = some (.int .u64 a0_1) ∧ w'.cell? ⟨gb360, 2, none⟩ = some (.int .u64 a0_2) ∧ w'.cell? ⟨gb360, 3, none⟩ = some (.int .u64 a0_3) ∧ w'.cell? ⟨gb360, 4, none⟩ = some (.int .u64 a0_4) ∧ w'.cell? ⟨gb376, 0, none⟩ = some (.bool t370) ∧ w'.cell? ⟨gb376, 1, none⟩ = some (.int .u64 t371) ∧ w'.cell? ⟨gb376, 2, none⟩ = some (.int .u64 t372) ∧ w'.cell? ⟨gb376, 3, none⟩ = some (.int .u64 t373) ∧ w'.cell? ⟨gb376, 4, none⟩ = some (.int .u64 t374) ∧ w'.cell? ⟨gb434, 0, none⟩ = some (.bool t429) ∧ w'.cell? ⟨gb434, 1, none⟩ = some (.int .u64 t430) ∧ w'.cell? ⟨gb434, 2, none⟩ = some (.int .u64 t431) ∧ w'.cell? ⟨gb434, 3, none⟩ = some (.int .u64 t432) ∧ w'.cell? ⟨gb434, 4, none⟩ = some (.int .u64 t433) ∧ w'.cell? ⟨gb383, 0, none⟩ = some (.bool t377) ∧ w'.cell? ⟨gb383, 1, none⟩ = some (.int .u64 t378) ∧ w'.cell? ⟨gb383, 2, none⟩ = some (.int .u64 t379) ∧ w'.cell? ⟨gb383, 3, none⟩ = some (.int .u64 t380) ∧ w'.cell? ⟨gb383, 4, none⟩ = some (.int .u64 t381) ∧ w'.cell? ⟨gb365, 0, none⟩ = some (.bool t361) ∧ w'.cell? ⟨gb365, 1, none⟩ = some (.slice Ao19 t362.length co19) ∧ w'.cell? ⟨gb394, 0, none⟩ = some (.bool t388) ∧ w'.cell? ⟨gb394, 1, none⟩ = some (.int .u64 t389) ∧ w'.cell? ⟨gb394, 2, none⟩ = some (.int .u64 t390) ∧ w'.cell? ⟨gb394, 3, none⟩ = some (.int .u64 t391) ∧ w'.cell? ⟨gb394, 4, none⟩ = some (.int .u64 t392)) (ds := []) #[Ff, Ff, Ff, Ff, Ff, Ff, Ff, Ff, Ff, Ff, Ff, Ff, Ff, Ff, Ff, Ff, Ff, Ff, Ff, Ff, Ff, Ff, Ff, Ff, Ff, Ff, Ff, Ff, Ff, Ff, Ff, Ff, Ff, Ff, Ff, Ff, Ff, Ff, Ff, Ff, Ff, Ff, Ff, Ff, Ff, Ff, Ff, Ff, Ff, Ff, Ff] (by kernel_rfl) rfl rfl ⟨(blk_cell BK360.out 0).trans rfl, (blk_cell BK360.out 1).trans rfl, (blk_cell BK360.out 2).trans rfl, (blk_cell BK360.out 3).trans rfl, (blk_cell BK360.out 4).trans rfl, (blk_cell BK376.out 0).trans rfl, (blk_cell BK376.out 1).trans rfl, (blk_cell BK376.out 2).trans rfl, (blk_cell BK376.out 3).trans rfl, (blk_cell BK376.out 4).trans rfl, (blk_cell BK434.out 0).trans rfl, (blk_cell BK434.out 1).trans rfl, (blk_cell BK434.out 2).trans rfl, (blk_cell BK434.out 3).trans rfl, (blk_cell BK434.out 4).trans rfl, (blk_cell BK383.out 0).trans rfl, (blk_cell BK383.out 1).trans rfl, (blk_cell BK383.out 2).trans rfl, (blk_cell BK383.out 3).trans rfl, (blk_cell BK383.out 4).trans rfl, (blk_cell BK365.out 0).trans rfl, (blk_cell BK365.out 1).trans rfl, (blk_cell BK394.out 0).trans rfl, (blk_cell BK394.out 1).trans rfl, (blk_cell BK394.out 2).trans rfl, (blk_cell BK394.out 3).trans rfl, (blk_cell BK394.out 4).trans rfl⟩ (fun hHeld => ?_); refine with_tabW parquetlaw01_WideOnes.tab12 parquetlaw01_WideOnes.bits12 (fun HT_ HW_ => ?_)
       generalize w128.drew = w129 at HO_366001 BK360 BK365 BK376 BK383 BK394 BK434 HB hHeld ⊢
       refine take_ (i := 0) (N := some 95) (v := ?_) (a' := ?_) #[Tt, Ff, Ff, Ff, Ff, Ff, Ff, Ff, Ff, Ff, Ff, Ff, Ff, Ff, Ff, Ff, Ff, Ff, Ff, Ff, Ff, Ff, Ff, Ff, Ff, Ff, Ff, Ff, Ff, Ff, Ff, Ff, Ff, Ff, Ff, Ff, Ff, Ff, Ff, Ff, Ff, Ff, Ff, Ff, Ff, Ff, Ff, Ff, Ff, Ff, Ff] rfl rfl (take_ofW HT_.out HW_.out (by kernel_rfl)) (fun _ _ _ h => h) (Or.inl ⟨by rfl, ?_⟩) hHeld ?_ ?_
       rotate_left
       ·rintro w' ⟨s0, s1, s2, s3, s4, s5, s6, s7, s8, s9, s10, s11, s12, s13, s14, s15, s16, s17, s18, s19, s20, s21, s22, s23, s24, s25, s26⟩
        go_simp
        with_reducible rfl
       rotate_left
       ·simp only [Act.put, List.setIfInBounds_toArray, List.set_cons_zero, List.set_cons_succ, i64_w, i32_w]
        rfl
       refine take_ (i := 2) (N := some 97) (v := ?_) (a' := ?_) #[Tt, Ff, Tt, Ff, Ff, Ff, Ff, Ff, Ff, Ff, Ff, Ff, Ff, Ff, Ff, Ff, Ff, Ff, Ff, Ff, Ff, Ff, Ff, Ff, Ff, Ff, Ff, Ff, Ff, Ff, Ff, Ff, Ff, Ff, Ff, Ff, Ff, Ff, Ff, Ff, Ff, Ff, Ff, Ff, Ff, Ff, Ff, Ff, Ff, Ff, Ff] rfl rfl (take_ofW HT_.out HW_.out (by kernel_rfl)) (fun _ _ _ h => h) (Or.inl ⟨by rfl, ?_⟩) hHeld ?_ ?_
       rotate_left
       ·rintro w' ⟨s0, s1, s2, s3, s4, s5, s6, s7, s8, s9, s10, s11, s12, s13, s14, s15, s16, s17, s18, s19, s20, s21, s22, s23, s24, s25, s26⟩
        go_simp
        with_reducible rfl
       rotate_left
       ·simp only [Act.put, List.setIfInBounds_toArray, List.set_cons_zero, List.set_cons_succ, i64_w, i32_w]
        rfl
       refine one_ (i := 1) (N := some 96) #[Tt, Tt, Tt, Ff, Ff, Ff, Ff, Ff, Ff, Ff, Ff, Ff, Ff, Ff, Ff, Ff, Ff, Ff, Ff, Ff, Ff, Ff, Ff, Ff, Ff, Ff, Ff, Ff, Ff, Ff, Ff, Ff, Ff, Ff, Ff, Ff, Ff, Ff, Ff, Ff, Ff, Ff, Ff, Ff, Ff, Ff, Ff, Ff, Ff, Ff, Ff] rfl rfl (one_of HT_.out (by kernel_rfl)) (by decide) (fun K hK => ?_)
       refine goes_ Try.func39 (by kernel_rfl) rfl #[.agg #[.bool a0_0, .int .u64 a0_1, .int .u64 a0_2, .int .u64 a0_3, .int .u64 a0_4]] (by rfl) rfl rfl (by (try simp only [List.map_toArray, List.map_cons, List.map_nil]); first | done | rfl | (simp only [List.length_drop, List.length_take]; rfl)) ?_
       with_reducible refine (wide_Neg.calls a0_0 a0_1 a0_2 a0_3 a0_4 t435 t436 t437 t438 t439 _ A98.out).mono ?_
       rintro e w130 ⟨rfl, hb⟩
       refine ⟨_, rfl, ?_⟩
       have n0_ := Aside0.mk (Kd.V_below (by (with_reducible repeat (first | apply Kd.V_alloc | apply Kd.V_drewN | apply Kd.V_drew)); exact HO_366001.out) hb)
       have n1_ := bb BK360 hb
       have n2_ := bb BK365 hb
       have n3_ := bb BK376 hb
       have n4_ := bb BK383 hb
       have n5_ := bb BK394 hb
       have n6_ := bb BK434 hb
       have n7_ := Aside0.mk (below_step (by repeat (first | (with_reducible first | exact HB.out | apply qa | apply qn | apply qd | refine qs ?_ GE360.out | refine qs ?_ GE365.out | refine qs ?_ GE376.out | refine qs ?_ GE383.out | refine qs ?_ GE394.out | refine qs ?_ GE434.out) | exact HB.out)) hb)
       clear HO_366001
       clear BK360
       clear BK365
       clear BK376
       clear BK383
       clear BK394
       clear BK434
       clear HB
       have HO_366001 := n0_
       have BK360 := n1_
       have BK365 := n2_
       have BK376 := n3_
       have BK383 := n4_
       have BK394 := n5_
       have BK434 := n6_
       have HB := n7_
       clear n0_ n1_ n2_ n3_ n4_ n5_ n6_ n7_
       (try clear hb)
       (try clear hb2)
       (try clear hk)
       (try clear hi)
       refine hK.out _ _ ⟨(blk_cell BK360.out 0).trans rfl, (blk_cell BK360.out 1).trans rfl, (blk_cell BK360.out 2).trans rfl, (blk_cell BK360.out 3).trans rfl, (blk_cell BK360.out 4).trans rfl, (blk_cell BK376.out 0).trans rfl, (blk_cell BK376.out 1).trans rfl, (blk_cell BK376.out 2).trans rfl, (blk_cell BK376.out 3).trans rfl, (blk_cell BK376.out 4).trans rfl, (blk_cell BK434.out 0).trans rfl, (blk_cell BK434.out 1).trans rfl, (blk_cell BK434.out 2).trans rfl, (blk_cell BK434.out 3).trans rfl, (blk_cell BK434.out 4).trans rfl, (blk_cell BK383.out 0).trans rfl, (blk_cell BK383.out 1).trans rfl, (blk_cell BK383.out 2).trans rfl, (blk_cell BK383.out 3).trans rfl, (blk_cell BK383.out 4).trans rfl, (blk_cell BK365.out 0).trans rfl, (blk_cell BK365.out 1).trans rfl, (blk_cell BK394.out 0).trans rfl, (blk_cell BK394.out 1).trans rfl, (blk_cell BK394.out 2).trans rfl, (blk_cell BK394.out 3).trans rfl, (blk_cell BK394.out 4).trans rfl⟩ (fun hHeld => ?_)
       clear hK K
       refine norm_ (a' := ?_) ?_ ?_
       rotate_left
       ·show Act.put _ (some 96) _ = _
        simp only [Act.put, List.setIfInBounds_toArray, List.set_cons_zero, List.set_cons_succ, i64_w, i32_w]
        rfl
       refine pure_ (i := 3) (N := some 98) (v := ?_) (a' := ?_) #[Tt, Tt, Tt, Tt, Ff, Ff, Ff, Ff, Ff, Ff, Ff, Ff, Ff, Ff, Ff, Ff, Ff, Ff, Ff, Ff, Ff, Ff, Ff, Ff, Ff, Ff, Ff, Ff, Ff, Ff, Ff, Ff, Ff, Ff, Ff, Ff, Ff, Ff, Ff, Ff, Ff, Ff, Ff, Ff, Ff, Ff, Ff, Ff, Ff, Ff, Ff] rfl rfl (any_of HT_.out (by kernel_rfl)) (fun _ _ _ h => h) (Or.inl ⟨by rfl, ?_⟩) ?_ ?_
       rotate_left
       ·intro w'
        go_simp
        with_reducible rfl
       rotate_left
       ·simp only [Act.put, List.setIfInBounds_toArray, List.set_cons_zero, List.set_cons_succ, i64_w, i32_w]
        rfl
       refine pure_ (i := 4) (N := some 99) (v := ?_) (a' := ?_) #[Tt, Tt, Tt, Tt, Tt, Ff, Ff, Ff, Ff, Ff, Ff, Ff, Ff, Ff, Ff, Ff, Ff, Ff, Ff, Ff, Ff, Ff, Ff, Ff, Ff, Ff, Ff, Ff, Ff, Ff, Ff, Ff, Ff, Ff, Ff, Ff, Ff, Ff, Ff, Ff, Ff, Ff, Ff, Ff, Ff, Ff, Ff, Ff, Ff, Ff, Ff] rfl rfl (any_of HT_.out (by kernel_rfl)) (fun _ _ _ h => h) (Or.inl ⟨by rfl, ?_⟩) ?_ ?_
       rotate_left
       ·intro w'
        go_simp
        with_reducible rfl
       rotate_left
       ·simp only [Act.put, List.setIfInBounds_toArray, List.set_cons_zero, List.set_cons_succ, i64_w, i32_w]
        rfl
       refine take_ (i := 5) (N := some 100) (v := ?_) (a' := ?_) #[Tt, Tt, Tt, Tt, Tt, Tt, Ff, Ff, Ff, Ff, Ff, Ff, Ff, Ff, Ff, Ff, Ff, Ff, Ff, Ff, Ff, Ff, Ff, Ff, Ff, Ff, Ff, Ff, Ff, Ff, Ff, Ff, Ff, Ff, Ff, Ff, Ff, Ff, Ff, Ff, Ff, Ff, Ff, Ff, Ff, Ff, Ff, Ff, Ff, Ff, Ff] rfl rfl (take_ofW HT_.out HW_.out (by kernel_rfl)) (fun _ _ _ h => h) (Or.inl ⟨by rfl, ?_⟩) hHeld ?_ ?_
       rotate_left
       ·rintro w' ⟨s0, s1, s2, s3, s4, s5, s6, s7, s8, s9, s10, s11, s12, s13, s14, s15, s16, s17, s18, s19, s20, s21, s22, s23, s24, s25, s26⟩
        go_simp
        with_reducible rfl
       rotate_left
       ·simp only [Act.put, List.setIfInBounds_toArray, List.set_cons_zero, List.set_cons_succ, i64_w, i32_w]
        rfl
       refine take_ (i := 6) (N := some 101) (v := ?_) (a' := ?_) #[Tt, Tt, Tt, Tt, Tt, Tt, Tt, Ff, Ff, Ff, Ff, Ff, Ff, Ff, Ff, Ff, Ff, Ff, Ff, Ff, Ff, Ff, Ff, Ff, Ff, Ff, Ff, Ff, Ff, Ff, Ff, Ff, Ff, Ff, Ff, Ff, Ff, Ff, Ff, Ff, Ff, Ff, Ff, Ff, Ff, Ff, Ff, Ff, Ff, Ff, Ff] rfl rfl (take_ofW HT_.out HW_.out (by kernel_rfl)) (fun _ _ _ h => h) (Or.inl ⟨by rfl, ?_⟩) hHeld ?_ ?_
       rotate_left
       ·rintro w' ⟨s0, s1, s2, s3, s4, s5, s6, s7, s8, s9, s10, s11, s12, s13, s14, s15, s16, s17, s18, s19, s20, s21, s22, s23, s24, s25, s26⟩
        go_simp
        with_reducible rfl
       rotate_left
       ·simp only [Act.put, List.setIfInBounds_toArray, List.set_cons_zero, List.set_cons_succ, i64_w, i32_w]
        rfl
       refine pure_ (i := 7) (N := some 102) (v := ?_) (a' := ?_) #[Tt, Tt, Tt, Tt, Tt, Tt, Tt, Tt, Ff, Ff, Ff, Ff, Ff, Ff, Ff, Ff, Ff, Ff, Ff, Ff, Ff, Ff, Ff, Ff, Ff, Ff, Ff, Ff, Ff, Ff, Ff, Ff, Ff, Ff, Ff, Ff, Ff, Ff, Ff, Ff, Ff, Ff, Ff, Ff, Ff, Ff, Ff, Ff, Ff, Ff, Ff] rfl rfl (any_of HT_.out (by kernel_rfl)) (fun _ _ _ h => h) (Or.inl ⟨by rfl, ?_⟩) ?_ ?_
       rotate_left
       ·intro w'
        go_simp
        with_reducible rfl
       rotate_left
       ·simp only [Act.put, List.setIfInBounds_toArray, List.set_cons_zero, List.set_cons_succ, i64_w, i32_w]
        rfl
       refine pure_ (i := 8) (N := some 103) (v := ?_) (a' := ?_) #[Tt, Tt, Tt, Tt, Tt, Tt, Tt, Tt, Tt, Ff, Ff, Ff, Ff, Ff, Ff, Ff, Ff, Ff, Ff, Ff, Ff, Ff, Ff, Ff, Ff, Ff, Ff, Ff, Ff, Ff, Ff, Ff, Ff, Ff, Ff, Ff, Ff, Ff, Ff, Ff, Ff, Ff, Ff, Ff, Ff, Ff, Ff, Ff, Ff, Ff, Ff] rfl rfl (any_of HT_.out (by kernel_rfl)) (fun _ _ _ h => h) (Or.inl ⟨by rfl, ?_⟩) ?_ ?_
       rotate_left
       ·intro w'
        go_simp
        with_reducible rfl
       rotate_left
       ·simp only [Act.put, List.setIfInBounds_toArray, List.set_cons_zero, List.set_cons_succ, i64_w, i32_w]
        rfl
       refine pure_ (i := 9) (N := some 104) (v := ?_) (a' := ?_) #[Tt, Tt, Tt, Tt, Tt, Tt, Tt, Tt, Tt, Tt, Ff, Ff, Ff, Ff, Ff, Ff, Ff, Ff, Ff, Ff, Ff, Ff, Ff, Ff, Ff, Ff, Ff, Ff, Ff, Ff, Ff, Ff, Ff, Ff, Ff, Ff, Ff, Ff, Ff, Ff, Ff, Ff, Ff, Ff, Ff, Ff, Ff, Ff, Ff, Ff, Ff] rfl rfl (any_of HT_.out (by kernel_rfl)) (fun _ _ _ h => h) (Or.inl ⟨by rfl, ?_⟩) ?_ ?_
       rotate_left
       ·intro w'
        go_simp
        with_reducible rfl
       rotate_left
       ·simp only [Act.put, List.setIfInBounds_toArray, List.set_cons_zero, List.set_cons_succ, i64_w, i32_w]
        rfl
       refine take_ (i := 10) (N := some 105) (v := ?_) (a' := ?_) #[Tt, Tt, Tt, Tt, Tt, Tt, Tt, Tt, Tt, Tt, Tt, Ff, Ff, Ff, Ff, Ff, Ff, Ff, Ff, Ff, Ff, Ff, Ff, Ff, Ff, Ff, Ff, Ff, Ff, Ff, Ff, Ff, Ff, Ff, Ff, Ff, Ff, Ff, Ff, Ff, Ff, Ff, Ff, Ff, Ff, Ff, Ff, Ff, Ff, Ff, Ff] rfl rfl (take_ofW HT_.out HW_.out (by kernel_rfl)) (fun _ _ _ h => h) (Or.inl ⟨by rfl, ?_⟩) hHeld ?_ ?_
       rotate_left
       ·rintro w' ⟨s0, s1, s2, s3, s4, s5, s6, s7, s8, s9, s10, s11, s12, s13, s14, s15, s16, s17, s18, s19, s20, s21, s22, s23, s24, s25, s26⟩
        go_simp
        with_reducible rfl
       rotate_left
       ·simp only [Act.put, List.setIfInBounds_toArray, List.set_cons_zero, List.set_cons_succ, i64_w, i32_w]
        rfl
       refine take_ (i := 12) (N := some 107) (v := ?_) (a' := ?_) #[Tt, Tt, Tt, Tt, Tt, Tt, Tt, Tt, Tt, Tt, Tt, Ff, Tt, Ff, Ff, Ff, Ff, Ff, Ff, Ff, Ff, Ff, Ff, Ff, Ff, Ff, Ff, Ff, Ff, Ff, Ff, Ff, Ff, Ff, Ff, Ff, Ff, Ff, Ff, Ff, Ff, Ff, Ff, Ff, Ff, Ff, Ff, Ff, Ff, Ff, Ff] rfl rfl (take_ofW HT_.out HW_.out (by kernel_rfl)) (fun _ _ _ h => h) (Or.inl ⟨by rfl, ?_⟩) hHeld ?_ ?_
       rotate_left
       ·rintro w' ⟨s0, s1, s2, s3, s4, s5, s6, s7, s8, s9, s10, s11, s12, s13, s14, s15, s16, s17, s18, s19, s20, s21, s22, s23, s24, s25, s26⟩
        go_simp
        with_reducible rfl
       rotate_left
       ·simp only [Act.put, List.setIfInBounds_toArray, List.set_cons_zero, List.set_cons_succ, i64_w, i32_w]
        rfl
       refine one_ (i := 11) (N := some 106) #[Tt, Tt, Tt, Tt, Tt, Tt, Tt, Tt, Tt, Tt, Tt, Tt, Tt, Ff, Ff, Ff, Ff, Ff, Ff, Ff, Ff, Ff, Ff, Ff, Ff, Ff, Ff, Ff, Ff, Ff, Ff, Ff, Ff, Ff, Ff, Ff, Ff, Ff, Ff, Ff, Ff, Ff, Ff, Ff, Ff, Ff, Ff, Ff, Ff, Ff, Ff] rfl rfl (one_of HT_.out (by kernel_rfl)) (by decide) (fun K hK => ?_)
       refine goes_ Try.func42 (by kernel_rfl) rfl #[.agg #[.bool a0_0, .int .u64 a0_1, .int .u64 a0_2, .int .u64 a0_3, .int .u64 a0_4]] (by rfl) rfl rfl (by (try simp only [List.map_toArray, List.map_cons, List.map_nil]); first | done | rfl | (simp only [List.length_drop, List.length_take]; rfl)) ?_
       with_reducible refine (wide_Sign.calls a0_0 a0_1 a0_2 a0_3 a0_4 t440 _ A101.out).mono ?_
       rintro e w131 ⟨rfl, hb⟩
       refine ⟨_, rfl, ?_⟩
       have n0_ := Aside0.mk (Kd.V_below (by (with_reducible repeat (first | apply Kd.V_alloc | apply Kd.V_drewN | apply Kd.V_drew)); exact HO_366001.out) hb)
       have n1_ := bb BK360 hb
       have n2_ := bb BK365 hb
       have n3_ := bb BK376 hb
       have n4_ := bb BK383 hb
       have n5_ := bb BK394 hb
       have n6_ := bb BK434 hb
       have n7_ := Aside0.mk (below_step (by repeat (first | (with_reducible first | exact HB.out | apply qa | apply qn | apply qd | refine qs ?_ GE360.out | refine qs ?_ GE365.out | refine qs ?_ GE376.out | refine qs ?_ GE383.out | refine qs ?_ GE394.out | refine qs ?_ GE434.out) | exact HB.out)) hb)
       clear HO_366001
       clear BK360
       clear BK365
       clear BK376
       clear BK383
       clear BK394
       clear BK434
       clear HB
       have HO_366001 := n0_
       have BK360 := n1_
       have BK365 := n2_
       have BK376 := n3_
       have BK383 := n4_
       have BK394 := n5_
       have BK434 := n6_
       have HB := n7_
       clear n0_ n1_ n2_ n3_ n4_ n5_ n6_ n7_
       (try clear hb)
       (try clear hb2)
       (try clear hk)
       (try clear hi)
       refine hK.out _ _ ⟨(blk_cell BK360.out 0).trans rfl, (blk_cell BK360.out 1).trans rfl, (blk_cell BK360.out 2).trans rfl, (blk_cell BK360.out 3).trans rfl, (blk_cell BK360.out 4).trans rfl, (blk_cell BK376.out 0).trans rfl, (blk_cell BK376.out 1).trans rfl, (blk_cell BK376.out 2).trans rfl, (blk_cell BK376.out 3).trans rfl, (blk_cell BK376.out 4).trans rfl, (blk_cell BK434.out 0).trans rfl, (blk_cell BK434.out 1).trans rfl, (blk_cell BK434.out 2).trans rfl, (blk_cell BK434.out 3).trans rfl, (blk_cell BK434.out 4).trans rfl, (blk_cell BK383.out 0).trans rfl, (blk_cell BK383.out 1).trans rfl, (blk_cell BK383.out 2).trans rfl, (blk_cell BK383.out 3).trans rfl, (blk_cell BK383.out 4).trans rfl, (blk_cell BK365.out 0).trans rfl, (blk_cell BK365.out 1).trans rfl, (blk_cell BK394.out 0).trans rfl, (blk_cell BK394.out 1).trans rfl, (blk_cell BK394.out 2).trans rfl, (blk_cell BK394.out 3).trans rfl, (blk_cell BK394.out 4).trans rfl⟩ (fun hHeld => ?_)
       clear hK K
       refine norm_ (a' := ?_) ?_ ?_
       rotate_left
       ·show Act.put _ (some 106) _ = _
        simp only [Act.put, List.setIfInBounds_toArray, List.set_cons_zero, List.set_cons_succ, i64_w, i32_w]
        rfl
       refine one_ (i := 13) (N := some 108) #[Tt, Tt, Tt, Tt, Tt, Tt, Tt, Tt, Tt, Tt, Tt, Tt, Tt, Tt, Ff, Ff, Ff, Ff, Ff, Ff, Ff, Ff, Ff, Ff, Ff, Ff, Ff, Ff, Ff, Ff, Ff, Ff, Ff, Ff, Ff, Ff, Ff, Ff, Ff, Ff, Ff, Ff, Ff, Ff, Ff, Ff, Ff, Ff, Ff, Ff, Ff] rfl rfl (one_of HT_.out (by kernel_rfl)) (by decide) (fun K hK => ?_)
       refine goes_ Try.func25 (by kernel_rfl) rfl #[.agg #[.bool t361, .slice Ao19 t362.length co19]] (by rfl) rfl rfl (by (try simp only [List.map_toArray, List.map_cons, List.map_nil]); first | done | rfl | (simp only [List.length_drop, List.length_take]; rfl)) ?_
       with_reducible refine (parquetref01_Num_Sign.calls t361 _ _ t362 t441 _ ?side1 ?side2 A102.out).mono ?_
       (case side1 => repeat (first | exact (Kd.V_reads' HO_366001.out).2.2 | (with_reducible refine Kd.C_alloc ?_ _) | (with_reducible refine Kd.C_drewN ?_ _) | (with_reducible refine Kd.C_drew ?_)))
       (case side2 => exact (Kd.V_reads' HO_366001.out).2.1)
       rintro e w132 ⟨rfl, hb⟩
       refine ⟨_, rfl, ?_⟩
       have n0_ := Aside0.mk (Kd.V_below (by (with_reducible repeat (first | apply Kd.V_alloc | apply Kd.V_drewN | apply Kd.V_drew)); exact HO_366001.out) hb)
       have n1_ := bb BK360 hb
       have n2_ := bb BK365 hb
       have n3_ := bb BK376 hb
       have n4_ := bb BK383 hb
       have n5_ := bb BK394 hb
       have n6_ := bb BK434 hb
       have n7_ := Aside0.mk (below_step (by repeat (first | (with_reducible first | exact HB.out | apply qa | apply qn | apply qd | refine qs ?_ GE360.out | refine qs ?_ GE365.out | refine qs ?_ GE376.out | refine qs ?_ GE383.out | refine qs ?_ GE394.out | refine qs ?_ GE434.out) | exact HB.out)) hb)
       clear HO_366001
       clear BK360
       clear BK365
       clear BK376
       clear BK383
       clear BK394
       clear BK434
       clear HB
       have HO_366001 := n0_
       have BK360 := n1_
       have BK365 := n2_
       have BK376 := n3_
       have BK383 := n4_
       have BK394 := n5_
       have BK434 := n6_
       have HB := n7_
       clear n0_ n1_ n2_ n3_ n4_ n5_ n6_ n7_
       (try clear hb)
       (try clear hb2)
       (try clear hk)
       (try clear hi)
       refine hK.out _ _ ⟨(blk_cell BK360.out 0).trans rfl, (blk_cell BK360.out 1).trans rfl, (blk_cell BK360.out 2).trans rfl, (blk_cell BK360.out 3).trans rfl, (blk_cell BK360.out 4).trans rfl, (blk_cell BK376.out 0).trans rfl, (blk_cell BK376.out 1).trans rfl, (blk_cell BK376.out 2).trans rfl, (blk_cell BK376.out 3).trans rfl, (blk_cell BK376.out 4).trans rfl, (blk_cell BK434.out 0).trans rfl, (blk_cell BK434.out 1).trans rfl, (blk_cell BK434.out 2).trans rfl, (blk_cell BK434.out 3).trans rfl, (blk_cell BK434.out 4).trans rfl, (blk_cell BK383.out 0).trans rfl, (blk_cell BK383.out 1).trans rfl, (blk_cell BK383.out 2).trans rfl, (blk_cell BK383.out 3).trans rfl, (blk_cell BK383.out 4).trans rfl, (blk_cell BK365.out 0).trans rfl, (blk_cell BK365.out 1).trans rfl, (blk_cell BK394.out 0).trans rfl, (blk_cell BK394.out 1).trans rfl, (blk_cell BK394.out 2).trans rfl, (blk_cell BK394.out 3).trans rfl, (blk_cell BK394.out 4).trans rfl⟩ (fun hHeld => ?_)
       clear hK K
       refine norm_ (a' := ?_) ?_ ?_
       rotate_left
       ·show Act.put _ (some 108) _ = _
        simp only [Act.put, List.setIfInBounds_toArray, List.set_cons_zero, List.set_cons_succ, i64_w, i32_w]
        rfl
       refine pure_ (i := 14) (N := some 109) (v := ?_) (a' := ?_) #[Tt, Tt, Tt, Tt, Tt, Tt, Tt, Tt, Tt, Tt, Tt, Tt, Tt, Tt, Tt, Ff, Ff, Ff, Ff, Ff, Ff, Ff, Ff, Ff, Ff, Ff, Ff, Ff, Ff, Ff, Ff, Ff, Ff, Ff, Ff, Ff, Ff, Ff, Ff, Ff, Ff, Ff, Ff, Ff, Ff, Ff, Ff, Ff, Ff, Ff, Ff] rfl rfl (any_of HT_.out (by kernel_rfl)) (fun _ _ _ h => h) (Or.inl ⟨by rfl, ?_⟩) ?_ ?_
       rotate_left
       ·intro w'
        go_simp
        with_reducible rfl
       rotate_left
       ·simp only [Act.put, List.setIfInBounds_toArray, List.set_cons_zero, List.set_cons_succ, i64_w, i32_w]
        rfl
       refine pure_ (i := 15) (N := some 110) (v := ?_) (a' := ?_) #[Tt, Tt, Tt, Tt, Tt, Tt, Tt, Tt, Tt, Tt, Tt, Tt, Tt, Tt, Tt, Tt, Ff, Ff, Ff, Ff, Ff, Ff, Ff, Ff, Ff, Ff, Ff, Ff, Ff, Ff, Ff, Ff, Ff, Ff, Ff, Ff, Ff, Ff, Ff, Ff, Ff, Ff, Ff, Ff, Ff, Ff, Ff, Ff, Ff, Ff, Ff] rfl rfl (any_of HT_.out (by kernel_rfl)) (fun _ _ _ h => h) (Or.inl ⟨by rfl, ?_⟩) ?_ ?_
       rotate_left
       ·intro w'
        go_simp
        with_reducible rfl
       rotate_left
       ·simp only [Act.put, List.setIfInBounds_toArray, List.set_cons_zero, List.set_cons_succ, i64_w, i32_w]
        rfl
       refine pure_ (i := 16) (N := some 111) (v := ?_) (a' := ?_) #[Tt, Tt, Tt, Tt, Tt, Tt, Tt, Tt, Tt, Tt, Tt, Tt, Tt, Tt, Tt, Tt, Tt, Ff, Ff, Ff, Ff, Ff, Ff, Ff, Ff, Ff, Ff, Ff, Ff, Ff, Ff, Ff, Ff, Ff, Ff, Ff, Ff, Ff, Ff, Ff, Ff, Ff, Ff, Ff, Ff, Ff, Ff, Ff, Ff, Ff, Ff] rfl rfl (any_of HT_.out (by kernel_rfl)) (fun _ _ _ h => h) (Or.inl ⟨by rfl, ?_⟩) ?_ ?_
       rotate_left
       ·intro w'
        go_simp
        with_reducible rfl
       rotate_left
       ·simp only [Act.put, List.setIfInBounds_toArray, List.set_cons_zero, List.set_cons_succ, i64_w, i32_w]
        rfl
       refine take_ (i := 17) (N := some 112) (v := ?_) (a' := ?_) #[Tt, Tt, Tt, Tt, Tt, Tt, Tt, Tt, Tt, Tt, Tt, Tt, Tt, Tt, Tt, Tt, Tt, Tt, Ff, Ff, Ff, Ff, Ff, Ff, Ff, Ff, Ff, Ff, Ff, Ff, Ff, Ff, Ff, Ff, Ff, Ff, Ff, Ff, Ff, Ff, Ff, Ff, Ff, Ff, Ff, Ff, Ff, Ff, Ff, Ff, Ff] rfl rfl (take_ofW HT_.out HW_.out (by kernel_rfl)) (fun _ _ _ h => h) (Or.inl ⟨by rfl, ?_⟩) hHeld ?_ ?_
       rotate_left
       ·rintro w' ⟨s0, s1, s2, s3, s4, s5, s6, s7, s8, s9, s10, s11, s12, s13, s14, s15, s16, s17, s18, s19, s20, s21, s22, s23, s24, s25, s26⟩
        go_simp
        with_reducible rfl
       rotate_left
       ·simp only [Act.put, List.setIfInBounds_toArray, List.set_cons_zero, List.set_cons_succ, i64_w, i32_w]
        rfl
       refine take_ (i := 19) (N := some 114) (v := ?_) (a' := ?_) #[Tt, Tt, Tt, Tt, Tt, Tt, Tt, Tt, Tt, Tt, Tt, Tt, Tt, Tt, Tt, Tt, Tt, Tt, Ff, Tt, Ff, Ff, Ff, Ff, Ff, Ff, Ff, Ff, Ff, Ff, Ff, Ff, Ff, Ff, Ff, Ff, Ff, Ff, Ff, Ff, Ff, Ff, Ff, Ff, Ff, Ff, Ff, Ff, Ff, Ff, Ff] rfl rfl (take_ofW HT_.out HW_.out (by kernel_rfl)) (fun _ _ _ h => h) (Or.inl ⟨by rfl, ?_⟩) hHeld ?_ ?_
       rotate_left
       ·rintro w' ⟨s0, s1, s2, s3, s4, s5, s6, s7, s8, s9, s10, s11, s12, s13, s14, s15, s16, s17, s18, s19, s20, s21, s22, s23, s24, s25, s26⟩
        go_simp
        with_reducible rfl
       rotate_left
       ·simp only [Act.put, List.setIfInBounds_toArray, List.set_cons_zero, List.set_cons_succ, i64_w, i32_w]
        rfl
       refine one_ (i := 18) (N := some 113) #[Tt, Tt, Tt, Tt, Tt, Tt, Tt, Tt, Tt, Tt, Tt, Tt, Tt, Tt, Tt, Tt, Tt, Tt, Tt, Tt, Ff, Ff, Ff, Ff, Ff, Ff, Ff, Ff, Ff, Ff, Ff, Ff, Ff, Ff, Ff, Ff, Ff, Ff, Ff, Ff, Ff, Ff, Ff, Ff, Ff, Ff, Ff, Ff, Ff, Ff, Ff] rfl rfl (one_of HT_.out (by kernel_rfl)) (by decide) (fun K hK => ?_)
       refine goes_ Try.func33 (by kernel_rfl) rfl #[.agg #[.bool a0_0, .int .u64 a0_1, .int .u64 a0_2, .int .u64 a0_3, .int .u64 a0_4]] (by rfl) rfl rfl (by (try simp only [List.map_toArray, List.map_cons, List.map_nil]); first | done | rfl | (simp only [List.length_drop, List.length_take]; rfl)) ?_
       with_reducible refine (wide_Text.calls kj78 a0_0 a0_1 a0_2 a0_3 a0_4 t442 _ A104.out).mono ?_
       rintro e w133 ⟨rfl, hb⟩
       refine ⟨_, rfl, ?_⟩
       have n0_ := Aside0.mk (Kd.V_below (by (with_reducible repeat (first | apply Kd.V_alloc | apply Kd.V_drewN | apply Kd.V_drew)); exact HO_366001.out) hb)
       have n1_ := bb BK360 hb
       have n2_ := bb BK365 hb
       have n3_ := bb BK376 hb
       have n4_ := bb BK383 hb
       have n5_ := bb BK394 hb
       have n6_ := bb BK434 hb
       have n7_ := Aside0.mk (below_step (by repeat (first | (with_reducible first | exact HB.out | apply qa | apply qn | apply qd | refine qs ?_ GE360.out | refine qs ?_ GE365.out | refine qs ?_ GE376.out | refine qs ?_ GE383.out | refine qs ?_ GE394.out | refine qs ?_ GE434.out) | exact HB.out)) hb)
       clear HO_366001
       clear BK360
       clear BK365
       clear BK376
       clear BK383
       clear BK394
       clear BK434
       clear HB
       have HO_366001 := n0_
       have BK360 := n1_
       have BK365 := n2_
       have BK376 := n3_
       have BK383 := n4_
       have BK394 := n5_
       have BK434 := n6_
       have HB := n7_
       clear n0_ n1_ n2_ n3_ n4_ n5_ n6_ n7_
       (try clear hb)
       (try clear hb2)
       (try clear hk)
       (try clear hi)
       refine hK.out _ _ ⟨(blk_cell BK360.out 0).trans rfl, (blk_cell BK360.out 1).trans rfl, (blk_cell BK360.out 2).trans rfl, (blk_cell BK360.out 3).trans rfl, (blk_cell BK360.out 4).trans rfl, (blk_cell BK376.out 0).trans rfl, (blk_cell BK376.out 1).trans rfl, (blk_cell BK376.out 2).trans rfl, (blk_cell BK376.out 3).trans rfl, (blk_cell BK376.out 4).trans rfl, (blk_cell BK434.out 0).trans rfl, (blk_cell BK434.out 1).trans rfl, (blk_cell BK434.out 2).trans rfl, (blk_cell BK434.out 3).trans rfl, (blk_cell BK434.out 4).trans rfl, (blk_cell BK383.out 0).trans rfl, (blk_cell BK383.out 1).trans rfl, (blk_cell BK383.out 2).trans rfl, (blk_cell BK383.out 3).trans rfl, (blk_cell BK383.out 4).trans rfl, (blk_cell BK365.out 0).trans rfl, (blk_cell BK365.out 1).trans rfl, (blk_cell BK394.out 0).trans rfl, (blk_cell BK394.out 1).trans rfl, (blk_cell BK394.out 2).trans rfl, (blk_cell BK394.out 3).trans rfl, (blk_cell BK394.out 4).trans rfl⟩ (fun hHeld => ?_)
       clear hK K
       refine norm_ (a' := ?_) ?_ ?_
       rotate_left
       ·show Act.put _ (some 113) _ = _
        simp only [Act.put, List.setIfInBounds_toArray, List.set_cons_zero, List.set_cons_succ, i64_w, i32_w]
        rfl
       refine one_ (i := 20) (N := some 115) #[Tt, Tt, Tt, Tt, Tt, Tt, Tt, Tt, Tt, Tt, Tt, Tt, Tt, Tt, Tt, Tt, Tt, Tt, Tt, Tt, Tt, Ff, Ff, Ff, Ff, Ff, Ff, Ff, Ff, Ff, Ff, Ff, Ff, Ff, Ff, Ff, Ff, Ff, Ff, Ff, Ff, Ff, Ff, Ff, Ff, Ff, Ff, Ff, Ff, Ff, Ff] rfl rfl (one_of HT_.out (by kernel_rfl)) (by decide) (fun K hK => ?_)
       refine goes_ Try.func43 (by kernel_rfl) rfl #[.agg #[.bool t361, .slice Ao19 t362.length co19]] (by rfl) rfl rfl (by (try simp only [List.map_toArray, List.map_cons, List.map_nil]); first | done | rfl | (simp only [List.length_drop, List.length_take]; rfl)) ?_
       with_reducible refine (parquetref01_Num_Text.calls kj78 t361 (fun k_ => (k_ ≠ gb360 ∧ (k_ ≠ gb365 ∧ (k_ ≠ gb376 ∧ (k_ ≠ gb383 ∧ (k_ ≠ gb394 ∧ k_ ≠ gb434)))))) _ _ t362 t443 _ ?side1 A105.out).mono ?_
       (case side1 => exact HO_366001.out)
       rintro e w134 ⟨rfl, hb⟩
       refine ⟨_, rfl, ?_⟩
       have n0_ := Aside0.mk (Kd.V_below (by (with_reducible repeat (first | apply Kd.V_alloc | apply Kd.V_drewN | apply Kd.V_drew)); exact HO_366001.out) hb)
       have n1_ := bb BK360 hb
       have n2_ := bb BK365 hb
       have n3_ := bb BK376 hb
       have n4_ := bb BK383 hb
       have n5_ := bb BK394 hb
       have n6_ := bb BK434 hb
       have n7_ := Aside0.mk (below_step (by repeat (first | (with_reducible first | exact HB.out | apply qa | apply qn | apply qd | refine qs ?_ GE360.out | refine qs ?_ GE365.out | refine qs ?_ GE376.out | refine qs ?_ GE383.out | refine qs ?_ GE394.out | refine qs ?_ GE434.out) | exact HB.out)) hb)
       clear HO_366001
       clear BK360
       clear BK365
       clear BK376
       clear BK383
       clear BK394
       clear BK434
       clear HB
       have HO_366001 := n0_
       have BK360 := n1_
       have BK365 := n2_
       have BK376 := n3_
       have BK383 := n4_
       have BK394 := n5_
       have BK434 := n6_
       have HB := n7_
       clear n0_ n1_ n2_ n3_ n4_ n5_ n6_ n7_
       (try clear hb)
       (try clear hb2)
       (try clear hk)
       (try clear hi)
       refine hK.out _ _ ⟨(blk_cell BK360.out 0).trans rfl, (blk_cell BK360.out 1).trans rfl, (blk_cell BK360.out 2).trans rfl, (blk_cell BK360.out 3).trans rfl, (blk_cell BK360.out 4).trans rfl, (blk_cell BK376.out 0).trans rfl, (blk_cell BK376.out 1).trans rfl, (blk_cell BK376.out 2).trans rfl, (blk_cell BK376.out 3).trans rfl, (blk_cell BK376.out 4).trans rfl, (blk_cell BK434.out 0).trans rfl, (blk_cell BK434.out 1).trans rfl, (blk_cell BK434.out 2).trans rfl, (blk_cell BK434.out 3).trans rfl, (blk_cell BK434.out 4).trans rfl, (blk_cell BK383.out 0).trans rfl, (blk_cell BK383.out 1).trans rfl, (blk_cell BK383.out 2).trans rfl, (blk_cell BK383.out 3).trans rfl, (blk_cell BK383.out 4).trans rfl, (blk_cell BK365.out 0).trans rfl, (blk_cell BK365.out 1).trans rfl, (blk_cell BK394.out 0).trans rfl, (blk_cell BK394.out 1).trans rfl, (blk_cell BK394.out 2).trans rfl, (blk_cell BK394.out 3).trans rfl, (blk_cell BK394.out 4).trans rfl⟩ (fun hHeld => ?_)
       clear hK K
       refine norm_ (a' := ?_) ?_ ?_
       rotate_left
       ·show Act.put _ (some 115) _ = _
        simp only [Act.put, List.setIfInBounds_toArray, List.set_cons_zero, List.set_cons_succ, i64_w, i32_w]
        rfl
       refine pure_ (i := 21) (N := some 116) (v := ?_) (a' := ?_) #[Tt, Tt, Tt, Tt, Tt, Tt, Tt, Tt, Tt, Tt, Tt, Tt, Tt, Tt, Tt, Tt, Tt, Tt, Tt, Tt, Tt, Tt, Ff, Ff, Ff, Ff, Ff, Ff, Ff, Ff, Ff, Ff, Ff, Ff, Ff, Ff, Ff, Ff, Ff, Ff, Ff, Ff, Ff, Ff, Ff, Ff, Ff, Ff, Ff, Ff, Ff] rfl rfl (any_of HT_.out (by kernel_rfl)) (fun _ _ _ h => h) (Or.inl ⟨by rfl, ?_⟩) ?_ ?_
       rotate_left
       ·intro w'
        go_simp
        with_reducible rfl
       rotate_left
       ·simp only [Act.put, List.setIfInBounds_toArray, List.set_cons_zero, List.set_cons_succ, i64_w, i32_w]
        rfl
       refine pure_ (i := 22) (N := some 117) (v := ?_) (a' := ?_) #[Tt, Tt, Tt, Tt, Tt, Tt, Tt, Tt, Tt, Tt, Tt, Tt, Tt, Tt, Tt, Tt, Tt, Tt, Tt, Tt, Tt, Tt, Tt, Ff, Ff, Ff, Ff, Ff, Ff, Ff, Ff, Ff, Ff, Ff, Ff, Ff, Ff, Ff, Ff, Ff, Ff, Ff, Ff, Ff, Ff, Ff, Ff, Ff, Ff, Ff, Ff] rfl rfl (any_of HT_.out (by kernel_rfl)) (fun _ _ _ h => h) (Or.inl ⟨by rfl, ?_⟩) ?_ ?_
       rotate_left
       ·intro w'
        go_simp
        with_reducible rfl
       rotate_left
       ·simp only [Act.put, List.setIfInBounds_toArray, List.set_cons_zero, List.set_cons_succ, i64_w, i32_w]
        rfl
       refine pure_ (i := 23) (N := some 118) (v := ?_) (a' := ?_) #[Tt, Tt, Tt, Tt, Tt, Tt, Tt, Tt, Tt, Tt, Tt, Tt, Tt, Tt, Tt, Tt, Tt, Tt, Tt, Tt, Tt, Tt, Tt, Tt, Ff, Ff, Ff, Ff, Ff, Ff, Ff, Ff, Ff, Ff, Ff, Ff, Ff, Ff, Ff, Ff, Ff, Ff, Ff, Ff, Ff, Ff, Ff, Ff, Ff, Ff, Ff] rfl rfl (any_of HT_.out (by kernel_rfl)) (fun _ _ _ h => h) (Or.inl ⟨by rfl, ?_⟩) ?_ ?_
       rotate_left
       ·intro w'
        go_simp
        with_reducible rfl
       rotate_left
       ·simp only [Act.put, List.setIfInBounds_toArray, List.set_cons_zero, List.set_cons_succ, i64_w, i32_w]
        rfl
       refine pure_ (i := 24) (N := some 119) (v := ?_) (a' := ?_) #[Tt, Tt, Tt, Tt, Tt, Tt, Tt, Tt, Tt, Tt, Tt, Tt, Tt, Tt, Tt, Tt, Tt, Tt, Tt, Tt, Tt, Tt, Tt, Tt, Tt, Ff, Ff, Ff, Ff, Ff, Ff, Ff, Ff, Ff, Ff, Ff, Ff, Ff, Ff, Ff, Ff, Ff, Ff, Ff, Ff, Ff, Ff, Ff, Ff, Ff, Ff] rfl rfl (any_of HT_.out (by kernel_rfl)) (fun _ _ _ h => h) (Or.inl ⟨by rfl, ?_⟩) ?_ ?_
       rotate_left
       ·intro w'
        go_simp
        with_reducible rfl
       rotate_left
       ·simp only [Act.put, List.setIfInBounds_toArray, List.set_cons_zero, List.set_cons_succ, i64_w, i32_w]
        rfl
       refine pure_ (i := 25) (N := some 120) (v := ?_) (a' := ?_) #[Tt, Tt, Tt, Tt, Tt, Tt, Tt, Tt, Tt, Tt, Tt, Tt, Tt, Tt, Tt, Tt, Tt, Tt, Tt, Tt, Tt, Tt, Tt, Tt, Tt, Tt, Ff, Ff, Ff, Ff, Ff, Ff, Ff, Ff, Ff, Ff, Ff, Ff, Ff, Ff, Ff, Ff, Ff, Ff, Ff, Ff, Ff, Ff, Ff, Ff, Ff] rfl rfl (any_of HT_.out (by kernel_rfl)) (fun _ _ _ h => h) (Or.inl ⟨by rfl, ?_⟩) ?_ ?_
       rotate_left
       ·intro w'
        go_simp
        with_reducible rfl
       rotate_left
       ·simp only [Act.put, List.setIfInBounds_toArray, List.set_cons_zero, List.set_cons_succ, i64_w, i32_w]
        rfl
       refine pure_ (i := 26) (N := some 121) (v := ?_) (a' := ?_) #[Tt, Tt, Tt, Tt, Tt, Tt, Tt, Tt, Tt, Tt, Tt, Tt, Tt, Tt, Tt, Tt, Tt, Tt, Tt, Tt, Tt, Tt, Tt, Tt, Tt, Tt, Tt, Ff, Ff, Ff, Ff, Ff, Ff, Ff, Ff, Ff, Ff, Ff, Ff, Ff, Ff, Ff, Ff, Ff, Ff, Ff, Ff, Ff, Ff, Ff, Ff] rfl rfl (any_of HT_.out (by kernel_rfl)) (fun _ _ _ h => h) (Or.inl ⟨by rfl, ?_⟩) ?_ ?_
       rotate_left
       ·intro w'
        go_simp
        with_reducible rfl
       rotate_left
       ·simp only [Act.put, List.setIfInBounds_toArray, List.set_cons_zero, List.set_cons_succ, i64_w, i32_w]
        rfl
       refine pure_ (i := 27) (N := some 122) (v := ?_) (a' := ?_) #[Tt, Tt, Tt, Tt, Tt, Tt, Tt, Tt, Tt, Tt, Tt, Tt, Tt, Tt, Tt, Tt, Tt, Tt, Tt, Tt, Tt, Tt, Tt, Tt, Tt, Tt, Tt, Tt, Ff, Ff, Ff, Ff, Ff, Ff, Ff, Ff, Ff, Ff, Ff, Ff, Ff, Ff, Ff, Ff, Ff, Ff, Ff, Ff, Ff, Ff, Ff] rfl rfl (any_of HT_.out (by kernel_rfl)) (fun _ _ _ h => h) (Or.inl ⟨by rfl, ?_⟩) ?_ ?_
       rotate_left
       ·intro w'
        go_simp
        with_reducible rfl
       rotate_left
       ·simp only [Act.put, List.setIfInBounds_toArray, List.set_cons_zero, List.set_cons_succ, i64_w, i32_w]
        rfl
       refine take_ (i := 29) (N := some 124) (v := ?_) (a' := ?_) #[Tt, Tt, Tt, Tt, Tt, Tt, Tt, Tt, Tt, Tt, Tt, Tt, Tt, Tt, Tt, Tt, Tt, Tt, Tt, Tt, Tt, Tt, Tt, Tt, Tt, Tt, Tt, Tt, Ff, Tt, Ff, Ff, Ff, Ff, Ff, Ff, Ff, Ff, Ff, Ff, Ff, Ff, Ff, Ff, Ff, Ff, Ff, Ff, Ff, Ff, Ff] rfl rfl (take_ofW HT_.out HW_.out (by kernel_rfl)) (fun _ _ _ h => h) (Or.inl ⟨by rfl, ?_⟩) hHeld ?_ ?_
       rotate_left
       ·rintro w' ⟨s0, s1, s2, s3, s4, s5, s6, s7, s8, s9, s10, s11, s12, s13, s14, s15, s16, s17, s18, s19, s20, s21, s22, s23, s24, s25, s26⟩
        go_simp
        with_reducible rfl
       rotate_left
       ·simp only [Act.put, List.setIfInBounds_toArray, List.set_cons_zero, List.set_cons_succ, i64_w, i32_w]
        rfl
       refine one_ (i := 28) (N := some 123) #[Tt, Tt, Tt, Tt, Tt, Tt, Tt, Tt, Tt, Tt, Tt, Tt, Tt, Tt, Tt, Tt, Tt, Tt, Tt, Tt, Tt, Tt, Tt, Tt, Tt, Tt, Tt, Tt, Tt, Tt, Ff, Ff, Ff, Ff, Ff, Ff, Ff, Ff, Ff, Ff, Ff, Ff, Ff, Ff, Ff, Ff, Ff, Ff, Ff, Ff, Ff] rfl rfl (one_of HT_.out (by kernel_rfl)) (by decide) (fun K hK => ?_)
       refine goes_ Try.func38 (by kernel_rfl) rfl #[.int .i64 a1] (by rfl) rfl rfl (by (try simp only [List.map_toArray, List.map_cons, List.map_nil]); first | done | rfl | (simp only [List.length_drop, List.length_take]; rfl)) ?_
       with_reducible refine (wide_Of.calls a1 t444 t445 t446 t447 t448 _ A108.out).mono ?_
       rintro e w135 ⟨rfl, hb⟩
       refine ⟨_, rfl, ?_⟩
       have n0_ := Aside0.mk (Kd.V_below (by (with_reducible repeat (first | apply Kd.V_alloc | apply Kd.V_drewN | apply Kd.V_drew)); exact HO_366001.out) hb)
       have n1_ := bb BK360 hb
       have n2_ := bb BK365 hb
       have n3_ := bb BK376 hb
       have n4_ := bb BK383 hb
       have n5_ := bb BK394 hb
       have n6_ := bb BK434 hb
       have n7_ := Aside0.mk (below_step (by repeat (first | (with_reducible first | exact HB.out | apply qa | apply qn | apply qd | refine qs ?_ GE360.out | refine qs ?_ GE365.out | refine qs ?_ GE376.out | refine qs ?_ GE383.out | refine qs ?_ GE394.out | refine qs ?_ GE434.out) | exact HB.out)) hb)
       clear HO_366001
       clear BK360
       clear BK365
       clear BK376
       clear BK383
       clear BK394
       clear BK434
       clear HB
       have HO_366001 := n0_
       have BK360 := n1_
       have BK365 := n2_
       have BK376 := n3_
       have BK383 := n4_
       have BK394 := n5_
       have BK434 := n6_
       have HB := n7_
       clear n0_ n1_ n2_ n3_ n4_ n5_ n6_ n7_
       (try clear hb)
       (try clear hb2)
       (try clear hk)
       (try clear hi)
       refine hK.out _ _ ⟨(blk_cell BK360.out 0).trans rfl, (blk_cell BK360.out 1).trans rfl, (blk_cell BK360.out 2).trans rfl, (blk_cell BK360.out 3).trans rfl, (blk_cell BK360.out 4).trans rfl, (blk_cell BK376.out 0).trans rfl, (blk_cell BK376.out 1).trans rfl, (blk_cell BK376.out 2).trans rfl, (blk_cell BK376.out 3).trans rfl, (blk_cell BK376.out 4).trans rfl, (blk_cell BK434.out 0).trans rfl, (blk_cell BK434.out 1).trans rfl, (blk_cell BK434.out 2).trans rfl, (blk_cell BK434.out 3).trans rfl, (blk_cell BK434.out 4).trans rfl, (blk_cell BK383.out 0).trans rfl, (blk_cell BK383.out 1).trans rfl, (blk_cell BK383.out 2).trans rfl, (blk_cell BK383.out 3).trans rfl, (blk_cell BK383.out 4).trans rfl, (blk_cell BK365.out 0).trans rfl, (blk_cell BK365.out 1).trans rfl, (blk_cell BK394.out 0).trans rfl, (blk_cell BK394.out 1).trans rfl, (blk_cell BK394.out 2).trans rfl, (blk_cell BK394.out 3).trans rfl, (blk_cell BK394.out 4).trans rfl⟩ (fun hHeld => ?_)
       clear hK K
       refine norm_ (a' := ?_) ?_ ?_
       rotate_left
       ·show Act.put _ (some 123) _ = _
        simp only [Act.put, List.setIfInBounds_toArray, List.set_cons_zero, List.set_cons_succ, i64_w, i32_w]
        rfl
       refine pure_ (i := 30) (N := some 125) (v := ?_) (a' := ?_) #[Tt, Tt, Tt, Tt, Tt, Tt, Tt, Tt, Tt, Tt, Tt, Tt, Tt, Tt, Tt, Tt, Tt, Tt, Tt, Tt, Tt, Tt, Tt, Tt, Tt, Tt, Tt, Tt, Tt, Tt, Tt, Ff, Ff, Ff, Ff, Ff, Ff, Ff, Ff, Ff, Ff, Ff, Ff, Ff, Ff, Ff, Ff, Ff, Ff, Ff, Ff] rfl rfl (any_of HT_.out (by kernel_rfl)) (fun _ _ _ h => h) (Or.inl ⟨by rfl, ?_⟩) ?_ ?_
       rotate_left
       ·intro w'
        go_simp
        with_reducible rfl
       rotate_left
       ·simp only [Act.put, List.setIfInBounds_toArray, List.set_cons_zero, List.set_cons_succ, i64_w, i32_w]
        rfl
       refine pure_ (i := 31) (N := some 126) (v := ?_) (a' := ?_) #[Tt, Tt, Tt, Tt, Tt, Tt, Tt, Tt, Tt, Tt, Tt, Tt, Tt, Tt, Tt, Tt, Tt, Tt, Tt, Tt, Tt, Tt, Tt, Tt, Tt, Tt, Tt, Tt, Tt, Tt, Tt, Tt, Ff, Ff, Ff, Ff, Ff, Ff, Ff, Ff, Ff, Ff, Ff, Ff, Ff, Ff, Ff, Ff, Ff, Ff, Ff] rfl rfl (any_of HT_.out (by kernel_rfl)) (fun _ _ _ h => h) (Or.inl ⟨by rfl, ?_⟩) ?_ ?_
       rotate_left
       ·intro w'
        go_simp
        with_reducible rfl
       rotate_left
       ·simp only [Act.put, List.setIfInBounds_toArray, List.set_cons_zero, List.set_cons_succ, i64_w, i32_w]
        rfl
       refine pure_ (i := 32) (N := some 127) (v := ?_) (a' := ?_) #[Tt, Tt, Tt, Tt, Tt, Tt, Tt, Tt, Tt, Tt, Tt, Tt, Tt, Tt, Tt, Tt, Tt, Tt, Tt, Tt, Tt, Tt, Tt, Tt, Tt, Tt, Tt, Tt, Tt, Tt, Tt, Tt, Tt, Ff, Ff, Ff, Ff, Ff, Ff, Ff, Ff, Ff, Ff, Ff, Ff, Ff, Ff, Ff, Ff, Ff, Ff] rfl rfl (any_of HT_.out (by kernel_rfl)) (fun _ _ _ h => h) (Or.inl ⟨by rfl, ?_⟩) ?_ ?_
       rotate_left
       ·intro w'
        go_simp
        with_reducible rfl
       rotate_left
       ·simp only [Act.put, List.setIfInBounds_toArray, List.set_cons_zero, List.set_cons_succ, i64_w, i32_w]
        rfl
       refine pure_ (i := 33) (N := some 128) (v := ?_) (a' := ?_) #[Tt, Tt, Tt, Tt, Tt, Tt, Tt, Tt, Tt, Tt, Tt, Tt, Tt, Tt, Tt, Tt, Tt, Tt, Tt, Tt, Tt, Tt, Tt, Tt, Tt, Tt, Tt, Tt, Tt, Tt, Tt, Tt, Tt, Tt, Ff, Ff, Ff, Ff, Ff, Ff, Ff, Ff, Ff, Ff, Ff, Ff, Ff, Ff, Ff, Ff, Ff] rfl rfl (any_of HT_.out (by kernel_rfl)) (fun _ _ _ h => h) (Or.inl ⟨by rfl, ?_⟩) ?_ ?_
       rotate_left
       ·intro w'
        go_simp
        with_reducible rfl
       rotate_left
       ·simp only [Act.put, List.setIfInBounds_toArray, List.set_cons_zero, List.set_cons_succ, i64_w, i32_w]
        rfl
       refine pure_ (i := 34) (N := some 129) (v := ?_) (a' := ?_) #[Tt, Tt, Tt, Tt, Tt, Tt, Tt, Tt, Tt, Tt, Tt, Tt, Tt, Tt, Tt, Tt, Tt, Tt, Tt, Tt, Tt, Tt, Tt, Tt, Tt, Tt, Tt, Tt, Tt, Tt, Tt, Tt, Tt, Tt, Tt, Ff, Ff, Ff, Ff, Ff, Ff, Ff, Ff, Ff, Ff, Ff, Ff, Ff, Ff, Ff, Ff] rfl rfl (any_of HT_.out (by kernel_rfl)) (fun _ _ _ h => h) (Or.inl ⟨by rfl, ?_⟩) ?_ ?_
       rotate_left
       ·intro w'
        go_simp
        with_reducible rfl
       rotate_left
       ·simp only [Act.put, List.setIfInBounds_toArray, List.set_cons_zero, List.set_cons_succ, i64_w, i32_w]
        rfl
       refine pure_ (i := 35) (N := some 130) (v := ?_) (a' := ?_) #[Tt, Tt, Tt, Tt, Tt, Tt, Tt, Tt, Tt, Tt, Tt, Tt, Tt, Tt, Tt, Tt, Tt, Tt, Tt, Tt, Tt, Tt, Tt, Tt, Tt, Tt, Tt, Tt, Tt, Tt, Tt, Tt, Tt, Tt, Tt, Tt, Ff, Ff, Ff, Ff, Ff, Ff, Ff, Ff, Ff, Ff, Ff, Ff, Ff, Ff, Ff] rfl rfl (any_of HT_.out (by kernel_rfl)) (fun _ _ _ h => h) (Or.inl ⟨by rfl, ?_⟩) ?_ ?_
       rotate_left
       ·intro w'
        go_simp
        with_reducible rfl
       rotate_left
       ·simp only [Act.put, List.setIfInBounds_toArray, List.set_cons_zero, List.set_cons_succ, i64_w, i32_w]
        rfl
       refine pure_ (i := 36) (N := some 131) (v := ?_) (a' := ?_) #[Tt, Tt, Tt, Tt, Tt, Tt, Tt, Tt, Tt, Tt, Tt, Tt, Tt, Tt, Tt, Tt, Tt, Tt, Tt, Tt, Tt, Tt, Tt, Tt, Tt, Tt, Tt, Tt, Tt, Tt, Tt, Tt, Tt, Tt, Tt, Tt, Tt, Ff, Ff, Ff, Ff, Ff, Ff, Ff, Ff, Ff, Ff, Ff, Ff, Ff, Ff] rfl rfl (any_of HT_.out (by kernel_rfl)) (fun _ _ _ h => h) (Or.inl ⟨by rfl, ?_⟩) ?_ ?_
       rotate_left
       ·intro w'
        go_simp
        with_reducible rfl
       rotate_left
       ·simp only [Act.put, List.setIfInBounds_toArray, List.set_cons_zero, List.set_cons_succ, i64_w, i32_w]
        rfl
       refine pure_ (i := 37) (N := some 132) (v := ?_) (a' := ?_) #[Tt, Tt, Tt, Tt, Tt, Tt, Tt, Tt, Tt, Tt, Tt, Tt, Tt, Tt, Tt, Tt, Tt, Tt, Tt, Tt, Tt, Tt, Tt, Tt, Tt, Tt, Tt, Tt, Tt, Tt, Tt, Tt, Tt, Tt, Tt, Tt, Tt, Tt, Ff, Ff, Ff, Ff, Ff, Ff, Ff, Ff, Ff, Ff, Ff, Ff, Ff] rfl rfl (any_of HT_.out (by kernel_rfl)) (fun _ _ _ h => h) (Or.inl ⟨by rfl, ?_⟩) ?_ ?_
       rotate_left
       ·intro w'
        go_simp
        with_reducible rfl
       rotate_left
       ·simp only [Act.put, List.setIfInBounds_toArray, List.set_cons_zero, List.set_cons_succ, i64_w, i32_w]
        rfl
       refine pure_ (i := 38) (N := some 133) (v := ?_) (a' := ?_) #[Tt, Tt, Tt, Tt, Tt, Tt, Tt, Tt, Tt, Tt, Tt, Tt, Tt, Tt, Tt, Tt, Tt, Tt, Tt, Tt, Tt, Tt, Tt, Tt, Tt, Tt, Tt, Tt, Tt, Tt, Tt, Tt, Tt, Tt, Tt, Tt, Tt, Tt, Tt, Ff, Ff, Ff, Ff, Ff, Ff, Ff, Ff, Ff, Ff, Ff, Ff] rfl rfl (any_of HT_.out (by kernel_rfl)) (fun _ _ _ h => h) (Or.inl ⟨by rfl, ?_⟩) ?_ ?_
       rotate_left
       ·intro w'
        go_simp
        with_reducible rfl
       rotate_left
       ·simp only [Act.put, List.setIfInBounds_toArray, List.set_cons_zero, List.set_cons_succ, i64_w, i32_w]
        rfl
       refine pure_ (i := 39) (N := some 134) (v := ?_) (a' := ?_) #[Tt, Tt, Tt, Tt, Tt, Tt, Tt, Tt, Tt, Tt, Tt, Tt, Tt, Tt, Tt, Tt, Tt, Tt, Tt, Tt, Tt, Tt, Tt, Tt, Tt, Tt, Tt, Tt, Tt, Tt, Tt, Tt, Tt, Tt, Tt, Tt, Tt, Tt, Tt, Tt, Ff, Ff, Ff, Ff, Ff, Ff, Ff, Ff, Ff, Ff, Ff] rfl rfl (any_of HT_.out (by kernel_rfl)) (fun _ _ _ h => h) (Or.inl ⟨by rfl, ?_⟩) ?_ ?_
       rotate_left
       ·intro w'
        go_simp
        with_reducible rfl
       rotate_left
       ·simp only [Act.put, List.setIfInBounds_toArray, List.set_cons_zero, List.set_cons_succ, i64_w, i32_w]
        rfl
       refine pure_ (i := 40) (N := some 135) (v := ?_) (a' := ?_) #[Tt, Tt, Tt, Tt, Tt, Tt, Tt, Tt, Tt, Tt, Tt, Tt, Tt, Tt, Tt, Tt, Tt, Tt, Tt, Tt, Tt, Tt, Tt, Tt, Tt, Tt, Tt, Tt, Tt, Tt, Tt, Tt, Tt, Tt, Tt, Tt, Tt, Tt, Tt, Tt, Tt, Ff, Ff, Ff, Ff, Ff, Ff, Ff, Ff, Ff, Ff] rfl rfl (any_of HT_.out (by kernel_rfl)) (fun _ _ _ h => h) (Or.inl ⟨by rfl, ?_⟩) ?_ ?_
       rotate_left
       ·intro w'
        go_simp
        with_reducible rfl
       rotate_left
       ·simp only [Act.put, List.setIfInBounds_toArray, List.set_cons_zero, List.set_cons_succ, i64_w, i32_w]
        rfl
       refine pure_ (i := 41) (N := some 136) (v := ?_) (a' := ?_) #[Tt, Tt, Tt, Tt, Tt, Tt, Tt, Tt, Tt, Tt, Tt, Tt, Tt, Tt, Tt, Tt, Tt, Tt, Tt, Tt, Tt, Tt, Tt, Tt, Tt, Tt, Tt, Tt, Tt, Tt, Tt, Tt, Tt, Tt, Tt, Tt, Tt, Tt, Tt, Tt, Tt, Tt, Ff, Ff, Ff, Ff, Ff, Ff, Ff, Ff, Ff] rfl rfl (any_of HT_.out (by kernel_rfl)) (fun _ _ _ h => h) (Or.inl ⟨by rfl, ?_⟩) ?_ ?_
       rotate_left
       ·intro w'
        go_simp
        with_reducible rfl
       rotate_left
       ·simp only [Act.put, List.setIfInBounds_toArray, List.set_cons_zero, List.set_cons_succ, i64_w, i32_w]
        rfl
       refine pure_ (i := 42) (N := some 137) (v := ?_) (a' := ?_) #[Tt, Tt, Tt, Tt, Tt, Tt, Tt, Tt, Tt, Tt, Tt, Tt, Tt, Tt, Tt, Tt, Tt, Tt, Tt, Tt, Tt, Tt, Tt, Tt, Tt, Tt, Tt, Tt, Tt, Tt, Tt, Tt, Tt, Tt, Tt, Tt, Tt, Tt, Tt, Tt, Tt, Tt, Tt, Ff, Ff, Ff, Ff, Ff, Ff, Ff, Ff] rfl rfl (any_of HT_.out (by kernel_rfl)) (fun _ _ _ h => h) (Or.inl ⟨by rfl, ?_⟩) ?_ ?_
       rotate_left
       ·intro w'
        go_simp
        with_reducible rfl
       rotate_left
       ·simp only [Act.put, List.setIfInBounds_toArray, List.set_cons_zero, List.set_cons_succ, i64_w, i32_w]
        rfl
       refine pure_ (i := 43) (N := some 138) (v := ?_) (a' := ?_) #[Tt, Tt, Tt, Tt, Tt, Tt, Tt, Tt, Tt, Tt, Tt, Tt, Tt, Tt, Tt, Tt, Tt, Tt, Tt, Tt, Tt, Tt, Tt, Tt, Tt, Tt, Tt, Tt, Tt, Tt, Tt, Tt, Tt, Tt, Tt, Tt, Tt, Tt, Tt, Tt, Tt, Tt, Tt, Tt, Ff, Ff, Ff, Ff, Ff, Ff, Ff] rfl rfl (any_of HT_.out (by kernel_rfl)) (fun _ _ _ h => h) (Or.inl ⟨by rfl, ?_⟩) ?_ ?_
       rotate_left
       ·intro w'
        go_simp
        with_reducible rfl
       rotate_left
       ·simp only [Act.put, List.setIfInBounds_toArray, List.set_cons_zero, List.set_cons_succ, i64_w, i32_w]
        rfl
       refine pure_ (i := 44) (N := some 139) (v := ?_) (a' := ?_) #[Tt, Tt, Tt, Tt, Tt, Tt, Tt, Tt, Tt, Tt, Tt, Tt, Tt, Tt, Tt, Tt, Tt, Tt, Tt, Tt, Tt, Tt, Tt, Tt, Tt, Tt, Tt, Tt, Tt, Tt, Tt, Tt, Tt, Tt, Tt, Tt, Tt, Tt, Tt, Tt, Tt, Tt, Tt, Tt, Tt, Ff, Ff, Ff, Ff, Ff, Ff] rfl rfl (any_of HT_.out (by kernel_rfl)) (fun _ _ _ h => h) (Or.inl ⟨by rfl, ?_⟩) ?_ ?_
       rotate_left
       ·intro w'
        go_simp
        with_reducible rfl
       rotate_left
       ·simp only [Act.put, List.setIfInBounds_toArray, List.set_cons_zero, List.set_cons_succ, i64_w, i32_w]
        rfl
       refine pure_ (i := 45) (N := some 140) (v := ?_) (a' := ?_) #[Tt, Tt, Tt, Tt, Tt, Tt, Tt, Tt, Tt, Tt, Tt, Tt, Tt, Tt, Tt, Tt, Tt, Tt, Tt, Tt, Tt, Tt, Tt, Tt, Tt, Tt, Tt, Tt, Tt, Tt, Tt, Tt, Tt, Tt, Tt, Tt, Tt, Tt, Tt, Tt, Tt, Tt, Tt, Tt, Tt, Tt, Ff, Ff, Ff, Ff, Ff] rfl rfl (any_of HT_.out (by kernel_rfl)) (fun _ _ _ h => h) (Or.inl ⟨by rfl, ?_⟩) ?_ ?_
       rotate_left
       ·intro w'
        go_simp
        with_reducible rfl
       rotate_left
       ·simp only [Act.put, List.setIfInBounds_toArray, List.set_cons_zero, List.set_cons_succ, i64_w, i32_w]
        rfl
       refine pure_ (i := 46) (N := some 141) (v := ?_) (a' := ?_) #[Tt, Tt, Tt, Tt, Tt, Tt, Tt, Tt, Tt, Tt, Tt, Tt, Tt, Tt, Tt, Tt, Tt, Tt, Tt, Tt, Tt, Tt, Tt, Tt, Tt, Tt, Tt, Tt, Tt, Tt, Tt, Tt, Tt, Tt, Tt, Tt, Tt, Tt, Tt, Tt, Tt, Tt, Tt, Tt, Tt, Tt, Tt, Ff, Ff, Ff, Ff] rfl rfl (any_of HT_.out (by kernel_rfl)) (fun _ _ _ h => h) (Or.inl ⟨by rfl, ?_⟩) ?_ ?_
       rotate_left
       ·intro w'
        go_simp
        with_reducible rfl
       rotate_left
       ·simp only [Act.put, List.setIfInBounds_toArray, List.set_cons_zero, List.set_cons_succ, i64_w, i32_w]
        rfl
       refine pure_ (i := 47) (N := some 142) (v := ?_) (a' := ?_) #[Tt, Tt, Tt, Tt, Tt, Tt, Tt, Tt, Tt, Tt, Tt, Tt, Tt, Tt, Tt, Tt, Tt, Tt, Tt, Tt, Tt, Tt, Tt, Tt, Tt, Tt, Tt, Tt, Tt, Tt, Tt, Tt, Tt, Tt, Tt, Tt, Tt, Tt, Tt, Tt, Tt, Tt, Tt, Tt, Tt, Tt, Tt, Tt, Ff, Ff, Ff] rfl rfl (any_of HT_.out (by kernel_rfl)) (fun _ _ _ h => h) (Or.inl ⟨by rfl, ?_⟩) ?_ ?_
       rotate_left
       ·intro w'
        go_simp
        with_reducible rfl
       rotate_left
       ·simp only [Act.put, List.setIfInBounds_toArray, List.set_cons_zero, List.set_cons_succ, i64_w, i32_w]
        rfl
       refine one_ (i := 48) (N := some 143) #[Tt, Tt, Tt, Tt, Tt, Tt, Tt, Tt, Tt, Tt, Tt, Tt, Tt, Tt, Tt, Tt, Tt, Tt, Tt, Tt, Tt, Tt, Tt, Tt, Tt, Tt, Tt, Tt, Tt, Tt, Tt, Tt, Tt, Tt, Tt, Tt, Tt, Tt, Tt, Tt, Tt, Tt, Tt, Tt, Tt, Tt, Tt, Tt, Tt, Ff, Ff] rfl rfl (one_of HT_.out (by kernel_rfl)) (by decide) (fun K hK => ?_)
       refine goes_ Try.func20 (by kernel_rfl) rfl #[] (by rfl) rfl rfl (by (try simp only [List.map_toArray, List.map_cons, List.map_nil]); first | done | rfl | (simp only [List.length_drop, List.length_take]; rfl)) ?_
       with_reducible refine (parquetlaw01_known.calls  t449 _ A113.out).mono ?_
       rintro e w136 ⟨rfl, hb⟩
       refine ⟨_, rfl, ?_⟩
       have n0_ := Aside0.mk (Kd.V_below (by (with_reducible repeat (first | apply Kd.V_alloc | apply Kd.V_drewN | apply Kd.V_drew)); exact HO_366001.out) hb)
       have n1_ := bb BK360 hb
       have n2_ := bb BK365 hb
       have n3_ := bb BK376 hb
       have n4_ := bb BK383 hb
       have n5_ := bb BK394 hb
       have n6_ := bb BK434 hb
       have n7_ := Aside0.mk (below_step (by repeat (first | (with_reducible first | exact HB.out | apply qa | apply qn | apply qd | refine qs ?_ GE360.out | refine qs ?_ GE365.out | refine qs ?_ GE376.out | refine qs ?_ GE383.out | refine qs ?_ GE394.out | refine qs ?_ GE434.out) | exact HB.out)) hb)
       clear HO_366001
       clear BK360
       clear BK365
       clear BK376
       clear BK383
       clear BK394
       clear BK434
       clear HB
       have HO_366001 := n0_
       have BK360 := n1_
       have BK365 := n2_
       have BK376 := n3_
       have BK383 := n4_
       have BK394 := n5_
       have BK434 := n6_
       have HB := n7_
       clear n0_ n1_ n2_ n3_ n4_ n5_ n6_ n7_
       (try clear hb)
       (try clear hb2)
       (try clear hk)
       (try clear hi)
       refine hK.out _ _ ⟨(blk_cell BK360.out 0).trans rfl, (blk_cell BK360.out 1).trans rfl, (blk_cell BK360.out 2).trans rfl, (blk_cell BK360.out 3).trans rfl, (blk_cell BK360.out 4).trans rfl, (blk_cell BK376.out 0).trans rfl, (blk_cell BK376.out 1).trans rfl, (blk_cell BK376.out 2).trans rfl, (blk_cell BK376.out 3).trans rfl, (blk_cell BK376.out 4).trans rfl, (blk_cell BK434.out 0).trans rfl, (blk_cell BK434.out 1).trans rfl, (blk_cell BK434.out 2).trans rfl, (blk_cell BK434.out 3).trans rfl, (blk_cell BK434.out 4).trans rfl, (blk_cell BK383.out 0).trans rfl, (blk_cell BK383.out 1).trans rfl, (blk_cell BK383.out 2).trans rfl, (blk_cell BK383.out 3).trans rfl, (blk_cell BK383.out 4).trans rfl, (blk_cell BK365.out 0).trans rfl, (blk_cell BK365.out 1).trans rfl, (blk_cell BK394.out 0).trans rfl, (blk_cell BK394.out 1).trans rfl, (blk_cell BK394.out 2).trans rfl, (blk_cell BK394.out 3).trans rfl, (blk_cell BK394.out 4).trans rfl⟩ (fun hHeld => ?_)
       clear hK K
       refine norm_ (a' := ?_) ?_ ?_
       rotate_left
       ·show Act.put _ (some 143) _ = _
        simp only [Act.put, List.setIfInBounds_toArray, List.set_cons_zero, List.set_cons_succ, i64_w, i32_w]
        rfl
       refine pure_ (i := 49) (N := some 144) (v := ?_) (a' := ?_) #[Tt, Tt, Tt, Tt, Tt, Tt, Tt, Tt, Tt, Tt, Tt, Tt, Tt, Tt, Tt, Tt, Tt, Tt, Tt, Tt, Tt, Tt, Tt, Tt, Tt, Tt, Tt, Tt, Tt, Tt, Tt, Tt, Tt, Tt, Tt, Tt, Tt, Tt, Tt, Tt, Tt, Tt, Tt, Tt, Tt, Tt, Tt, Tt, Tt, Tt, Ff] rfl rfl (any_of HT_.out (by kernel_rfl)) (fun _ _ _ h => h) (Or.inl ⟨by rfl, ?_⟩) ?_ ?_
       rotate_left
       ·intro w'
        go_simp
        with_reducible rfl
       rotate_left
       ·simp only [Act.put, List.setIfInBounds_toArray, List.set_cons_zero, List.set_cons_succ, i64_w, i32_w]
        rfl
       refine pure_ (i := 50) (N := some 4) (v := ?_) (a' := ?_) #[Tt, Tt, Tt, Tt, Tt, Tt, Tt, Tt, Tt, Tt, Tt, Tt, Tt, Tt, Tt, Tt, Tt, Tt, Tt, Tt, Tt, Tt, Tt, Tt, Tt, Tt, Tt, Tt, Tt, Tt, Tt, Tt, Tt, Tt, Tt, Tt, Tt, Tt, Tt, Tt, Tt, Tt, Tt, Tt, Tt, Tt, Tt, Tt, Tt, Tt, Tt] rfl rfl (any_of HT_.out (by kernel_rfl)) (fun _ _ _ h => h) (Or.inl ⟨by rfl, ?_⟩) ?_ ?_
       rotate_left
       ·intro w'
        go_simp
        with_reducible rfl
       rotate_left
       ·simp only [Act.put, List.setIfInBounds_toArray, List.set_cons_zero, List.set_cons_succ, i64_w, i32_w]
        rfl
       refine done_ (done_of HT_.out (by kernel_rfl)) ?_
       try go_wp2
       go_ret
       exact ⟨by first | rfl | (simp [errW_none, errW_some] <;> rfl) | (simp [*, errW_none, errW_some] <;> rfl), by repeat (first | (with_reducible first | exact HB.out | apply qa | apply qn | apply qd | refine qs ?_ GE360.out | refine qs ?_ GE365.out | refine qs ?_ GE376.out | refine qs ?_ GE383.out | refine qs ?_ GE394.out | refine qs ?_ GE434.out) | exact HB.out)⟩
end Go.Proofs.Ytmpbbodafenonaa.MT

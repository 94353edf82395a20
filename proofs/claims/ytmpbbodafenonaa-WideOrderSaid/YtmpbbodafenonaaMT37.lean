/- A function of the given program told as a Lean function, its contract proved; no condition. -/
import Derived.Test.YtmpbbodafenonaaMT0
import Derived.Test.YtmpbbodafenonaaMT4
import Derived.Test.YtmpbbodafenonaaMT9
import Derived.Test.YtmpbbodafenonaaMT11
import Derived.Test.YtmpbbodafenonaaMT30
import Derived.Test.YtmpbbodafenonaaMT32
namespace Go.Proofs.Ytmpbbodafenonaa.MT
open Go.RowKit Go.Proofs.YtmpbbodafenonaaW.PrintWords Go.Proofs.YtmpbbodafenonaaW.PrintLast Go.Proofs.YtmpbbodafenonaaW.PrintMore
attribute [local go_sem] max2_int min2_int max_two min_two max_three min_three max_four min_four   -- for this text's walks alone
set_option linter.unusedVariables false
set_option linter.unusedSimpArgs false
attribute [local go_sem high] eqA27
/-! ### parquetlaw01_WideOrder: function 7 -/
mutual
def parquetlaw01_WideOrder.j0 : Nat → Int → Bool → Bool → Int → Int → Int → Int → Bool → Int → Int → Int → Int → Bool → Int → Int → Int → Int → Bool → Int → Int → Int → Int → Option (Bool)
 | 0, _, _, _, _, _, _, _, _, _, _, _, _, _, _, _, _, _, _, _, _, _, _ => none
 | k + 1, x8, x72, x779000, x779001, x779002, x779003, x779004, x780000, x780001, x780002, x780003, x780004, x781000, x781001, x781002, x781003, x781004, x791000, x791001, x791002, x791003, x791004 => if x72 = true then (some false) else ((wide_Mul.f k (([(⟨x791000, (⟨x791001, x791002, x791003, x791004⟩ : S25)⟩ : S27), (⟨x781000, (⟨x781001, x781002, x781003, x781004⟩ : S25)⟩ : S27)] : List (S27)))).bind fun bt824 => ((wide_Mul.f k (([(⟨x779000, (⟨x779001, x779002, x779003, x779004⟩ : S25)⟩ : S27), (⟨x781000, (⟨x781001, x781002, x781003, x781004⟩ : S25)⟩ : S27)] : List (S27)))).bind fun bt834 => ((wide_Mul.f k (([(⟨x780000, (⟨x780001, x780002, x780003, x780004⟩ : S25)⟩ : S27), (⟨x781000, (⟨x781001, x781002, x781003, x781004⟩ : S25)⟩ : S27)] : List (S27)))).bind fun bt844 => ((wide_Add.f k (([(⟨bt834.1, (⟨bt834.2.1, bt834.2.2.1, bt834.2.2.2.1, bt834.2.2.2.2.1⟩ : S25)⟩ : S27), (⟨bt844.1, (⟨bt844.2.1, bt844.2.2.1, bt844.2.2.2.1, bt844.2.2.2.2.1⟩ : S25)⟩ : S27)] : List (S27)))).bind fun bt854 => (if x8 = 0 then (if bt824.2.2.2.2.2 = 0 then (if bt834.2.2.2.2.2 = 0 then (if bt844.2.2.2.2.2 = 0 then (if bt854.2.2.2.2.2 = 0 then (parquetlaw01_WideOrder.j1 k x8 (!(bt824.1 == bt854.1) || ((!(bt824.2.1 == bt854.2.1) || (!(bt824.2.2.1 == bt854.2.2.1) || (!(bt824.2.2.2.1 == bt854.2.2.2.1) || (!(bt824.2.2.2.2.1 == bt854.2.2.2.2.1))))))) x779000 x779001 x779002 x779003 x779004 x780000 x780001 x780002 x780003 x780004 x791000 x791001 x791002 x791003 x791004) else (parquetlaw01_WideOrder.j1 k x8 false x779000 x779001 x779002 x779003 x779004 x780000 x780001 x780002 x780003 x780004 x791000 x791001 x791002 x791003 x791004)) else (parquetlaw01_WideOrder.j1 k x8 false x779000 x779001 x779002 x779003 x779004 x780000 x780001 x780002 x780003 x780004 x791000 x791001 x791002 x791003 x791004)) else (parquetlaw01_WideOrder.j1 k x8 false x779000 x779001 x779002 x779003 x779004 x780000 x780001 x780002 x780003 x780004 x791000 x791001 x791002 x791003 x791004)) else (parquetlaw01_WideOrder.j1 k x8 false x779000 x779001 x779002 x779003 x779004 x780000 x780001 x780002 x780003 x780004 x791000 x791001 x791002 x791003 x791004)) else (parquetlaw01_WideOrder.j1 k x8 false x779000 x779001 x779002 x779003 x779004 x780000 x780001 x780002 x780003 x780004 x791000 x791001 x791002 x791003 x791004))))))
def parquetlaw01_WideOrder.j1 : Nat → Int → Bool → Bool → Int → Int → Int → Int → Bool → Int → Int → Int → Int → Bool → Int → Int → Int → Int → Option (Bool)
 | 0, _, _, _, _, _, _, _, _, _, _, _, _, _, _, _, _, _ => none
 | k + 1, x8, x123, x779000, x779001, x779002, x779003, x779004, x780000, x780001, x780002, x780003, x780004, x791000, x791001, x791002, x791003, x791004 => if x123 = true then (some false) else ((wide_Sub.f k x791000 x791001 x791002 x791003 x791004 x780000 x780001 x780002 x780003 x780004).bind fun bt861 => ((parquetref01_Of.f k x779000 x779001 x779002 x779003 x779004).bind fun bt868 => ((parquetref01_Num_Wide.f bt868.1 bt868.2).bind fun bt872 => (if x8 = 0 then (if bt861.2.2.2.2.2 = 0 then (if (bt861.1 == bt872.1 && ((bt861.2.1 == bt872.2.1 && (bt861.2.2.1 == bt872.2.2.1 && (bt861.2.2.2.1 == bt872.2.2.2.1 && (bt861.2.2.2.2.1 == bt872.2.2.2.2.1)))))) = true then ((parquetlaw01_known.f).bind fun t879 => (some t879)) else (some false)) else (some false)) else ((parquetlaw01_known.f).bind fun t880 => (some t880))))))
end
def parquetlaw01_WideOrder.f (k : Nat) (a0_0 : Bool) (a0_1 : Int) (a0_2 : Int) (a0_3 : Int) (a0_4 : Int) (a1_0 : Bool) (a1_1 : Int) (a1_2 : Int) (a1_3 : Int) (a1_4 : Int) (a2_0 : Bool) (a2_1 : Int) (a2_2 : Int) (a2_3 : Int) (a2_4 : Int) : Option (Bool) := (wide_Add.f k (([(⟨a0_0, (⟨a0_1, a0_2, a0_3, a0_4⟩ : S25)⟩ : S27), (⟨a1_0, (⟨a1_1, a1_2, a1_3, a1_4⟩ : S25)⟩ : S27)] : List (S27)))).bind fun bt784 => ((wide_Add.f k (([(⟨a1_0, (⟨a1_1, a1_2, a1_3, a1_4⟩ : S25)⟩ : S27), (⟨a0_0, (⟨a0_1, a0_2, a0_3, a0_4⟩ : S25)⟩ : S27)] : List (S27)))).bind fun bt794 => ((wide_Mul.f k (([(⟨a0_0, (⟨a0_1, a0_2, a0_3, a0_4⟩ : S25)⟩ : S27), (⟨a1_0, (⟨a1_1, a1_2, a1_3, a1_4⟩ : S25)⟩ : S27)] : List (S27)))).bind fun bt804 => ((wide_Mul.f k (([(⟨a1_0, (⟨a1_1, a1_2, a1_3, a1_4⟩ : S25)⟩ : S27), (⟨a0_0, (⟨a0_1, a0_2, a0_3, a0_4⟩ : S25)⟩ : S27)] : List (S27)))).bind fun bt814 => (if (!(bt784.1 == bt794.1) || ((!(bt784.2.1 == bt794.2.1) || (!(bt784.2.2.1 == bt794.2.2.1) || (!(bt784.2.2.2.1 == bt794.2.2.2.1) || (!(bt784.2.2.2.2.1 == bt794.2.2.2.2.1))))))) = true then (parquetlaw01_WideOrder.j0 k bt784.2.2.2.2.2 true a0_0 a0_1 a0_2 a0_3 a0_4 a1_0 a1_1 a1_2 a1_3 a1_4 a2_0 a2_1 a2_2 a2_3 a2_4 bt784.1 bt784.2.1 bt784.2.2.1 bt784.2.2.2.1 bt784.2.2.2.2.1) else (if bt784.2.2.2.2.2 = bt794.2.2.2.2.2 then (if (!(bt804.1 == bt814.1) || ((!(bt804.2.1 == bt814.2.1) || (!(bt804.2.2.1 == bt814.2.2.1) || (!(bt804.2.2.2.1 == bt814.2.2.2.1) || (!(bt804.2.2.2.2.1 == bt814.2.2.2.2.1))))))) = true then (parquetlaw01_WideOrder.j0 k bt784.2.2.2.2.2 true a0_0 a0_1 a0_2 a0_3 a0_4 a1_0 a1_1 a1_2 a1_3 a1_4 a2_0 a2_1 a2_2 a2_3 a2_4 bt784.1 bt784.2.1 bt784.2.2.1 bt784.2.2.2.1 bt784.2.2.2.2.1) else (parquetlaw01_WideOrder.j0 k bt784.2.2.2.2.2 (bt804.2.2.2.2.2 != bt814.2.2.2.2.2) a0_0 a0_1 a0_2 a0_3 a0_4 a1_0 a1_1 a1_2 a1_3 a1_4 a2_0 a2_1 a2_2 a2_3 a2_4 bt784.1 bt784.2.1 bt784.2.2.1 bt784.2.2.2.1 bt784.2.2.2.2.1)) else (parquetlaw01_WideOrder.j0 k bt784.2.2.2.2.2 true a0_0 a0_1 a0_2 a0_3 a0_4 a1_0 a1_1 a1_2 a1_3 a1_4 a2_0 a2_1 a2_2 a2_3 a2_4 bt784.1 bt784.2.1 bt784.2.2.1 bt784.2.2.2.1 bt784.2.2.2.2.1))))))
theorem parquetlaw01_WideOrder.mono_l : ∀ k, (∀ y0 y1 y2 y3 y4 y5 y6 y7 y8 y9 y10 y11 y12 y13 y14 y15 y16 y17 y18 y19 y20 y21, LeO (parquetlaw01_WideOrder.j0 k y0 y1 y2 y3 y4 y5 y6 y7 y8 y9 y10 y11 y12 y13 y14 y15 y16 y17 y18 y19 y20 y21) (parquetlaw01_WideOrder.j0 (k + 1) y0 y1 y2 y3 y4 y5 y6 y7 y8 y9 y10 y11 y12 y13 y14 y15 y16 y17 y18 y19 y20 y21)) ∧ (∀ y0 y1 y2 y3 y4 y5 y6 y7 y8 y9 y10 y11 y12 y13 y14 y15 y16, LeO (parquetlaw01_WideOrder.j1 k y0 y1 y2 y3 y4 y5 y6 y7 y8 y9 y10 y11 y12 y13 y14 y15 y16) (parquetlaw01_WideOrder.j1 (k + 1) y0 y1 y2 y3 y4 y5 y6 y7 y8 y9 y10 y11 y12 y13 y14 y15 y16))
 | 0 => ⟨fun _ _ _ _ _ _ _ _ _ _ _ _ _ _ _ _ _ _ _ _ _ _ r h => by simp [parquetlaw01_WideOrder.j0] at h, fun _ _ _ _ _ _ _ _ _ _ _ _ _ _ _ _ _ r h => by simp [parquetlaw01_WideOrder.j1] at h⟩
 | k + 1 => by
  obtain ⟨ih0, ih1⟩ := parquetlaw01_WideOrder.mono_l k
  refine ⟨?_, ?_⟩
  ·intro y0 y1 y2 y3 y4 y5 y6 y7 y8 y9 y10 y11 y12 y13 y14 y15 y16 y17 y18 y19 y20 y21
   unfold parquetlaw01_WideOrder.j0
   repeat' first
   | (with_reducible exact ih0 _ _ _ _ _ _ _ _ _ _ _ _ _ _ _ _ _ _ _ _ _ _)
   | (with_reducible exact ih1 _ _ _ _ _ _ _ _ _ _ _ _ _ _ _ _ _)
   | (with_reducible exact parquetref01_Of.mono _ _ _ _ _ _)
   | (with_reducible exact wide_Add.mono _ _)
   | (with_reducible exact wide_Mul.mono _ _)
   | (with_reducible exact wide_Sub.mono _ _ _ _ _ _ _ _ _ _ _)
   | (with_reducible exact LeO.refl _)
   | (with_reducible exact LeO.none _)
   | (with_reducible refine LeO.ite ?_ ?_)
   | (with_reducible refine LeO.bind ?_ (fun _ => ?_))
   | exact ih0 _ _ _ _ _ _ _ _ _ _ _ _ _ _ _ _ _ _ _ _ _ _
   | exact ih1 _ _ _ _ _ _ _ _ _ _ _ _ _ _ _ _ _
   | exact parquetref01_Of.mono _ _ _ _ _ _
   | exact wide_Add.mono _ _
   | exact wide_Mul.mono _ _
   | exact wide_Sub.mono _ _ _ _ _ _ _ _ _ _ _
   | exact LeO.none _
   | refine LeO.ite ?_ ?_
   | refine LeO.bind ?_ (fun _ => ?_)
  ·intro y0 y1 y2 y3 y4 y5 y6 y7 y8 y9 y10 y11 y12 y13 y14 y15 y16
   unfold parquetlaw01_WideOrder.j1
   repeat' first
   | (with_reducible exact ih0 _ _ _ _ _ _ _ _ _ _ _ _ _ _ _ _ _ _ _ _ _ _)
   | (with_reducible exact ih1 _ _ _ _ _ _ _ _ _ _ _ _ _ _ _ _ _)
   | (with_reducible exact parquetref01_Of.mono _ _ _ _ _ _)
   | (with_reducible exact wide_Add.mono _ _)
   | (with_reducible exact wide_Mul.mono _ _)
   | (with_reducible exact wide_Sub.mono _ _ _ _ _ _ _ _ _ _ _)
   | (with_reducible exact LeO.refl _)
   | (with_reducible exact LeO.none _)
   | (with_reducible refine LeO.ite ?_ ?_)
   | (with_reducible refine LeO.bind ?_ (fun _ => ?_))
   | exact ih0 _ _ _ _ _ _ _ _ _ _ _ _ _ _ _ _ _ _ _ _ _ _
   | exact ih1 _ _ _ _ _ _ _ _ _ _ _ _ _ _ _ _ _
   | exact parquetref01_Of.mono _ _ _ _ _ _
   | exact wide_Add.mono _ _
   | exact wide_Mul.mono _ _
   | exact wide_Sub.mono _ _ _ _ _ _ _ _ _ _ _
   | exact LeO.none _
   | refine LeO.ite ?_ ?_
   | refine LeO.bind ?_ (fun _ => ?_)
theorem parquetlaw01_WideOrder.mono : ∀ a0 a1 a2 a3 a4 a5 a6 a7 a8 a9 a10 a11 a12 a13 a14 k, LeO (parquetlaw01_WideOrder.f k a0 a1 a2 a3 a4 a5 a6 a7 a8 a9 a10 a11 a12 a13 a14) (parquetlaw01_WideOrder.f (k + 1) a0 a1 a2 a3 a4 a5 a6 a7 a8 a9 a10 a11 a12 a13 a14) := by
 intro a0 a1 a2 a3 a4 a5 a6 a7 a8 a9 a10 a11 a12 a13 a14 k
 obtain ⟨ih0, ih1⟩ := parquetlaw01_WideOrder.mono_l k
 unfold parquetlaw01_WideOrder.f
 repeat' first
   | (with_reducible exact ih0 _ _ _ _ _ _ _ _ _ _ _ _ _ _ _ _ _ _ _ _ _ _)
   | (with_reducible exact ih1 _ _ _ _ _ _ _ _ _ _ _ _ _ _ _ _ _)
   | (with_reducible exact parquetref01_Of.mono _ _ _ _ _ _)
   | (with_reducible exact wide_Add.mono _ _)
   | (with_reducible exact wide_Mul.mono _ _)
   | (with_reducible exact wide_Sub.mono _ _ _ _ _ _ _ _ _ _ _)
   | (with_reducible exact LeO.refl _)
   | (with_reducible exact LeO.none _)
   | (with_reducible refine LeO.ite ?_ ?_)
   | (with_reducible refine LeO.bind ?_ (fun _ => ?_))
   | exact ih0 _ _ _ _ _ _ _ _ _ _ _ _ _ _ _ _ _ _ _ _ _ _
   | exact ih1 _ _ _ _ _ _ _ _ _ _ _ _ _ _ _ _ _
   | exact parquetref01_Of.mono _ _ _ _ _ _
   | exact wide_Add.mono _ _
   | exact wide_Mul.mono _ _
   | exact wide_Sub.mono _ _ _ _ _ _ _ _ _ _ _
   | exact LeO.none _
   | refine LeO.ite ?_ ?_
   | refine LeO.bind ?_ (fun _ => ?_)
set_option maxHeartbeats 8000000 in
set_option maxRecDepth 100000 in
theorem parquetlaw01_WideOrder.calls (k : Nat) (a0_0 : Bool) (a0_1 : Int) (a0_2 : Int) (a0_3 : Int) (a0_4 : Int) (a1_0 : Bool) (a1_1 : Int) (a1_2 : Int) (a1_3 : Int) (a1_4 : Int) (a2_0 : Bool) (a2_1 : Int) (a2_2 : Int) (a2_3 : Int) (a2_4 : Int) (r : Bool) (w : World) (h : parquetlaw01_WideOrder.f k a0_0 a0_1 a0_2 a0_3 a0_4 a1_0 a1_1 a1_2 a1_3 a1_4 a2_0 a2_1 a2_2 a2_3 a2_4 = some r) (hr_ : r = true) :
  Calls Try.prog 7 #[.agg #[.bool a0_0, .int .u64 a0_1, .int .u64 a0_2, .int .u64 a0_3, .int .u64 a0_4], .agg #[.bool a1_0, .int .u64 a1_1, .int .u64 a1_2, .int .u64 a1_3, .int .u64 a1_4], .agg #[.bool a2_0, .int .u64 a2_1, .int .u64 a2_2, .int .u64 a2_3, .int .u64 a2_4]] w fun e w' => e = .returned (.bool r) ∧ Below w.heap.size w w' := by
 have hu27 := Try.underlying27
 have HB := Aside0.mk (Below.refl w.heap.size w)
 have H : ((wide_Add.f k (([(⟨a0_0, (⟨a0_1, a0_2, a0_3, a0_4⟩ : S25)⟩ : S27), (⟨a1_0, (⟨a1_1, a1_2, a1_3, a1_4⟩ : S25)⟩ : S27)] : List (S27)))).bind fun bt784 => ((wide_Add.f k (([(⟨a1_0, (⟨a1_1, a1_2, a1_3, a1_4⟩ : S25)⟩ : S27), (⟨a0_0, (⟨a0_1, a0_2, a0_3, a0_4⟩ : S25)⟩ : S27)] : List (S27)))).bind fun bt794 => ((wide_Mul.f k (([(⟨a0_0, (⟨a0_1, a0_2, a0_3, a0_4⟩ : S25)⟩ : S27), (⟨a1_0, (⟨a1_1, a1_2, a1_3, a1_4⟩ : S25)⟩ : S27)] : List (S27)))).bind fun bt804 => ((wide_Mul.f k (([(⟨a1_0, (⟨a1_1, a1_2, a1_3, a1_4⟩ : S25)⟩ : S27), (⟨a0_0, (⟨a0_1, a0_2, a0_3, a0_4⟩ : S25)⟩ : S27)] : List (S27)))).bind fun bt814 => (if (!(bt784.1 == bt794.1) || ((!(bt784.2.1 == bt794.2.1) || (!(bt784.2.2.1 == bt794.2.2.1) || (!(bt784.2.2.2.1 == bt794.2.2.2.1) || (!(bt784.2.2.2.2.1 == bt794.2.2.2.2.1))))))) = true then (parquetlaw01_WideOrder.j0 k bt784.2.2.2.2.2 true a0_0 a0_1 a0_2 a0_3 a0_4 a1_0 a1_1 a1_2 a1_3 a1_4 a2_0 a2_1 a2_2 a2_3 a2_4 bt784.1 bt784.2.1 bt784.2.2.1 bt784.2.2.2.1 bt784.2.2.2.2.1) else (if bt784.2.2.2.2.2 = bt794.2.2.2.2.2 then (if (!(bt804.1 == bt814.1) || ((!(bt804.2.1 == bt814.2.1) || (!(bt804.2.2.1 == bt814.2.2.1) || (!(bt804.2.2.2.1 == bt814.2.2.2.1) || (!(bt804.2.2.2.2.1 == bt814.2.2.2.2.1))))))) = true then (parquetlaw01_WideOrder.j0 k bt784.2.2.2.2.2 true a0_0 a0_1 a0_2 a0_3 a0_4 a1_0 a1_1 a1_2 a1_3 a1_4 a2_0 a2_1 a2_2 a2_3 a2_4 bt784.1 bt784.2.1 bt784.2.2.1 bt784.2.2.2.1 bt784.2.2.2.2.1) else (parquetlaw01_WideOrder.j0 k bt784.2.2.2.2.2 (bt804.2.2.2.2.2 != bt814.2.2.2.2.2) a0_0 a0_1 a0_2 a0_3 a0_4 a1_0 a1_1 a1_2 a1_3 a1_4 a2_0 a2_1 a2_2 a2_3 a2_4 bt784.1 bt784.2.1 bt784.2.2.1 bt784.2.2.2.1 bt784.2.2.2.2.1)) else (parquetlaw01_WideOrder.j0 k bt784.2.2.2.2.2 true a0_0 a0_1 a0_2 a0_3 a0_4 a1_0 a1_1 a1_2 a1_3 a1_4 a2_0 a2_1 a2_2 a2_3 a2_4 bt784.1 bt784.2.1 bt784.2.2.1 bt784.2.2.2.1 bt784.2.2.2.2.1))))))) = some r := h
 clear h
 obtain ⟨y781, hy781⟩ : ∃ y_ : List (S27), y_ = (([(⟨a0_0, (⟨a0_1, a0_2, a0_3, a0_4⟩ : S25)⟩ : S27), (⟨a1_0, (⟨a1_1, a1_2, a1_3, a1_4⟩ : S25)⟩ : S27)] : List (S27))) := ⟨_, rfl⟩
 replace H : ((wide_Add.f k y781).bind fun bt784 => ((wide_Add.f k (([(⟨a1_0, (⟨a1_1, a1_2, a1_3, a1_4⟩ : S25)⟩ : S27), (⟨a0_0, (⟨a0_1, a0_2, a0_3, a0_4⟩ : S25)⟩ : S27)] : List (S27)))).bind fun bt794 => ((wide_Mul.f k (([(⟨a0_0, (⟨a0_1, a0_2, a0_3, a0_4⟩ : S25)⟩ : S27), (⟨a1_0, (⟨a1_1, a1_2, a1_3, a1_4⟩ : S25)⟩ : S27)] : List (S27)))).bind fun bt804 => ((wide_Mul.f k (([(⟨a1_0, (⟨a1_1, a1_2, a1_3, a1_4⟩ : S25)⟩ : S27), (⟨a0_0, (⟨a0_1, a0_2, a0_3, a0_4⟩ : S25)⟩ : S27)] : List (S27)))).bind fun bt814 => (if (!(bt784.1 == bt794.1) || ((!(bt784.2.1 == bt794.2.1) || (!(bt784.2.2.1 == bt794.2.2.1) || (!(bt784.2.2.2.1 == bt794.2.2.2.1) || (!(bt784.2.2.2.2.1 == bt794.2.2.2.2.1))))))) = true then (parquetlaw01_WideOrder.j0 k bt784.2.2.2.2.2 true a0_0 a0_1 a0_2 a0_3 a0_4 a1_0 a1_1 a1_2 a1_3 a1_4 a2_0 a2_1 a2_2 a2_3 a2_4 bt784.1 bt784.2.1 bt784.2.2.1 bt784.2.2.2.1 bt784.2.2.2.2.1) else (if bt784.2.2.2.2.2 = bt794.2.2.2.2.2 then (if (!(bt804.1 == bt814.1) || ((!(bt804.2.1 == bt814.2.1) || (!(bt804.2.2.1 == bt814.2.2.1) || (!(bt804.2.2.2.1 == bt814.2.2.2.1) || (!(bt804.2.2.2.2.1 == bt814.2.2.2.2.1))))))) = true then (parquetlaw01_WideOrder.j0 k bt784.2.2.2.2.2 true a0_0 a0_1 a0_2 a0_3 a0_4 a1_0 a1_1 a1_2 a1_3 a1_4 a2_0 a2_1 a2_2 a2_3 a2_4 bt784.1 bt784.2.1 bt784.2.2.1 bt784.2.2.2.1 bt784.2.2.2.2.1) else (parquetlaw01_WideOrder.j0 k bt784.2.2.2.2.2 (bt804.2.2.2.2.2 != bt814.2.2.2.2.2) a0_0 a0_1 a0_2 a0_3 a0_4 a1_0 a1_1 a1_2 a1_3 a1_4 a2_0 a2_1 a2_2 a2_3 a2_4 bt784.1 bt784.2.1 bt784.2.2.1 bt784.2.2.2.1 bt784.2.2.2.2.1)) else (parquetlaw01_WideOrder.j0 k bt784.2.2.2.2.2 true a0_0 a0_1 a0_2 a0_3 a0_4 a1_0 a1_1 a1_2 a1_3 a1_4 a2_0 a2_1 a2_2 a2_3 a2_4 bt784.1 bt784.2.1 bt784.2.2.1 bt784.2.2.2.1 bt784.2.2.2.2.1))))))) = some r := by first | (rw [hy781]; with_reducible exact H) | (have H2_ := (Option.bind_some _ _).symm.trans H; rw [hy781]; with_reducible exact H2_) | (have H2_ := (Option.bind_some _ _).symm.trans H; with_reducible exact H2_) | with_reducible exact H | (rw [hy781]; exact H) | exact H
 have Ny781 := Aside0.mk hy781
 clear hy781
 replace H := Option.bind_eq_some_iff.mp H
 obtain ⟨⟨t784, t785, t786, t787, t788, t789⟩, A40, H⟩ := H
 try dsimp only at H
 have A4 := Aside0.mk A40
 clear A40
 obtain ⟨y791, hy791⟩ : ∃ y_ : List (S27), y_ = (([(⟨a1_0, (⟨a1_1, a1_2, a1_3, a1_4⟩ : S25)⟩ : S27), (⟨a0_0, (⟨a0_1, a0_2, a0_3, a0_4⟩ : S25)⟩ : S27)] : List (S27))) := ⟨_, rfl⟩
 replace H : ((wide_Add.f k y791).bind fun bt794 => ((wide_Mul.f k (([(⟨a0_0, (⟨a0_1, a0_2, a0_3, a0_4⟩ : S25)⟩ : S27), (⟨a1_0, (⟨a1_1, a1_2, a1_3, a1_4⟩ : S25)⟩ : S27)] : List (S27)))).bind fun bt804 => ((wide_Mul.f k (([(⟨a1_0, (⟨a1_1, a1_2, a1_3, a1_4⟩ : S25)⟩ : S27), (⟨a0_0, (⟨a0_1, a0_2, a0_3, a0_4⟩ : S25)⟩ : S27)] : List (S27)))).bind fun bt814 => (if (!(t784 == bt794.1) || ((!(t785 == bt794.2.1) || (!(t786 == bt794.2.2.1) || (!(t787 == bt794.2.2.2.1) || (!(t788 == bt794.2.2.2.2.1))))))) = true then (parquetlaw01_WideOrder.j0 k t789 true a0_0 a0_1 a0_2 a0_3 a0_4 a1_0 a1_1 a1_2 a1_3 a1_4 a2_0 a2_1 a2_2 a2_3 a2_4 t784 t785 t786 t787 t788) else (if t789 = bt794.2.2.2.2.2 then (if (!(bt804.1 == bt814.1) || ((!(bt804.2.1 == bt814.2.1) || (!(bt804.2.2.1 == bt814.2.2.1) || (!(bt804.2.2.2.1 == bt814.2.2.2.1) || (!(bt804.2.2.2.2.1 == bt814.2.2.2.2.1))))))) = true then (parquetlaw01_WideOrder.j0 k t789 true a0_0 a0_1 a0_2 a0_3 a0_4 a1_0 a1_1 a1_2 a1_3 a1_4 a2_0 a2_1 a2_2 a2_3 a2_4 t784 t785 t786 t787 t788) else (parquetlaw01_WideOrder.j0 k t789 (bt804.2.2.2.2.2 != bt814.2.2.2.2.2) a0_0 a0_1 a0_2 a0_3 a0_4 a1_0 a1_1 a1_2 a1_3 a1_4 a2_0 a2_1 a2_2 a2_3 a2_4 t784 t785 t786 t787 t788)) else (parquetlaw01_WideOrder.j0 k t789 true a0_0 a0_1 a0_2 a0_3 a0_4 a1_0 a1_1 a1_2 a1_3 a1_4 a2_0 a2_1 a2_2 a2_3 a2_4 t784 t785 t786 t787 t788)))))) = some r := by first | (rw [hy791]; with_reducible exact H) | (have H2_ := (Option.bind_some _ _).symm.trans H; rw [hy791]; with_reducible exact H2_) | (have H2_ := (Option.bind_some _ _).symm.trans H; with_reducible exact H2_) | with_reducible exact H | (rw [hy791]; exact H) | exact H
 have Ny791 := Aside0.mk hy791
 clear hy791
 replace H := Option.bind_eq_some_iff.mp H
 obtain ⟨⟨t794, t795, t796, t797, t798, t799⟩, A50, H⟩ := H
 try dsimp only at H
 have A5 := Aside0.mk A50
 clear A50
 obtain ⟨y801, hy801⟩ : ∃ y_ : List (S27), y_ = (([(⟨a0_0, (⟨a0_1, a0_2, a0_3, a0_4⟩ : S25)⟩ : S27), (⟨a1_0, (⟨a1_1, a1_2, a1_3, a1_4⟩ : S25)⟩ : S27)] : List (S27))) := ⟨_, rfl⟩
 replace H : ((wide_Mul.f k y801).bind fun bt804 => ((wide_Mul.f k (([(⟨a1_0, (⟨a1_1, a1_2, a1_3, a1_4⟩ : S25)⟩ : S27), (⟨a0_0, (⟨a0_1, a0_2, a0_3, a0_4⟩ : S25)⟩ : S27)] : List (S27)))).bind fun bt814 => (if (!(t784 == t794) || ((!(t785 == t795) || (!(t786 == t796) || (!(t787 == t797) || (!(t788 == t798))))))) = true then (parquetlaw01_WideOrder.j0 k t789 true a0_0 a0_1 a0_2 a0_3 a0_4 a1_0 a1_1 a1_2 a1_3 a1_4 a2_0 a2_1 a2_2 a2_3 a2_4 t784 t785 t786 t787 t788) else (if t789 = t799 then (if (!(bt804.1 == bt814.1) || ((!(bt804.2.1 == bt814.2.1) || (!(bt804.2.2.1 == bt814.2.2.1) || (!(bt804.2.2.2.1 == bt814.2.2.2.1) || (!(bt804.2.2.2.2.1 == bt814.2.2.2.2.1))))))) = true then (parquetlaw01_WideOrder.j0 k t789 true a0_0 a0_1 a0_2 a0_3 a0_4 a1_0 a1_1 a1_2 a1_3 a1_4 a2_0 a2_1 a2_2 a2_3 a2_4 t784 t785 t786 t787 t788) else (parquetlaw01_WideOrder.j0 k t789 (bt804.2.2.2.2.2 != bt814.2.2.2.2.2) a0_0 a0_1 a0_2 a0_3 a0_4 a1_0 a1_1 a1_2 a1_3 a1_4 a2_0 a2_1 a2_2 a2_3 a2_4 t784 t785 t786 t787 t788)) else (parquetlaw01_WideOrder.j0 k t789 true a0_0 a0_1 a0_2 a0_3 a0_4 a1_0 a1_1 a1_2 a1_3 a1_4 a2_0 a2_1 a2_2 a2_3 a2_4 t784 t785 t786 t787 t788))))) = some r := by first | (rw [hy801]; with_reducible exact H) | (have H2_ := (Option.bind_some _ _).symm.trans H; rw [hy801]; with_reducible exact H2_) | (have H2_ := (Option.bind_some _ _).symm.trans H; with_reducible exact H2_) | with_reducible exact H | (rw [hy801]; exact H) | exact H
 have Ny801 := Aside0.mk hy801
 clear hy801
 replace H := Option.bind_eq_some_iff.mp H
 obtain ⟨⟨t804, t805, t806, t807, t808, t809⟩, A60, H⟩ := H
 try dsimp only at H
 have A6 := Aside0.mk A60
 clear A60
 obtain ⟨y811, hy811⟩ : ∃ y_ : List (S27), y_ = (([(⟨a1_0, (⟨a1_1, a1_2, a1_3, a1_4⟩ : S25)⟩ : S27), (⟨a0_0, (⟨a0_1, a0_2, a0_3, a0_4⟩ : S25)⟩ : S27)] : List (S27))) := ⟨_, rfl⟩
 replace H : ((wide_Mul.f k y811).bind fun bt814 => (if (!(t784 == t794) || ((!(t785 == t795) || (!(t786 == t796) || (!(t787 == t797) || (!(t788 == t798))))))) = true then (parquetlaw01_WideOrder.j0 k t789 true a0_0 a0_1 a0_2 a0_3 a0_4 a1_0 a1_1 a1_2 a1_3 a1_4 a2_0 a2_1 a2_2 a2_3 a2_4 t784 t785 t786 t787 t788) else (if t789 = t799 then (if (!(t804 == bt814.1) || ((!(t805 == bt814.2.1) || (!(t806 == bt814.2.2.1) || (!(t807 == bt814.2.2.2.1) || (!(t808 == bt814.2.2.2.2.1))))))) = true then (parquetlaw01_WideOrder.j0 k t789 true a0_0 a0_1 a0_2 a0_3 a0_4 a1_0 a1_1 a1_2 a1_3 a1_4 a2_0 a2_1 a2_2 a2_3 a2_4 t784 t785 t786 t787 t788) else (parquetlaw01_WideOrder.j0 k t789 (t809 != bt814.2.2.2.2.2) a0_0 a0_1 a0_2 a0_3 a0_4 a1_0 a1_1 a1_2 a1_3 a1_4 a2_0 a2_1 a2_2 a2_3 a2_4 t784 t785 t786 t787 t788)) else (parquetlaw01_WideOrder.j0 k t789 true a0_0 a0_1 a0_2 a0_3 a0_4 a1_0 a1_1 a1_2 a1_3 a1_4 a2_0 a2_1 a2_2 a2_3 a2_4 t784 t785 t786 t787 t788)))) = some r := by first | (rw [hy811]; with_reducible exact H) | (have H2_ := (Option.bind_some _ _).symm.trans H; rw [hy811]; with_reducible exact H2_) | (have H2_ := (Option.bind_some _ _).symm.trans H; with_reducible exact H2_) | with_reducible exact H | (rw [hy811]; exact H) | exact H
 have Ny811 := Aside0.mk hy811
 clear hy811
 replace H := Option.bind_eq_some_iff.mp H
 obtain ⟨⟨t814, t815, t816, t817, t818, t819⟩, A70, H⟩ := H
 try dsimp only at H
 have A7 := Aside0.mk A70
 clear A70
 have HC8 := Aside0.mk H
 clear H
 go_enter Try.func7, Try.ntmps7
 go_upto_region 5 with (first | ((with_reducible refine gate_dst (N := 3) rfl ?_); refine box_event ?hg (N := 3) ?hd (cs := #[.bool a0_0, .int .u64 a0_1, .int .u64 a0_2, .int .u64 a0_3, .int .u64 a0_4]) (t := 27) ?hr ?_; (case hd => rfl); (case hg => rfl); (case hr => first | (go_simp; done) | (go_simp; rfl)); intro gb778 hg w9 hbox hb; have n0_ := Aside0.mk (below_step (by repeat (first | (with_reducible first | exact HB.out | apply qa | apply qn | apply qd) | exact HB.out)) hb); have n1_ := Aside0.mk (hbox); have n2_ := bgw HB hg; have n3_ := bgw HB hg; clear HB; have HB := n0_; have BK778 := n1_; have GW778 := n2_; have GE778 := n3_; clear n0_ n1_ n2_ n3_; clear hb hbox hg) | ((with_reducible refine gate_dst (N := 4) rfl ?_); refine box_event ?hg (N := 4) ?hd (cs := #[.bool a1_0, .int .u64 a1_1, .int .u64 a1_2, .int .u64 a1_3, .int .u64 a1_4]) (t := 27) ?hr ?_; (case hd => rfl); (case hg => rfl); (case hr => first | (go_simp; done) | (go_simp; rfl)); intro gb779 hg w10 hbox hb; have n0_ := bb BK778 hb; have n1_ := Aside0.mk (below_step (by repeat (first | (with_reducible first | exact HB.out | apply qa | apply qn | apply qd | refine qs ?_ GE778.out) | exact HB.out)) hb); have n2_ := Aside0.mk (hbox); have n3_ := bgw HB hg; have n4_ := bgw HB hg; have n5_ := bnl BK778 hg; have n6_ := bng BK778 hg; clear BK778; clear HB; have BK778 := n0_; have HB := n1_; have BK779 := n2_; have GW779 := n3_; have GE779 := n4_; have NB778_779 := n5_; have NB779_778 := n6_; clear n0_ n1_ n2_ n3_ n4_ n5_ n6_; clear hb hbox hg) | ((with_reducible refine gate_dst (N := 5) rfl ?_); refine box_event ?hg (N := 5) ?hd (cs := #[.bool a2_0, .int .u64 a2_1, .int .u64 a2_2, .int .u64 a2_3, .int .u64 a2_4]) (t := 27) ?hr ?_; (case hd => rfl); (case hg => rfl); (case hr => first | (go_simp; done) | (go_simp; rfl)); intro gb780 hg w11 hbox hb; have n0_ := bb BK778 hb; have n1_ := bb BK779 hb; have n2_ := Aside0.mk (below_step (by repeat (first | (with_reducible first | exact HB.out | apply qa | apply qn | apply qd | refine qs ?_ GE778.out | refine qs ?_ GE779.out) | exact HB.out)) hb); have n3_ := Aside0.mk (hbox); have n4_ := bgw HB hg; have n5_ := bgw HB hg; have n6_ := bnl BK778 hg; have n7_ := bng BK778 hg; have n8_ := bnl BK779 hg; have n9_ := bng BK779 hg; clear BK778; clear BK779; clear HB; have BK778 := n0_; have BK779 := n1_; have HB := n2_; have BK780 := n3_; have GW780 := n4_; have GE780 := n5_; have NB778_780 := n6_; have NB780_778 := n7_; have NB779_780 := n8_; have NB780_779 := n9_; clear n0_ n1_ n2_ n3_ n4_ n5_ n6_ n7_ n8_ n9_; clear hb hbox hg; have hnb12 := NB778_779.out; have hnc12 := NB779_778.out; have hnb13 := NB778_780.out; have hnc13 := NB780_778.out; obtain ⟨hcz14_0, hcz14_1, hcz14_2, hcz14_3, hcz14_4⟩ := cl5 BK778.out; obtain ⟨hfz14_0, hfz14_1, hfz14_2, hfz14_3, hfz14_4⟩ := fr5 BK778.out; have hnb15 := NB779_780.out; have hnc15 := NB780_779.out; obtain ⟨hcz16_0, hcz16_1, hcz16_2, hcz16_3, hcz16_4⟩ := cl5 BK779.out; obtain ⟨hfz16_0, hfz16_1, hfz16_2, hfz16_3, hfz16_4⟩ := fr5 BK779.out) | ((with_reducible refine gate_dst (N := 30) rfl ?_); refine Kd.R_lit k27 _ 27 ?hg (N := 30) ?hd (xs := ([(⟨a0_0, (⟨a0_1, a0_2, a0_3, a0_4⟩ : S25)⟩ : S27), (⟨a1_0, (⟨a1_1, a1_2, a1_3, a1_4⟩ : S25)⟩ : S27)] : List (S27))) (inner := [.bool a0_0, .int .u64 a0_1, .int .u64 a0_2, .int .u64 a0_3, .int .u64 a0_4, .bool a1_0, .int .u64 a1_1, .int .u64 a1_2, .int .u64 a1_3, .int .u64 a1_4]) (ok := fun _ => True) (okp := fun _ => True) ?hr ?hp (fun _ hk => hk) trivial (Below.refl _ _) (Nat.le_refl _) (by simp) ?_; (case hd => rfl); (case hg => rfl); (case hr => first | (go_simp; done) | (go_simp; rfl)); (case hp => exact (Reps.c5 (show Kd.M k27 _ _ _ (⟨a0_0, (⟨a0_1, a0_2, a0_3, a0_4⟩ : S25)⟩ : S27) [.bool a0_0, .int .u64 a0_1, .int .u64 a0_2, .int .u64 a0_3, .int .u64 a0_4] from (k27_mkM _ _ _ (⟨a0_0, (⟨a0_1, a0_2, a0_3, a0_4⟩ : S25)⟩ : S27) )) (Reps.c5 (show Kd.M k27 _ _ _ (⟨a1_0, (⟨a1_1, a1_2, a1_3, a1_4⟩ : S25)⟩ : S27) [.bool a1_0, .int .u64 a1_1, .int .u64 a1_2, .int .u64 a1_3, .int .u64 a1_4] from (k27_mkM _ _ _ (⟨a1_0, (⟨a1_1, a1_2, a1_3, a1_4⟩ : S25)⟩ : S27) )) (Reps.none _ _)))); intro v782 w17 ho18 hb hg_ hnew_; clear hg_ hnew_; (first | rw [← Ny781.out] at ho18 | (simp only [Int.reduceToNat] at ho18; rw [← Ny781.out] at ho18)); have n0_ := Aside0.mk ho18; have n1_ := bb BK778 hb; have n2_ := bb BK779 hb; have n3_ := bb BK780 hb; have n4_ := Aside0.mk (below_step (by repeat (first | (with_reducible first | exact HB.out | apply qa | apply qn | apply qd | refine qs ?_ GE778.out | refine qs ?_ GE779.out | refine qs ?_ GE780.out) | exact HB.out)) hb); clear BK778; clear BK779; clear BK780; clear HB; have HO783 := n0_; have BK778 := n1_; have BK779 := n2_; have BK780 := n3_; have HB := n4_; clear n0_ n1_ n2_ n3_ n4_; clear hb ho18; obtain ⟨Ao19, co19, eo19⟩ := Kd.R_slice HO783.out; subst eo19) | ((with_reducible refine gate_callee (f := 35) rfl ?_); refine goesL_ (some 31) rfl rfl Try.func35 (by kernel_rfl) rfl #[.slice Ao19 y781.length co19] rfl (by (try simp only [List.map_toArray, List.map_cons, List.map_nil]); first | done | rfl | (simp only [List.length_drop, List.length_take]; rfl)) ?_; (with_reducible refine (wide_Add.calls k _ _ y781 t784 t785 t786 t787 t788 t789 _ ?side1 ?side2 A4.out).mono ?_); (case side1 => repeat (first | exact (Kd.R_reads' HO783.out).2.2 | (with_reducible refine Kd.C_alloc ?_ _) | (with_reducible refine Kd.C_drewN ?_ _) | (with_reducible refine Kd.C_drew ?_))); (case side2 => exact (Kd.R_reads' HO783.out).2.1); rintro e w20 ⟨rfl, hb⟩; refine ⟨_, rfl, ?_⟩; have n1_ := bb BK778 hb; have n2_ := bb BK779 hb; have n3_ := bb BK780 hb; have n4_ := Aside0.mk (below_step (by repeat (first | (with_reducible first | exact HB.out | apply qa | apply qn | apply qd | refine qs ?_ GE778.out | refine qs ?_ GE779.out | refine qs ?_ GE780.out) | exact HB.out)) hb); (try clear HO783); clear BK778; clear BK779; clear BK780; clear HB; have BK778 := n1_; have BK779 := n2_; have BK780 := n3_; have HB := n4_; clear n1_ n2_ n3_ n4_; (try clear hb); (try clear hb2); (try clear hk); (try clear hi)) | ((with_reducible refine gate_dst (N := 7) rfl ?_); refine box_event ?hg (N := 7) ?hd (cs := #[.bool false, .int .u64 0, .int .u64 0, .int .u64 0, .int .u64 0]) (t := 27) ?hr ?_; (case hd => rfl); (case hg => rfl); (case hr => first | (go_simp; done) | (go_simp; rfl)); intro gb790 hg w21 hbox hb; have n1_ := bb BK778 hb; have n2_ := bb BK779 hb; have n3_ := bb BK780 hb; have n4_ := Aside0.mk (below_step (by repeat (first | (with_reducible first | exact HB.out | apply qa | apply qn | apply qd | refine qs ?_ GE778.out | refine qs ?_ GE779.out | refine qs ?_ GE780.out) | exact HB.out)) hb); have n5_ := Aside0.mk (hbox); have n6_ := bgw HB hg; have n7_ := bgw HB hg; have n8_ := bnl BK778 hg; have n9_ := bng BK778 hg; have n10_ := bnl BK779 hg; have n11_ := bng BK779 hg; have n12_ := bnl BK780 hg; have n13_ := bng BK780 hg; (try clear HO783); clear BK778; clear BK779; clear BK780; clear HB; have BK778 := n1_; have BK779 := n2_; have BK780 := n3_; have HB := n4_; have BK790 := n5_; have GW790 := n6_; have GE790 := n7_; have NB778_790 := n8_; have NB790_778 := n9_; have NB779_790 := n10_; have NB790_779 := n11_; have NB780_790 := n12_; have NB790_780 := n13_; clear n1_ n2_ n3_ n4_ n5_ n6_ n7_ n8_ n9_ n10_ n11_ n12_ n13_; clear hb hbox hg; have hnb22 := NB790_778.out; have hnc22 := NB778_790.out; have hnb23 := NB790_779.out; have hnc23 := NB779_790.out; have hnb24 := NB790_780.out; have hnc24 := NB780_790.out; obtain ⟨hcz25_0, hcz25_1, hcz25_2, hcz25_3, hcz25_4⟩ := cl5 BK790.out; obtain ⟨hfz25_0, hfz25_1, hfz25_2, hfz25_3, hfz25_4⟩ := fr5 BK790.out; obtain ⟨hcz26_0, hcz26_1, hcz26_2, hcz26_3, hcz26_4⟩ := cl5 BK779.out; obtain ⟨hfz26_0, hfz26_1, hfz26_2, hfz26_3, hfz26_4⟩ := fr5 BK779.out; obtain ⟨hcz27_0, hcz27_1, hcz27_2, hcz27_3, hcz27_4⟩ := cl5 BK778.out; obtain ⟨hfz27_0, hfz27_1, hfz27_2, hfz27_3, hfz27_4⟩ := fr5 BK778.out) | ((with_reducible refine gate_dst (N := 37) rfl ?_); refine Kd.R_lit k27 _ 27 ?hg (N := 37) ?hd (xs := ([(⟨a1_0, (⟨a1_1, a1_2, a1_3, a1_4⟩ : S25)⟩ : S27), (⟨a0_0, (⟨a0_1, a0_2, a0_3, a0_4⟩ : S25)⟩ : S27)] : List (S27))) (inner := [.bool a1_0, .int .u64 a1_1, .int .u64 a1_2, .int .u64 a1_3, .int .u64 a1_4, .bool a0_0, .int .u64 a0_1, .int .u64 a0_2, .int .u64 a0_3, .int .u64 a0_4]) (ok := fun _ => True) (okp := fun _ => True) ?hr ?hp (fun _ hk => hk) trivial (Below.refl _ _) (Nat.le_refl _) (by simp) ?_; (case hd => rfl); (case hg => rfl); (case hr => first | (go_simp; done) | (go_simp; rfl)); (case hp => exact (Reps.c5 (show Kd.M k27 _ _ _ (⟨a1_0, (⟨a1_1, a1_2, a1_3, a1_4⟩ : S25)⟩ : S27) [.bool a1_0, .int .u64 a1_1, .int .u64 a1_2, .int .u64 a1_3, .int .u64 a1_4] from (k27_mkM _ _ _ (⟨a1_0, (⟨a1_1, a1_2, a1_3, a1_4⟩ : S25)⟩ : S27) )) (Reps.c5 (show Kd.M k27 _ _ _ (⟨a0_0, (⟨a0_1, a0_2, a0_3, a0_4⟩ : S25)⟩ : S27) [.bool a0_0, .int .u64 a0_1, .int .u64 a0_2, .int .u64 a0_3, .int .u64 a0_4] from (k27_mkM _ _ _ (⟨a0_0, (⟨a0_1, a0_2, a0_3, a0_4⟩ : S25)⟩ : S27) )) (Reps.none _ _)))); intro v792 w28 ho29 hb hg_ hnew_; clear hg_ hnew_; (first | rw [← Ny791.out] at ho29 | (simp only [Int.reduceToNat] at ho29; rw [← Ny791.out] at ho29)); have n1_ := Aside0.mk ho29; have n2_ := Aside0.mk (blk_below (g := gb778) (o := .cells #[.bool a0_0, .int .u64 a0_1, .int .u64 a0_2, .int .u64 a0_3, .int .u64 a0_4] 27 (0, 0)) (by repeat (with_reducible first | exact lb BK778.out | refine blk_far ?_ NB778_790.out _ | refine cn ?_ _ | refine cd ?_ | refine ca ?_ _)) hb); have n3_ := Aside0.mk (blk_below (g := gb779) (o := .cells #[.bool a1_0, .int .u64 a1_1, .int .u64 a1_2, .int .u64 a1_3, .int .u64 a1_4] 27 (0, 0)) (by repeat (with_reducible first | exact lb BK779.out | refine blk_far ?_ NB779_790.out _ | refine cn ?_ _ | refine cd ?_ | refine ca ?_ _)) hb); have n4_ := Aside0.mk (blk_below (g := gb780) (o := .cells #[.bool a2_0, .int .u64 a2_1, .int .u64 a2_2, .int .u64 a2_3, .int .u64 a2_4] 27 (0, 0)) (by repeat (with_reducible first | exact lb BK780.out | refine blk_far ?_ NB780_790.out _ | refine cn ?_ _ | refine cd ?_ | refine ca ?_ _)) hb); have n5_ := Aside0.mk (blk_below (g := gb790) (o := .cells #[.bool t784, .int .u64 t785, .int .u64 t786, .int .u64 t787, .int .u64 t788] 27 (0, 0)) (by (with_reducible repeat (first | refine cn ?_ _ | refine cd ?_ | refine ca ?_ _)); exact bp5 (lb BK790.out)) hb); have n6_ := Aside0.mk (below_step (by repeat (first | (with_reducible first | exact HB.out | apply qa | apply qn | apply qd | refine qs ?_ GE778.out | refine qs ?_ GE779.out | refine qs ?_ GE780.out | refine qs ?_ GE790.out) | exact HB.out)) hb); (try clear HO783); clear BK778; clear BK779; clear BK780; clear BK790; clear HB; have HO793 := n1_; have BK778 := n2_; have BK779 := n3_; have BK780 := n4_; have BK790 := n5_; have HB := n6_; clear n1_ n2_ n3_ n4_ n5_ n6_; clear hb ho29; obtain ⟨Ao30, co30, eo30⟩ := Kd.R_slice HO793.out; subst eo30) | ((with_reducible refine gate_callee (f := 35) rfl ?_); refine goesL_ (some 38) rfl rfl Try.func35 (by kernel_rfl) rfl #[.slice Ao30 y791.length co30] rfl (by (try simp only [List.map_toArray, List.map_cons, List.map_nil]); first | done | rfl | (simp only [List.length_drop, List.length_take]; rfl)) ?_; (with_reducible refine (wide_Add.calls k _ _ y791 t794 t795 t796 t797 t798 t799 _ ?side1 ?side2 A5.out).mono ?_); (case side1 => repeat (first | exact (Kd.R_reads' HO793.out).2.2 | (with_reducible refine Kd.C_alloc ?_ _) | (with_reducible refine Kd.C_drewN ?_ _) | (with_reducible refine Kd.C_drew ?_))); (case side2 => exact (Kd.R_reads' HO793.out).2.1); rintro e w31 ⟨rfl, hb⟩; refine ⟨_, rfl, ?_⟩; have n2_ := bb BK778 hb; have n3_ := bb BK779 hb; have n4_ := bb BK780 hb; have n5_ := bb BK790 hb; have n6_ := Aside0.mk (below_step (by repeat (first | (with_reducible first | exact HB.out | apply qa | apply qn | apply qd | refine qs ?_ GE778.out | refine qs ?_ GE779.out | refine qs ?_ GE780.out | refine qs ?_ GE790.out) | exact HB.out)) hb); (try clear HO783); (try clear HO793); clear BK778; clear BK779; clear BK780; clear BK790; clear HB; have BK778 := n2_; have BK779 := n3_; have BK780 := n4_; have BK790 := n5_; have HB := n6_; clear n2_ n3_ n4_ n5_ n6_; (try clear hb); (try clear hb2); (try clear hk); (try clear hi)) | ((with_reducible refine gate_dst (N := 9) rfl ?_); refine box_event ?hg (N := 9) ?hd (cs := #[.bool false, .int .u64 0, .int .u64 0, .int .u64 0, .int .u64 0]) (t := 27) ?hr ?_; (case hd => rfl); (case hg => rfl); (case hr => first | (go_simp; done) | (go_simp; rfl)); intro gb800 hg w32 hbox hb; have n2_ := bb BK778 hb; have n3_ := bb BK779 hb; have n4_ := bb BK780 hb; have n5_ := bb BK790 hb; have n6_ := Aside0.mk (below_step (by repeat (first | (with_reducible first | exact HB.out | apply qa | apply qn | apply qd | refine qs ?_ GE778.out | refine qs ?_ GE779.out | refine qs ?_ GE780.out | refine qs ?_ GE790.out) | exact HB.out)) hb); have n7_ := Aside0.mk (hbox); have n8_ := bgw HB hg; have n9_ := bgw HB hg; have n10_ := bnl BK778 hg; have n11_ := bng BK778 hg; have n12_ := bnl BK779 hg; have n13_ := bng BK779 hg; have n14_ := bnl BK780 hg; have n15_ := bng BK780 hg; have n16_ := bnl BK790 hg; have n17_ := bng BK790 hg; (try clear HO783); (try clear HO793); clear BK778; clear BK779; clear BK780; clear BK790; clear HB; have BK778 := n2_; have BK779 := n3_; have BK780 := n4_; have BK790 := n5_; have HB := n6_; have BK800 := n7_; have GW800 := n8_; have GE800 := n9_; have NB778_800 := n10_; have NB800_778 := n11_; have NB779_800 := n12_; have NB800_779 := n13_; have NB780_800 := n14_; have NB800_780 := n15_; have NB790_800 := n16_; have NB800_790 := n17_; clear n2_ n3_ n4_ n5_ n6_ n7_ n8_ n9_ n10_ n11_ n12_ n13_ n14_ n15_ n16_ n17_; clear hb hbox hg; have hnb33 := NB800_778.out; have hnc33 := NB778_800.out; have hnb34 := NB800_779.out; have hnc34 := NB779_800.out; have hnb35 := NB800_780.out; have hnc35 := NB780_800.out; have hnb36 := NB800_790.out; have hnc36 := NB790_800.out; obtain ⟨hcz37_0, hcz37_1, hcz37_2, hcz37_3, hcz37_4⟩ := cl5 BK800.out; obtain ⟨hfz37_0, hfz37_1, hfz37_2, hfz37_3, hfz37_4⟩ := fr5 BK800.out; obtain ⟨hcz38_0, hcz38_1, hcz38_2, hcz38_3, hcz38_4⟩ := cl5 BK778.out; obtain ⟨hfz38_0, hfz38_1, hfz38_2, hfz38_3, hfz38_4⟩ := fr5 BK778.out; obtain ⟨hcz39_0, hcz39_1, hcz39_2, hcz39_3, hcz39_4⟩ := cl5 BK779.out; obtain ⟨hfz39_0, hfz39_1, hfz39_2, hfz39_3, hfz39_4⟩ := fr5 BK779.out) | ((with_reducible refine gate_dst (N := 44) rfl ?_); refine Kd.R_lit k27 _ 27 ?hg (N := 44) ?hd (xs := ([(⟨a0_0, (⟨a0_1, a0_2, a0_3, a0_4⟩ : S25)⟩ : S27), (⟨a1_0, (⟨a1_1, a1_2, a1_3, a1_4⟩ : S25)⟩ : S27)] : List (S27))) (inner := [.bool a0_0, .int .u64 a0_1, .int .u64 a0_2, .int .u64 a0_3, .int .u64 a0_4, .bool a1_0, .int .u64 a1_1, .int .u64 a1_2, .int .u64 a1_3, .int .u64 a1_4]) (ok := fun _ => True) (okp := fun _ => True) ?hr ?hp (fun _ hk => hk) trivial (Below.refl _ _) (Nat.le_refl _) (by simp) ?_; (case hd => rfl); (case hg => rfl); (case hr => first | (go_simp; done) | (go_simp; rfl)); (case hp => exact (Reps.c5 (show Kd.M k27 _ _ _ (⟨a0_0, (⟨a0_1, a0_2, a0_3, a0_4⟩ : S25)⟩ : S27) [.bool a0_0, .int .u64 a0_1, .int .u64 a0_2, .int .u64 a0_3, .int .u64 a0_4] from (k27_mkM _ _ _ (⟨a0_0, (⟨a0_1, a0_2, a0_3, a0_4⟩ : S25)⟩ : S27) )) (Reps.c5 (show Kd.M k27 _ _ _ (⟨a1_0, (⟨a1_1, a1_2, a1_3, a1_4⟩ : S25)⟩ : S27) [.bool a1_0, .int .u64 a1_1, .int .u64 a1_2, .int .u64 a1_3, .int .u64 a1_4] from (k27_mkM _ _ _ (⟨a1_0, (⟨a1_1, a1_2, a1_3, a1_4⟩ : S25)⟩ : S27) )) (Reps.none _ _)))); intro v802 w40 ho41 hb hg_ hnew_; clear hg_ hnew_; (first | rw [← Ny801.out] at ho41 | (simp only [Int.reduceToNat] at ho41; rw [← Ny801.out] at ho41)); have n2_ := Aside0.mk ho41; have n3_ := Aside0.mk (blk_below (g := gb778) (o := .cells #[.bool a0_0, .int .u64 a0_1, .int .u64 a0_2, .int .u64 a0_3, .int .u64 a0_4] 27 (0, 0)) (by repeat (with_reducible first | exact lb BK778.out | refine blk_far ?_ NB778_800.out _ | refine cn ?_ _ | refine cd ?_ | refine ca ?_ _)) hb); have n4_ := Aside0.mk (blk_below (g := gb779) (o := .cells #[.bool a1_0, .int .u64 a1_1, .int .u64 a1_2, .int .u64 a1_3, .int .u64 a1_4] 27 (0, 0)) (by repeat (with_reducible first | exact lb BK779.out | refine blk_far ?_ NB779_800.out _ | refine cn ?_ _ | refine cd ?_ | refine ca ?_ _)) hb); have n5_ := Aside0.mk (blk_below (g := gb780) (o := .cells #[.bool a2_0, .int .u64 a2_1, .int .u64 a2_2, .int .u64 a2_3, .int .u64 a2_4] 27 (0, 0)) (by repeat (with_reducible first | exact lb BK780.out | refine blk_far ?_ NB780_800.out _ | refine cn ?_ _ | refine cd ?_ | refine ca ?_ _)) hb); have n6_ := Aside0.mk (blk_below (g := gb790) (o := .cells #[.bool t784, .int .u64 t785, .int .u64 t786, .int .u64 t787, .int .u64 t788] 27 (0, 0)) (by repeat (with_reducible first | exact lb BK790.out | refine blk_far ?_ NB790_800.out _ | refine cn ?_ _ | refine cd ?_ | refine ca ?_ _)) hb); have n7_ := Aside0.mk (blk_below (g := gb800) (o := .cells #[.bool t794, .int .u64 t795, .int .u64 t796, .int .u64 t797, .int .u64 t798] 27 (0, 0)) (by (with_reducible repeat (first | refine cn ?_ _ | refine cd ?_ | refine ca ?_ _)); exact bp5 (lb BK800.out)) hb); have n8_ := Aside0.mk (below_step (by repeat (first | (with_reducible first | exact HB.out | apply qa | apply qn | apply qd | refine qs ?_ GE778.out | refine qs ?_ GE779.out | refine qs ?_ GE780.out | refine qs ?_ GE790.out | refine qs ?_ GE800.out) | exact HB.out)) hb); (try clear HO783); (try clear HO793); clear BK778; clear BK779; clear BK780; clear BK790; clear BK800; clear HB; have HO803 := n2_; have BK778 := n3_; have BK779 := n4_; have BK780 := n5_; have BK790 := n6_; have BK800 := n7_; have HB := n8_; clear n2_ n3_ n4_ n5_ n6_ n7_ n8_; clear hb ho41; obtain ⟨Ao42, co42, eo42⟩ := Kd.R_slice HO803.out; subst eo42) | ((with_reducible refine gate_callee (f := 21) rfl ?_); refine goesL_ (some 45) rfl rfl Try.func21 (by kernel_rfl) rfl #[.slice Ao42 y801.length co42] rfl (by (try simp only [List.map_toArray, List.map_cons, List.map_nil]); first | done | rfl | (simp only [List.length_drop, List.length_take]; rfl)) ?_; (with_reducible refine (wide_Mul.calls k _ _ y801 t804 t805 t806 t807 t808 t809 _ ?side1 ?side2 A6.out).mono ?_); (case side1 => repeat (first | exact (Kd.R_reads' HO803.out).2.2 | (with_reducible refine Kd.C_alloc ?_ _) | (with_reducible refine Kd.C_drewN ?_ _) | (with_reducible refine Kd.C_drew ?_))); (case side2 => exact (Kd.R_reads' HO803.out).2.1); rintro e w43 ⟨rfl, hb⟩; refine ⟨_, rfl, ?_⟩; have n3_ := bb BK778 hb; have n4_ := bb BK779 hb; have n5_ := bb BK780 hb; have n6_ := bb BK790 hb; have n7_ := bb BK800 hb; have n8_ := Aside0.mk (below_step (by repeat (first | (with_reducible first | exact HB.out | apply qa | apply qn | apply qd | refine qs ?_ GE778.out | refine qs ?_ GE779.out | refine qs ?_ GE780.out | refine qs ?_ GE790.out | refine qs ?_ GE800.out) | exact HB.out)) hb); (try clear HO783); (try clear HO793); (try clear HO803); clear BK778; clear BK779; clear BK780; clear BK790; clear BK800; clear HB; have BK778 := n3_; have BK779 := n4_; have BK780 := n5_; have BK790 := n6_; have BK800 := n7_; have HB := n8_; clear n3_ n4_ n5_ n6_ n7_ n8_; (try clear hb); (try clear hb2); (try clear hk); (try clear hi)) | ((with_reducible refine gate_dst (N := 11) rfl ?_); refine box_event ?hg (N := 11) ?hd (cs := #[.bool false, .int .u64 0, .int .u64 0, .int .u64 0, .int .u64 0]) (t := 27) ?hr ?_; (case hd => rfl); (case hg => rfl); (case hr => first | (go_simp; done) | (go_simp; rfl)); intro gb810 hg w44 hbox hb; have n3_ := bb BK778 hb; have n4_ := bb BK779 hb; have n5_ := bb BK780 hb; have n6_ := bb BK790 hb; have n7_ := bb BK800 hb; have n8_ := Aside0.mk (below_step (by repeat (first | (with_reducible first | exact HB.out | apply qa | apply qn | apply qd | refine qs ?_ GE778.out | refine qs ?_ GE779.out | refine qs ?_ GE780.out | refine qs ?_ GE790.out | refine qs ?_ GE800.out) | exact HB.out)) hb); have n9_ := Aside0.mk (hbox); have n10_ := bgw HB hg; have n11_ := bgw HB hg; have n12_ := bnl BK778 hg; have n13_ := bng BK778 hg; have n14_ := bnl BK779 hg; have n15_ := bng BK779 hg; have n16_ := bnl BK780 hg; have n17_ := bng BK780 hg; have n18_ := bnl BK790 hg; have n19_ := bng BK790 hg; have n20_ := bnl BK800 hg; have n21_ := bng BK800 hg; (try clear HO783); (try clear HO793); (try clear HO803); clear BK778; clear BK779; clear BK780; clear BK790; clear BK800; clear HB; have BK778 := n3_; have BK779 := n4_; have BK780 := n5_; have BK790 := n6_; have BK800 := n7_; have HB := n8_; have BK810 := n9_; have GW810 := n10_; have GE810 := n11_; have NB778_810 := n12_; have NB810_778 := n13_; have NB779_810 := n14_; have NB810_779 := n15_; have NB780_810 := n16_; have NB810_780 := n17_; have NB790_810 := n18_; have NB810_790 := n19_; have NB800_810 := n20_; have NB810_800 := n21_; clear n3_ n4_ n5_ n6_ n7_ n8_ n9_ n10_ n11_ n12_ n13_ n14_ n15_ n16_ n17_ n18_ n19_ n20_ n21_; clear hb hbox hg; have hnb45 := NB810_778.out; have hnc45 := NB778_810.out; have hnb46 := NB810_779.out; have hnc46 := NB779_810.out; have hnb47 := NB810_780.out; have hnc47 := NB780_810.out; have hnb48 := NB810_790.out; have hnc48 := NB790_810.out; have hnb49 := NB810_800.out; have hnc49 := NB800_810.out; obtain ⟨hcz50_0, hcz50_1, hcz50_2, hcz50_3, hcz50_4⟩ := cl5 BK810.out; obtain ⟨hfz50_0, hfz50_1, hfz50_2, hfz50_3, hfz50_4⟩ := fr5 BK810.out; obtain ⟨hcz51_0, hcz51_1, hcz51_2, hcz51_3, hcz51_4⟩ := cl5 BK779.out; obtain ⟨hfz51_0, hfz51_1, hfz51_2, hfz51_3, hfz51_4⟩ := fr5 BK779.out; obtain ⟨hcz52_0, hcz52_1, hcz52_2, hcz52_3, hcz52_4⟩ := cl5 BK778.out; obtain ⟨hfz52_0, hfz52_1, hfz52_2, hfz52_3, hfz52_4⟩ := fr5 BK778.out) | ((with_reducible refine gate_dst (N := 51) rfl ?_); refine Kd.R_lit k27 _ 27 ?hg (N := 51) ?hd (xs := ([(⟨a1_0, (⟨a1_1, a1_2, a1_3, a1_4⟩ : S25)⟩ : S27), (⟨a0_0, (⟨a0_1, a0_2, a0_3, a0_4⟩ : S25)⟩ : S27)] : List (S27))) (inner := [.bool a1_0, .int .u64 a1_1, .int .u64 a1_2, .int .u64 a1_3, .int .u64 a1_4, .bool a0_0, .int .u64 a0_1, .int .u64 a0_2, .int .u64 a0_3, .int .u64 a0_4]) (ok := fun _ => True) (okp := fun _ => True) ?hr ?hp (fun _ hk => hk) trivial (Below.refl _ _) (Nat.le_refl _) (by simp) ?_; (case hd => rfl); (case hg => rfl); (case hr => first | (go_simp; done) | (go_simp; rfl)); (case hp => exact (Reps.c5 (show Kd.M k27 _ _ _ (⟨a1_0, (⟨a1_1, a1_2, a1_3, a1_4⟩ : S25)⟩ : S27) [.bool a1_0, .int .u64 a1_1, .int .u64 a1_2, .int .u64 a1_3, .int .u64 a1_4] from (k27_mkM _ _ _ (⟨a1_0, (⟨a1_1, a1_2, a1_3, a1_4⟩ : S25)⟩ : S27) )) (Reps.c5 (show Kd.M k27 _ _ _ (⟨a0_0, (⟨a0_1, a0_2, a0_3, a0_4⟩ : S25)⟩ : S27) [.bool a0_0, .int .u64 a0_1, .int .u64 a0_2, .int .u64 a0_3, .int .u64 a0_4] from (k27_mkM _ _ _ (⟨a0_0, (⟨a0_1, a0_2, a0_3, a0_4⟩ : S25)⟩ : S27) )) (Reps.none _ _)))); intro v812 w53 ho54 hb hg_ hnew_; clear hg_ hnew_; (first | rw [← Ny811.out] at ho54 | (simp only [Int.reduceToNat] at ho54; rw [← Ny811.out] at ho54)); have n3_ := Aside0.mk ho54; have n4_ := Aside0.mk (blk_below (g := gb778) (o := .cells #[.bool a0_0, .int .u64 a0_1, .int .u64 a0_2, .int .u64 a0_3, .int .u64 a0_4] 27 (0, 0)) (by repeat (with_reducible first | exact lb BK778.out | refine blk_far ?_ NB778_810.out _ | refine cn ?_ _ | refine cd ?_ | refine ca ?_ _)) hb); have n5_ := Aside0.mk (blk_below (g := gb779) (o := .cells #[.bool a1_0, .int .u64 a1_1, .int .u64 a1_2, .int .u64 a1_3, .int .u64 a1_4] 27 (0, 0)) (by repeat (with_reducible first | exact lb BK779.out | refine blk_far ?_ NB779_810.out _ | refine cn ?_ _ | refine cd ?_ | refine ca ?_ _)) hb); have n6_ := Aside0.mk (blk_below (g := gb780) (o := .cells #[.bool a2_0, .int .u64 a2_1, .int .u64 a2_2, .int .u64 a2_3, .int .u64 a2_4] 27 (0, 0)) (by repeat (with_reducible first | exact lb BK780.out | refine blk_far ?_ NB780_810.out _ | refine cn ?_ _ | refine cd ?_ | refine ca ?_ _)) hb); have n7_ := Aside0.mk (blk_below (g := gb790) (o := .cells #[.bool t784, .int .u64 t785, .int .u64 t786, .int .u64 t787, .int .u64 t788] 27 (0, 0)) (by repeat (with_reducible first | exact lb BK790.out | refine blk_far ?_ NB790_810.out _ | refine cn ?_ _ | refine cd ?_ | refine ca ?_ _)) hb); have n8_ := Aside0.mk (blk_below (g := gb800) (o := .cells #[.bool t794, .int .u64 t795, .int .u64 t796, .int .u64 t797, .int .u64 t798] 27 (0, 0)) (by repeat (with_reducible first | exact lb BK800.out | refine blk_far ?_ NB800_810.out _ | refine cn ?_ _ | refine cd ?_ | refine ca ?_ _)) hb); have n9_ := Aside0.mk (blk_below (g := gb810) (o := .cells #[.bool t804, .int .u64 t805, .int .u64 t806, .int .u64 t807, .int .u64 t808] 27 (0, 0)) (by (with_reducible repeat (first | refine cn ?_ _ | refine cd ?_ | refine ca ?_ _)); exact bp5 (lb BK810.out)) hb); have n10_ := Aside0.mk (below_step (by repeat (first | (with_reducible first | exact HB.out | apply qa | apply qn | apply qd | refine qs ?_ GE778.out | refine qs ?_ GE779.out | refine qs ?_ GE780.out | refine qs ?_ GE790.out | refine qs ?_ GE800.out | refine qs ?_ GE810.out) | exact HB.out)) hb); (try clear HO783); (try clear HO793); (try clear HO803); clear BK778; clear BK779; clear BK780; clear BK790; clear BK800; clear BK810; clear HB; have HO813 := n3_; have BK778 := n4_; have BK779 := n5_; have BK780 := n6_; have BK790 := n7_; have BK800 := n8_; have BK810 := n9_; have HB := n10_; clear n3_ n4_ n5_ n6_ n7_ n8_ n9_ n10_; clear hb ho54; obtain ⟨Ao55, co55, eo55⟩ := Kd.R_slice HO813.out; subst eo55) | ((with_reducible refine gate_callee (f := 21) rfl ?_); refine goesL_ (some 52) rfl rfl Try.func21 (by kernel_rfl) rfl #[.slice Ao55 y811.length co55] rfl (by (try simp only [List.map_toArray, List.map_cons, List.map_nil]); first | done | rfl | (simp only [List.length_drop, List.length_take]; rfl)) ?_; (with_reducible refine (wide_Mul.calls k _ _ y811 t814 t815 t816 t817 t818 t819 _ ?side1 ?side2 A7.out).mono ?_); (case side1 => repeat (first | exact (Kd.R_reads' HO813.out).2.2 | (with_reducible refine Kd.C_alloc ?_ _) | (with_reducible refine Kd.C_drewN ?_ _) | (with_reducible refine Kd.C_drew ?_))); (case side2 => exact (Kd.R_reads' HO813.out).2.1); rintro e w56 ⟨rfl, hb⟩; refine ⟨_, rfl, ?_⟩; have n4_ := bb BK778 hb; have n5_ := bb BK779 hb; have n6_ := bb BK780 hb; have n7_ := bb BK790 hb; have n8_ := bb BK800 hb; have n9_ := bb BK810 hb; have n10_ := Aside0.mk (below_step (by repeat (first | (with_reducible first | exact HB.out | apply qa | apply qn | apply qd | refine qs ?_ GE778.out | refine qs ?_ GE779.out | refine qs ?_ GE780.out | refine qs ?_ GE790.out | refine qs ?_ GE800.out | refine qs ?_ GE810.out) | exact HB.out)) hb); (try clear HO783); (try clear HO793); (try clear HO803); (try clear HO813); clear BK778; clear BK779; clear BK780; clear BK790; clear BK800; clear BK810; clear HB; have BK778 := n4_; have BK779 := n5_; have BK780 := n6_; have BK790 := n7_; have BK800 := n8_; have BK810 := n9_; have HB := n10_; clear n4_ n5_ n6_ n7_ n8_ n9_ n10_; (try clear hb); (try clear hb2); (try clear hk); (try clear hi)) | ((with_reducible refine gate_dst (N := 13) rfl ?_); refine box_event ?hg (N := 13) ?hd (cs := #[.bool false, .int .u64 0, .int .u64 0, .int .u64 0, .int .u64 0]) (t := 27) ?hr ?_; (case hd => rfl); (case hg => rfl); (case hr => first | (go_simp; done) | (go_simp; rfl)); intro gb820 hg w57 hbox hb; have n4_ := bb BK778 hb; have n5_ := bb BK779 hb; have n6_ := bb BK780 hb; have n7_ := bb BK790 hb; have n8_ := bb BK800 hb; have n9_ := bb BK810 hb; have n10_ := Aside0.mk (below_step (by repeat (first | (with_reducible first | exact HB.out | apply qa | apply qn | apply qd | refine qs ?_ GE778.out | refine qs ?_ GE779.out | refine qs ?_ GE780.out | refine qs ?_ GE790.out | refine qs ?_ GE800.out | refine qs ?_ GE810.out) | exact HB.out)) hb); have n11_ := Aside0.mk (hbox); have n12_ := bgw HB hg; have n13_ := bgw HB hg; have n14_ := bnl BK778 hg; have n15_ := bng BK778 hg; have n16_ := bnl BK779 hg; have n17_ := bng BK779 hg; have n18_ := bnl BK780 hg; have n19_ := bng BK780 hg; have n20_ := bnl BK790 hg; have n21_ := bng BK790 hg; have n22_ := bnl BK800 hg; have n23_ := bng BK800 hg; have n24_ := bnl BK810 hg; have n25_ := bng BK810 hg; (try clear HO783); (try clear HO793); (try clear HO803); (try clear HO813); clear BK778; clear BK779; clear BK780; clear BK790; clear BK800; clear BK810; clear HB; have BK778 := n4_; have BK779 := n5_; have BK780 := n6_; have BK790 := n7_; have BK800 := n8_; have BK810 := n9_; have HB := n10_; have BK820 := n11_; have GW820 := n12_; have GE820 := n13_; have NB778_820 := n14_; have NB820_778 := n15_; have NB779_820 := n16_; have NB820_779 := n17_; have NB780_820 := n18_; have NB820_780 := n19_; have NB790_820 := n20_; have NB820_790 := n21_; have NB800_820 := n22_; have NB820_800 := n23_; have NB810_820 := n24_; have NB820_810 := n25_; clear n4_ n5_ n6_ n7_ n8_ n9_ n10_ n11_ n12_ n13_ n14_ n15_ n16_ n17_ n18_ n19_ n20_ n21_ n22_ n23_ n24_ n25_; clear hb hbox hg; have hnb58 := NB820_778.out; have hnc58 := NB778_820.out; have hnb59 := NB820_779.out; have hnc59 := NB779_820.out; have hnb60 := NB820_780.out; have hnc60 := NB780_820.out; have hnb61 := NB820_790.out; have hnc61 := NB790_820.out; have hnb62 := NB820_800.out; have hnc62 := NB800_820.out; have hnb63 := NB820_810.out; have hnc63 := NB810_820.out; obtain ⟨hcz64_0, hcz64_1, hcz64_2, hcz64_3, hcz64_4⟩ := cl5 BK820.out; obtain ⟨hfz64_0, hfz64_1, hfz64_2, hfz64_3, hfz64_4⟩ := fr5 BK820.out))
 (try simp only [Act.put, List.setIfInBounds_toArray, List.set_cons_zero, List.set_cons_succ])
 go_cut [72] (fun v72 wc => ∃ (kq : Nat) (x72_7 : Bool), v72 = .bool x72_7 ∧ Aside0 (parquetlaw01_WideOrder.j0 kq t789 x72_7 a0_0 a0_1 a0_2 a0_3 a0_4 a1_0 a1_1 a1_2 a1_3 a1_4 a2_0 a2_1 a2_2 a2_3 a2_4 t784 t785 t786 t787 t788 = some r) ∧ Aside0 (kq ≤ k) ∧ Aside0 (wc.heap[gb778]? = some (.cells #[.bool a0_0, .int .u64 a0_1, .int .u64 a0_2, .int .u64 a0_3, .int .u64 a0_4] 27 (0, 0))) ∧ Aside0 (wc.heap[gb779]? = some (.cells #[.bool a1_0, .int .u64 a1_1, .int .u64 a1_2, .int .u64 a1_3, .int .u64 a1_4] 27 (0, 0))) ∧ Aside0 (wc.heap[gb780]? = some (.cells #[.bool a2_0, .int .u64 a2_1, .int .u64 a2_2, .int .u64 a2_3, .int .u64 a2_4] 27 (0, 0))) ∧ Aside0 (wc.heap[gb790]? = some (.cells #[.bool t784, .int .u64 t785, .int .u64 t786, .int .u64 t787, .int .u64 t788] 27 (0, 0))) ∧ Aside0 (wc.heap[gb800]? = some (.cells #[.bool t794, .int .u64 t795, .int .u64 t796, .int .u64 t797, .int .u64 t798] 27 (0, 0))) ∧ Aside0 (wc.heap[gb810]? = some (.cells #[.bool t804, .int .u64 t805, .int .u64 t806, .int .u64 t807, .int .u64 t808] 27 (0, 0))) ∧ Aside0 (wc.heap[gb820]? = some (.cells #[.bool t814, .int .u64 t815, .int .u64 t816, .int .u64 t817, .int .u64 t818] 27 (0, 0))) ∧ Aside0 (Below w.heap.size w wc))
 case first =>
  have H := HC8.out
  clear HC8
  by_cases c65 : (!(t784 == t794) || ((!(t785 == t795) || (!(t786 == t796) || (!(t787 == t797) || (!(t788 == t798))))))) = true
  ·rw [if_pos c65] at H
   have c65b0 : (!(t784 == t794) || ((!(t785 == t795) || (!(t786 == t796) || (!(t787 == t797) || (!(t788 == t798))))))) = true := c65
   clear c65
   (first | rw [c65b0] | (simp only [i64_w, i32_w]; rw [c65b0]) | skip)
   have H' := Aside0.mk H
   clear H
   have hnb66 := NB790_778.out
   have hnc66 := NB778_790.out
   have hnb67 := NB790_779.out
   have hnc67 := NB779_790.out
   have hnb68 := NB790_780.out
   have hnc68 := NB780_790.out
   have hnb69 := NB790_800.out
   have hnc69 := NB800_790.out
   have hnb70 := NB790_810.out
   have hnc70 := NB810_790.out
   have hnb71 := NB790_820.out
   have hnc71 := NB820_790.out
   obtain ⟨hcz72_0, hcz72_1, hcz72_2, hcz72_3, hcz72_4⟩ := cl5 BK790.out
   obtain ⟨hfz72_0, hfz72_1, hfz72_2, hfz72_3, hfz72_4⟩ := fr5 BK790.out
   have hnb73 := NB800_778.out
   have hnc73 := NB778_800.out
   have hnb74 := NB800_779.out
   have hnc74 := NB779_800.out
   have hnb75 := NB800_780.out
   have hnc75 := NB780_800.out
   have hnb76 := NB800_810.out
   have hnc76 := NB810_800.out
   have hnb77 := NB800_820.out
   have hnc77 := NB820_800.out
   obtain ⟨hcz78_0, hcz78_1, hcz78_2, hcz78_3, hcz78_4⟩ := cl5 BK800.out
   obtain ⟨hfz78_0, hfz78_1, hfz78_2, hfz78_3, hfz78_4⟩ := fr5 BK800.out
   go_wp2
   go_meet
   case rel => exact ⟨_, (true), (by first | rfl | (simp; done) | (simp [*]; done)), H', ⟨by first | omega | exact Nat.le_refl _⟩, ⟨by repeat (with_reducible first | exact lb BK778.out | refine blk_far ?_ NB778_820.out _ | refine cn ?_ _ | refine cd ?_ | refine ca ?_ _)⟩, ⟨by repeat (with_reducible first | exact lb BK779.out | refine blk_far ?_ NB779_820.out _ | refine cn ?_ _ | refine cd ?_ | refine ca ?_ _)⟩, ⟨by repeat (with_reducible first | exact lb BK780.out | refine blk_far ?_ NB780_820.out _ | refine cn ?_ _ | refine cd ?_ | refine ca ?_ _)⟩, ⟨by repeat (with_reducible first | exact lb BK790.out | refine blk_far ?_ NB790_820.out _ | refine cn ?_ _ | refine cd ?_ | refine ca ?_ _)⟩, ⟨by repeat (with_reducible first | exact lb BK800.out | refine blk_far ?_ NB800_820.out _ | refine cn ?_ _ | refine cd ?_ | refine ca ?_ _)⟩, ⟨by repeat (with_reducible first | exact lb BK810.out | refine blk_far ?_ NB810_820.out _ | refine cn ?_ _ | refine cd ?_ | refine ca ?_ _)⟩, ⟨by repeat (with_reducible first | exact bp5 (lb BK820.out) | refine cn ?_ _ | refine cd ?_ | refine ca ?_ _)⟩, ⟨by repeat (first | (with_reducible first | exact HB.out | apply qa | apply qn | apply qd | refine qs ?_ GE778.out | refine qs ?_ GE779.out | refine qs ?_ GE780.out | refine qs ?_ GE790.out | refine qs ?_ GE800.out | refine qs ?_ GE810.out | refine qs ?_ GE820.out) | exact HB.out)⟩⟩
  rw [if_neg c65] at H
  have c65b0 : (!(t784 == t794) || ((!(t785 == t795) || (!(t786 == t796) || (!(t787 == t797) || (!(t788 == t798))))))) = false := by simpa using c65
  clear c65
  (first | rw [c65b0] | (simp only [i64_w, i32_w]; rw [c65b0]) | skip)
  by_cases c79 : t789 = t799
  rotate_left
  ·rw [if_neg c79] at H
   have c79b0 : (t789 == t799) = false := beq_eq_false_iff_ne.mpr c79
   have c79b1 : (t789 != t799) = true := bne_iff_ne.mpr c79
   have H' := Aside0.mk H
   clear H
   have hnb125 := NB790_778.out
   have hnc125 := NB778_790.out
   have hnb126 := NB790_779.out
   have hnc126 := NB779_790.out
   have hnb127 := NB790_780.out
   have hnc127 := NB780_790.out
   have hnb128 := NB790_800.out
   have hnc128 := NB800_790.out
   have hnb129 := NB790_810.out
   have hnc129 := NB810_790.out
   have hnb130 := NB790_820.out
   have hnc130 := NB820_790.out
   obtain ⟨hcz131_0, hcz131_1, hcz131_2, hcz131_3, hcz131_4⟩ := cl5 BK790.out
   obtain ⟨hfz131_0, hfz131_1, hfz131_2, hfz131_3, hfz131_4⟩ := fr5 BK790.out
   have hnb132 := NB800_778.out
   have hnc132 := NB778_800.out
   have hnb133 := NB800_779.out
   have hnc133 := NB779_800.out
   have hnb134 := NB800_780.out
   have hnc134 := NB780_800.out
   have hnb135 := NB800_810.out
   have hnc135 := NB810_800.out
   have hnb136 := NB800_820.out
   have hnc136 := NB820_800.out
   obtain ⟨hcz137_0, hcz137_1, hcz137_2, hcz137_3, hcz137_4⟩ := cl5 BK800.out
   obtain ⟨hfz137_0, hfz137_1, hfz137_2, hfz137_3, hfz137_4⟩ := fr5 BK800.out
   go_wp2
   go_meet
   case rel => exact ⟨_, (true), (by first | rfl | (simp; done) | (simp [*]; done)), H', ⟨by first | omega | exact Nat.le_refl _⟩, ⟨by repeat (with_reducible first | exact lb BK778.out | refine blk_far ?_ NB778_820.out _ | refine cn ?_ _ | refine cd ?_ | refine ca ?_ _)⟩, ⟨by repeat (with_reducible first | exact lb BK779.out | refine blk_far ?_ NB779_820.out _ | refine cn ?_ _ | refine cd ?_ | refine ca ?_ _)⟩, ⟨by repeat (with_reducible first | exact lb BK780.out | refine blk_far ?_ NB780_820.out _ | refine cn ?_ _ | refine cd ?_ | refine ca ?_ _)⟩, ⟨by repeat (with_reducible first | exact lb BK790.out | refine blk_far ?_ NB790_820.out _ | refine cn ?_ _ | refine cd ?_ | refine ca ?_ _)⟩, ⟨by repeat (with_reducible first | exact lb BK800.out | refine blk_far ?_ NB800_820.out _ | refine cn ?_ _ | refine cd ?_ | refine ca ?_ _)⟩, ⟨by repeat (with_reducible first | exact lb BK810.out | refine blk_far ?_ NB810_820.out _ | refine cn ?_ _ | refine cd ?_ | refine ca ?_ _)⟩, ⟨by repeat (with_reducible first | exact bp5 (lb BK820.out) | refine cn ?_ _ | refine cd ?_ | refine ca ?_ _)⟩, ⟨by repeat (first | (with_reducible first | exact HB.out | apply qa | apply qn | apply qd | refine qs ?_ GE778.out | refine qs ?_ GE779.out | refine qs ?_ GE780.out | refine qs ?_ GE790.out | refine qs ?_ GE800.out | refine qs ?_ GE810.out | refine qs ?_ GE820.out) | exact HB.out)⟩⟩
  rw [if_pos c79] at H
  have c79b0 : (t789 == t799) = true := beq_iff_eq.mpr c79
  have c79b1 : (t789 != t799) = false := bne_eq_false_iff_eq.mpr c79
  clear c79
  by_cases c80 : (!(t804 == t814) || ((!(t805 == t815) || (!(t806 == t816) || (!(t807 == t817) || (!(t808 == t818))))))) = true
  ·rw [if_pos c80] at H
   have c80b0 : (!(t804 == t814) || ((!(t805 == t815) || (!(t806 == t816) || (!(t807 == t817) || (!(t808 == t818))))))) = true := c80
   clear c80
   have H' := Aside0.mk H
   clear H
   have hnb81 := NB790_778.out
   have hnc81 := NB778_790.out
   have hnb82 := NB790_779.out
   have hnc82 := NB779_790.out
   have hnb83 := NB790_780.out
   have hnc83 := NB780_790.out
   have hnb84 := NB790_800.out
   have hnc84 := NB800_790.out
   have hnb85 := NB790_810.out
   have hnc85 := NB810_790.out
   have hnb86 := NB790_820.out
   have hnc86 := NB820_790.out
   obtain ⟨hcz87_0, hcz87_1, hcz87_2, hcz87_3, hcz87_4⟩ := cl5 BK790.out
   obtain ⟨hfz87_0, hfz87_1, hfz87_2, hfz87_3, hfz87_4⟩ := fr5 BK790.out
   have hnb88 := NB800_778.out
   have hnc88 := NB778_800.out
   have hnb89 := NB800_779.out
   have hnc89 := NB779_800.out
   have hnb90 := NB800_780.out
   have hnc90 := NB780_800.out
   have hnb91 := NB800_810.out
   have hnc91 := NB810_800.out
   have hnb92 := NB800_820.out
   have hnc92 := NB820_800.out
   obtain ⟨hcz93_0, hcz93_1, hcz93_2, hcz93_3, hcz93_4⟩ := cl5 BK800.out
   obtain ⟨hfz93_0, hfz93_1, hfz93_2, hfz93_3, hfz93_4⟩ := fr5 BK800.out
   have hnb94 := NB810_778.out
   have hnc94 := NB778_810.out
   have hnb95 := NB810_779.out
   have hnc95 := NB779_810.out
   have hnb96 := NB810_780.out
   have hnc96 := NB780_810.out
   have hnb97 := NB810_820.out
   have hnc97 := NB820_810.out
   obtain ⟨hcz98_0, hcz98_1, hcz98_2, hcz98_3, hcz98_4⟩ := cl5 BK810.out
   obtain ⟨hfz98_0, hfz98_1, hfz98_2, hfz98_3, hfz98_4⟩ := fr5 BK810.out
   have hnb99 := NB820_778.out
   have hnc99 := NB778_820.out
   have hnb100 := NB820_779.out
   have hnc100 := NB779_820.out
   have hnb101 := NB820_780.out
   have hnc101 := NB780_820.out
   obtain ⟨hcz102_0, hcz102_1, hcz102_2, hcz102_3, hcz102_4⟩ := cl5 BK820.out
   obtain ⟨hfz102_0, hfz102_1, hfz102_2, hfz102_3, hfz102_4⟩ := fr5 BK820.out
   go_wp2
   go_meet
   case rel => exact ⟨_, (true), (by first | rfl | (simp; done) | (simp [*]; done)), H', ⟨by first | omega | exact Nat.le_refl _⟩, ⟨by repeat (with_reducible first | exact lb BK778.out | refine blk_far ?_ NB778_820.out _ | refine cn ?_ _ | refine cd ?_ | refine ca ?_ _)⟩, ⟨by repeat (with_reducible first | exact lb BK779.out | refine blk_far ?_ NB779_820.out _ | refine cn ?_ _ | refine cd ?_ | refine ca ?_ _)⟩, ⟨by repeat (with_reducible first | exact lb BK780.out | refine blk_far ?_ NB780_820.out _ | refine cn ?_ _ | refine cd ?_ | refine ca ?_ _)⟩, ⟨by repeat (with_reducible first | exact lb BK790.out | refine blk_far ?_ NB790_820.out _ | refine cn ?_ _ | refine cd ?_ | refine ca ?_ _)⟩, ⟨by repeat (with_reducible first | exact lb BK800.out | refine blk_far ?_ NB800_820.out _ | refine cn ?_ _ | refine cd ?_ | refine ca ?_ _)⟩, ⟨by repeat (with_reducible first | exact lb BK810.out | refine blk_far ?_ NB810_820.out _ | refine cn ?_ _ | refine cd ?_ | refine ca ?_ _)⟩, ⟨by repeat (with_reducible first | exact bp5 (lb BK820.out) | refine cn ?_ _ | refine cd ?_ | refine ca ?_ _)⟩, ⟨by repeat (first | (with_reducible first | exact HB.out | apply qa | apply qn | apply qd | refine qs ?_ GE778.out | refine qs ?_ GE779.out | refine qs ?_ GE780.out | refine qs ?_ GE790.out | refine qs ?_ GE800.out | refine qs ?_ GE810.out | refine qs ?_ GE820.out) | exact HB.out)⟩⟩
  rw [if_neg c80] at H
  have c80b0 : (!(t804 == t814) || ((!(t805 == t815) || (!(t806 == t816) || (!(t807 == t817) || (!(t808 == t818))))))) = false := by simpa using c80
  clear c80
  have H' := Aside0.mk H
  clear H
  have hnb103 := NB790_778.out
  have hnc103 := NB778_790.out
  have hnb104 := NB790_779.out
  have hnc104 := NB779_790.out
  have hnb105 := NB790_780.out
  have hnc105 := NB780_790.out
  have hnb106 := NB790_800.out
  have hnc106 := NB800_790.out
  have hnb107 := NB790_810.out
  have hnc107 := NB810_790.out
  have hnb108 := NB790_820.out
  have hnc108 := NB820_790.out
  obtain ⟨hcz109_0, hcz109_1, hcz109_2, hcz109_3, hcz109_4⟩ := cl5 BK790.out
  obtain ⟨hfz109_0, hfz109_1, hfz109_2, hfz109_3, hfz109_4⟩ := fr5 BK790.out
  have hnb110 := NB800_778.out
  have hnc110 := NB778_800.out
  have hnb111 := NB800_779.out
  have hnc111 := NB779_800.out
  have hnb112 := NB800_780.out
  have hnc112 := NB780_800.out
  have hnb113 := NB800_810.out
  have hnc113 := NB810_800.out
  have hnb114 := NB800_820.out
  have hnc114 := NB820_800.out
  obtain ⟨hcz115_0, hcz115_1, hcz115_2, hcz115_3, hcz115_4⟩ := cl5 BK800.out
  obtain ⟨hfz115_0, hfz115_1, hfz115_2, hfz115_3, hfz115_4⟩ := fr5 BK800.out
  have hnb116 := NB810_778.out
  have hnc116 := NB778_810.out
  have hnb117 := NB810_779.out
  have hnc117 := NB779_810.out
  have hnb118 := NB810_780.out
  have hnc118 := NB780_810.out
  have hnb119 := NB810_820.out
  have hnc119 := NB820_810.out
  obtain ⟨hcz120_0, hcz120_1, hcz120_2, hcz120_3, hcz120_4⟩ := cl5 BK810.out
  obtain ⟨hfz120_0, hfz120_1, hfz120_2, hfz120_3, hfz120_4⟩ := fr5 BK810.out
  have hnb121 := NB820_778.out
  have hnc121 := NB778_820.out
  have hnb122 := NB820_779.out
  have hnc122 := NB779_820.out
  have hnb123 := NB820_780.out
  have hnc123 := NB780_820.out
  obtain ⟨hcz124_0, hcz124_1, hcz124_2, hcz124_3, hcz124_4⟩ := cl5 BK820.out
  obtain ⟨hfz124_0, hfz124_1, hfz124_2, hfz124_3, hfz124_4⟩ := fr5 BK820.out
  go_wp2
  go_meet
  case rel => exact ⟨_, ((t809 != t819)), (by first | rfl | (simp; done) | (simp [*]; done)), H', ⟨by first | omega | exact Nat.le_refl _⟩, ⟨by repeat (with_reducible first | exact lb BK778.out | refine blk_far ?_ NB778_820.out _ | refine cn ?_ _ | refine cd ?_ | refine ca ?_ _)⟩, ⟨by repeat (with_reducible first | exact lb BK779.out | refine blk_far ?_ NB779_820.out _ | refine cn ?_ _ | refine cd ?_ | refine ca ?_ _)⟩, ⟨by repeat (with_reducible first | exact lb BK780.out | refine blk_far ?_ NB780_820.out _ | refine cn ?_ _ | refine cd ?_ | refine ca ?_ _)⟩, ⟨by repeat (with_reducible first | exact lb BK790.out | refine blk_far ?_ NB790_820.out _ | refine cn ?_ _ | refine cd ?_ | refine ca ?_ _)⟩, ⟨by repeat (with_reducible first | exact lb BK800.out | refine blk_far ?_ NB800_820.out _ | refine cn ?_ _ | refine cd ?_ | refine ca ?_ _)⟩, ⟨by repeat (with_reducible first | exact lb BK810.out | refine blk_far ?_ NB810_820.out _ | refine cn ?_ _ | refine cd ?_ | refine ca ?_ _)⟩, ⟨by repeat (with_reducible first | exact bp5 (lb BK820.out) | refine cn ?_ _ | refine cd ?_ | refine ca ?_ _)⟩, ⟨by repeat (first | (with_reducible first | exact HB.out | apply qa | apply qn | apply qd | refine qs ?_ GE778.out | refine qs ?_ GE779.out | refine qs ?_ GE780.out | refine qs ?_ GE790.out | refine qs ?_ GE800.out | refine qs ?_ GE810.out | refine qs ?_ GE820.out) | exact HB.out)⟩⟩
 case rest =>
  clear HC8
  try clear c1
  try clear c2
  try clear p2
  try clear c3
  try clear c4
  try clear c5
  try clear c6
  try clear c7
  try clear c8
  try clear c9
  try clear c10
  try clear c11
  try clear c12
  try clear c13
  try clear c15
  try clear c21
  try clear c22
  try clear c23
  try clear c24
  try clear c33
  try clear c34
  try clear c35
  try clear c36
  try clear c45
  try clear c46
  try clear c47
  try clear c48
  try clear c49
  try clear c58
  try clear c59
  try clear c60
  try clear c61
  try clear c62
  try clear c63
  try clear c65
  try clear c65b0
  try clear c66
  try clear c67
  try clear c68
  try clear c69
  try clear c70
  try clear c71
  try clear c73
  try clear c74
  try clear c75
  try clear c76
  try clear c77
  try clear c79
  try clear c79b0
  try clear c79b1
  try clear c80
  try clear c80b0
  try clear c81
  try clear c82
  try clear c83
  try clear c84
  try clear c85
  try clear c86
  try clear c88
  try clear c89
  try clear c90
  try clear c91
  try clear c92
  try clear c94
  try clear c95
  try clear c96
  try clear c97
  try clear c99
  try clear c100
  try clear c101
  try clear c103
  try clear c104
  try clear c105
  try clear c106
  try clear c107
  try clear c108
  try clear c110
  try clear c111
  try clear c112
  try clear c113
  try clear c114
  try clear c116
  try clear c117
  try clear c118
  try clear c119
  try clear c121
  try clear c122
  try clear c123
  try clear c125
  try clear c126
  try clear c127
  try clear c128
  try clear c129
  try clear c130
  try clear c132
  try clear c133
  try clear c134
  try clear c135
  try clear c136
  try clear hcz102_0
  try clear hcz102_1
  try clear hcz102_2
  try clear hcz102_3
  try clear hcz102_4
  try clear hcz109_0
  try clear hcz109_1
  try clear hcz109_2
  try clear hcz109_3
  try clear hcz109_4
  try clear hcz115_0
  try clear hcz115_1
  try clear hcz115_2
  try clear hcz115_3
  try clear hcz115_4
  try clear hcz120_0
  try clear hcz120_1
  try clear hcz120_2
  try clear hcz120_3
  try clear hcz120_4
  try clear hcz124_0
  try clear hcz124_1
  try clear hcz124_2
  try clear hcz124_3
  try clear hcz124_4
  try clear hcz131_0
  try clear hcz131_1
  try clear hcz131_2
  try clear hcz131_3
  try clear hcz131_4
  try clear hcz137_0
  try clear hcz137_1
  try clear hcz137_2
  try clear hcz137_3
  try clear hcz137_4
  try clear hcz14_0
  try clear hcz14_1
  try clear hcz14_2
  try clear hcz14_3
  try clear hcz14_4
  try clear hcz16_0
  try clear hcz16_1
  try clear hcz16_2
  try clear hcz16_3
  try clear hcz16_4
  try clear hcz25_0
  try clear hcz25_1
  try clear hcz25_2
  try clear hcz25_3
  try clear hcz25_4
  try clear hcz26_0
  try clear hcz26_1
  try clear hcz26_2
  try clear hcz26_3
  try clear hcz26_4
  try clear hcz27_0
  try clear hcz27_1
  try clear hcz27_2
  try clear hcz27_3
  try clear hcz27_4
  try clear hcz37_0
  try clear hcz37_1
  try clear hcz37_2
  try clear hcz37_3
  try clear hcz37_4
  try clear hcz38_0
  try clear hcz38_1
  try clear hcz38_2
  try clear hcz38_3
  try clear hcz38_4
  try clear hcz39_0
  try clear hcz39_1
  try clear hcz39_2
  try clear hcz39_3
  try clear hcz39_4
  try clear hcz50_0
  try clear hcz50_1
  try clear hcz50_2
  try clear hcz50_3
  try clear hcz50_4
  try clear hcz51_0
  try clear hcz51_1
  try clear hcz51_2
  try clear hcz51_3
  try clear hcz51_4
  try clear hcz52_0
  try clear hcz52_1
  try clear hcz52_2
  try clear hcz52_3
  try clear hcz52_4
  try clear hcz64_0
  try clear hcz64_1
  try clear hcz64_2
  try clear hcz64_3
  try clear hcz64_4
  try clear hcz72_0
  try clear hcz72_1
  try clear hcz72_2
  try clear hcz72_3
  try clear hcz72_4
  try clear hcz78_0
  try clear hcz78_1
  try clear hcz78_2
  try clear hcz78_3
  try clear hcz78_4
  try clear hcz87_0
  try clear hcz87_1
  try clear hcz87_2
  try clear hcz87_3
  try clear hcz87_4
  try clear hcz93_0
  try clear hcz93_1
  try clear hcz93_2
  try clear hcz93_3
  try clear hcz93_4
  try clear hcz98_0
  try clear hcz98_1
  try clear hcz98_2
  try clear hcz98_3
  try clear hcz98_4
  try clear hfz102_0
  try clear hfz102_1
  try clear hfz102_2
  try clear hfz102_3
  try clear hfz102_4
  try clear hfz109_0
  try clear hfz109_1
  try clear hfz109_2
  try clear hfz109_3
  try clear hfz109_4
  try clear hfz115_0
  try clear hfz115_1
  try clear hfz115_2
  try clear hfz115_3
  try clear hfz115_4
  try clear hfz120_0
  try clear hfz120_1
  try clear hfz120_2
  try clear hfz120_3
  try clear hfz120_4
  try clear hfz124_0
  try clear hfz124_1
  try clear hfz124_2
  try clear hfz124_3
  try clear hfz124_4
  try clear hfz131_0
  try clear hfz131_1
  try clear hfz131_2
  try clear hfz131_3
  try clear hfz131_4
  try clear hfz137_0
  try clear hfz137_1
  try clear hfz137_2
  try clear hfz137_3
  try clear hfz137_4
  try clear hfz14_0
  try clear hfz14_1
  try clear hfz14_2
  try clear hfz14_3
  try clear hfz14_4
  try clear hfz16_0
  try clear hfz16_1
  try clear hfz16_2
  try clear hfz16_3
  try clear hfz16_4
  try clear hfz25_0
  try clear hfz25_1
  try clear hfz25_2
  try clear hfz25_3
  try clear hfz25_4
  try clear hfz26_0
  try clear hfz26_1
  try clear hfz26_2
  try clear hfz26_3
  try clear hfz26_4
  try clear hfz27_0
  try clear hfz27_1
  try clear hfz27_2
  try clear hfz27_3
  try clear hfz27_4
  try clear hfz37_0
  try clear hfz37_1
  try clear hfz37_2
  try clear hfz37_3
  try clear hfz37_4
  try clear hfz38_0
  try clear hfz38_1
  try clear hfz38_2
  try clear hfz38_3
  try clear hfz38_4
  try clear hfz39_0
  try clear hfz39_1
  try clear hfz39_2
  try clear hfz39_3
  try clear hfz39_4
  try clear hfz50_0
  try clear hfz50_1
  try clear hfz50_2
  try clear hfz50_3
  try clear hfz50_4
  try clear hfz51_0
  try clear hfz51_1
  try clear hfz51_2
  try clear hfz51_3
  try clear hfz51_4
  try clear hfz52_0
  try clear hfz52_1
  try clear hfz52_2
  try clear hfz52_3
  try clear hfz52_4
  try clear hfz64_0
  try clear hfz64_1
  try clear hfz64_2
  try clear hfz64_3
  try clear hfz64_4
  try clear hfz72_0
  try clear hfz72_1
  try clear hfz72_2
  try clear hfz72_3
  try clear hfz72_4
  try clear hfz78_0
  try clear hfz78_1
  try clear hfz78_2
  try clear hfz78_3
  try clear hfz78_4
  try clear hfz87_0
  try clear hfz87_1
  try clear hfz87_2
  try clear hfz87_3
  try clear hfz87_4
  try clear hfz93_0
  try clear hfz93_1
  try clear hfz93_2
  try clear hfz93_3
  try clear hfz93_4
  try clear hfz98_0
  try clear hfz98_1
  try clear hfz98_2
  try clear hfz98_3
  try clear hfz98_4
  obtain ⟨kq, x72_7, rfl, HA, HJ7, BK778, BK779, BK780, BK790, BK800, BK810, BK820, HB⟩ := hcut
  cases kq with
  | zero => exact absurd HA.out (by simp [parquetlaw01_WideOrder.j0])
  | succ kj7 =>
   have H := HA.out
   clear HA
   simp only [parquetlaw01_WideOrder.j0] at H
   by_cases c138 : x72_7 = true
   ·subst c138
    have H1 : (some false) = some r := by rw [if_pos rfl] at H; exact H
    clear H
    have H := H1
    clear H1
    exact absurd ((Option.some.inj H).trans hr_) (by decide)
   replace c138 := Bool.eq_false_iff.mpr c138
   subst c138
   have H1 : ((wide_Mul.f kj7 (([(⟨t784, (⟨t785, t786, t787, t788⟩ : S25)⟩ : S27), (⟨a2_0, (⟨a2_1, a2_2, a2_3, a2_4⟩ : S25)⟩ : S27)] : List (S27)))).bind fun bt824 => ((wide_Mul.f kj7 (([(⟨a0_0, (⟨a0_1, a0_2, a0_3, a0_4⟩ : S25)⟩ : S27), (⟨a2_0, (⟨a2_1, a2_2, a2_3, a2_4⟩ : S25)⟩ : S27)] : List (S27)))).bind fun bt834 => ((wide_Mul.f kj7 (([(⟨a1_0, (⟨a1_1, a1_2, a1_3, a1_4⟩ : S25)⟩ : S27), (⟨a2_0, (⟨a2_1, a2_2, a2_3, a2_4⟩ : S25)⟩ : S27)] : List (S27)))).bind fun bt844 => ((wide_Add.f kj7 (([(⟨bt834.1, (⟨bt834.2.1, bt834.2.2.1, bt834.2.2.2.1, bt834.2.2.2.2.1⟩ : S25)⟩ : S27), (⟨bt844.1, (⟨bt844.2.1, bt844.2.2.1, bt844.2.2.2.1, bt844.2.2.2.2.1⟩ : S25)⟩ : S27)] : List (S27)))).bind fun bt854 => (if t789 = 0 then (if bt824.2.2.2.2.2 = 0 then (if bt834.2.2.2.2.2 = 0 then (if bt844.2.2.2.2.2 = 0 then (if bt854.2.2.2.2.2 = 0 then (parquetlaw01_WideOrder.j1 kj7 t789 (!(bt824.1 == bt854.1) || ((!(bt824.2.1 == bt854.2.1) || (!(bt824.2.2.1 == bt854.2.2.1) || (!(bt824.2.2.2.1 == bt854.2.2.2.1) || (!(bt824.2.2.2.2.1 == bt854.2.2.2.2.1))))))) a0_0 a0_1 a0_2 a0_3 a0_4 a1_0 a1_1 a1_2 a1_3 a1_4 t784 t785 t786 t787 t788) else (parquetlaw01_WideOrder.j1 kj7 t789 false a0_0 a0_1 a0_2 a0_3 a0_4 a1_0 a1_1 a1_2 a1_3 a1_4 t784 t785 t786 t787 t788)) else (parquetlaw01_WideOrder.j1 kj7 t789 false a0_0 a0_1 a0_2 a0_3 a0_4 a1_0 a1_1 a1_2 a1_3 a1_4 t784 t785 t786 t787 t788)) else (parquetlaw01_WideOrder.j1 kj7 t789 false a0_0 a0_1 a0_2 a0_3 a0_4 a1_0 a1_1 a1_2 a1_3 a1_4 t784 t785 t786 t787 t788)) else (parquetlaw01_WideOrder.j1 kj7 t789 false a0_0 a0_1 a0_2 a0_3 a0_4 a1_0 a1_1 a1_2 a1_3 a1_4 t784 t785 t786 t787 t788)) else (parquetlaw01_WideOrder.j1 kj7 t789 false a0_0 a0_1 a0_2 a0_3 a0_4 a1_0 a1_1 a1_2 a1_3 a1_4 t784 t785 t786 t787 t788)))))) = some r := by rw [if_neg (show ¬ (false = true) by decide)] at H; exact H
   clear H
   have H := H1
   clear H1
   obtain ⟨y821, hy821⟩ : ∃ y_ : List (S27), y_ = (([(⟨t784, (⟨t785, t786, t787, t788⟩ : S25)⟩ : S27), (⟨a2_0, (⟨a2_1, a2_2, a2_3, a2_4⟩ : S25)⟩ : S27)] : List (S27))) := ⟨_, rfl⟩
   replace H : ((wide_Mul.f kj7 y821).bind fun bt824 => ((wide_Mul.f kj7 (([(⟨a0_0, (⟨a0_1, a0_2, a0_3, a0_4⟩ : S25)⟩ : S27), (⟨a2_0, (⟨a2_1, a2_2, a2_3, a2_4⟩ : S25)⟩ : S27)] : List (S27)))).bind fun bt834 => ((wide_Mul.f kj7 (([(⟨a1_0, (⟨a1_1, a1_2, a1_3, a1_4⟩ : S25)⟩ : S27), (⟨a2_0, (⟨a2_1, a2_2, a2_3, a2_4⟩ : S25)⟩ : S27)] : List (S27)))).bind fun bt844 => ((wide_Add.f kj7 (([(⟨bt834.1, (⟨bt834.2.1, bt834.2.2.1, bt834.2.2.2.1, bt834.2.2.2.2.1⟩ : S25)⟩ : S27), (⟨bt844.1, (⟨bt844.2.1, bt844.2.2.1, bt844.2.2.2.1, bt844.2.2.2.2.1⟩ : S25)⟩ : S27)] : List (S27)))).bind fun bt854 => (if t789 = 0 then (if bt824.2.2.2.2.2 = 0 then (if bt834.2.2.2.2.2 = 0 then (if bt844.2.2.2.2.2 = 0 then (if bt854.2.2.2.2.2 = 0 then (parquetlaw01_WideOrder.j1 kj7 t789 (!(bt824.1 == bt854.1) || ((!(bt824.2.1 == bt854.2.1) || (!(bt824.2.2.1 == bt854.2.2.1) || (!(bt824.2.2.2.1 == bt854.2.2.2.1) || (!(bt824.2.2.2.2.1 == bt854.2.2.2.2.1))))))) a0_0 a0_1 a0_2 a0_3 a0_4 a1_0 a1_1 a1_2 a1_3 a1_4 t784 t785 t786 t787 t788) else (parquetlaw01_WideOrder.j1 kj7 t789 false a0_0 a0_1 a0_2 a0_3 a0_4 a1_0 a1_1 a1_2 a1_3 a1_4 t784 t785 t786 t787 t788)) else (parquetlaw01_WideOrder.j1 kj7 t789 false a0_0 a0_1 a0_2 a0_3 a0_4 a1_0 a1_1 a1_2 a1_3 a1_4 t784 t785 t786 t787 t788)) else (parquetlaw01_WideOrder.j1 kj7 t789 false a0_0 a0_1 a0_2 a0_3 a0_4 a1_0 a1_1 a1_2 a1_3 a1_4 t784 t785 t786 t787 t788)) else (parquetlaw01_WideOrder.j1 kj7 t789 false a0_0 a0_1 a0_2 a0_3 a0_4 a1_0 a1_1 a1_2 a1_3 a1_4 t784 t785 t786 t787 t788)) else (parquetlaw01_WideOrder.j1 kj7 t789 false a0_0 a0_1 a0_2 a0_3 a0_4 a1_0 a1_1 a1_2 a1_3 a1_4 t784 t785 t786 t787 t788)))))) = some r := by first | (rw [hy821]; with_reducible exact H) | (have H2_ := (Option.bind_some _ _).symm.trans H; rw [hy821]; with_reducible exact H2_) | (have H2_ := (Option.bind_some _ _).symm.trans H; with_reducible exact H2_) | with_reducible exact H | (rw [hy821]; exact H) | exact H
   have Ny821 := Aside0.mk hy821
   clear hy821
   replace H := Option.bind_eq_some_iff.mp H
   obtain ⟨⟨t824, t825, t826, t827, t828, t829⟩, A1390, H⟩ := H
   try dsimp only at H
   have A139 := Aside0.mk A1390
   clear A1390
   obtain ⟨y831, hy831⟩ : ∃ y_ : List (S27), y_ = (([(⟨a0_0, (⟨a0_1, a0_2, a0_3, a0_4⟩ : S25)⟩ : S27), (⟨a2_0, (⟨a2_1, a2_2, a2_3, a2_4⟩ : S25)⟩ : S27)] : List (S27))) := ⟨_, rfl⟩
   replace H : ((wide_Mul.f kj7 y831).bind fun bt834 => ((wide_Mul.f kj7 (([(⟨a1_0, (⟨a1_1, a1_2, a1_3, a1_4⟩ : S25)⟩ : S27), (⟨a2_0, (⟨a2_1, a2_2, a2_3, a2_4⟩ : S25)⟩ : S27)] : List (S27)))).bind fun bt844 => ((wide_Add.f kj7 (([(⟨bt834.1, (⟨bt834.2.1, bt834.2.2.1, bt834.2.2.2.1, bt834.2.2.2.2.1⟩ : S25)⟩ : S27), (⟨bt844.1, (⟨bt844.2.1, bt844.2.2.1, bt844.2.2.2.1, bt844.2.2.2.2.1⟩ : S25)⟩ : S27)] : List (S27)))).bind fun bt854 => (if t789 = 0 then (if t829 = 0 then (if bt834.2.2.2.2.2 = 0 then (if bt844.2.2.2.2.2 = 0 then (if bt854.2.2.2.2.2 = 0 then (parquetlaw01_WideOrder.j1 kj7 t789 (!(t824 == bt854.1) || ((!(t825 == bt854.2.1) || (!(t826 == bt854.2.2.1) || (!(t827 == bt854.2.2.2.1) || (!(t828 == bt854.2.2.2.2.1))))))) a0_0 a0_1 a0_2 a0_3 a0_4 a1_0 a1_1 a1_2 a1_3 a1_4 t784 t785 t786 t787 t788) else (parquetlaw01_WideOrder.j1 kj7 t789 false a0_0 a0_1 a0_2 a0_3 a0_4 a1_0 a1_1 a1_2 a1_3 a1_4 t784 t785 t786 t787 t788)) else (parquetlaw01_WideOrder.j1 kj7 t789 false a0_0 a0_1 a0_2 a0_3 a0_4 a1_0 a1_1 a1_2 a1_3 a1_4 t784 t785 t786 t787 t788)) else (parquetlaw01_WideOrder.j1 kj7 t789 false a0_0 a0_1 a0_2 a0_3 a0_4 a1_0 a1_1 a1_2 a1_3 a1_4 t784 t785 t786 t787 t788)) else (parquetlaw01_WideOrder.j1 kj7 t789 false a0_0 a0_1 a0_2 a0_3 a0_4 a1_0 a1_1 a1_2 a1_3 a1_4 t784 t785 t786 t787 t788)) else (parquetlaw01_WideOrder.j1 kj7 t789 false a0_0 a0_1 a0_2 a0_3 a0_4 a1_0 a1_1 a1_2 a1_3 a1_4 t784 t785 t786 t787 t788))))) = some r := by first | (rw [hy831]; with_reducible exact H) | (have H2_ := (Option.bind_some _ _).symm.trans H; rw [hy831]; with_reducible exact H2_) | (have H2_ := (Option.bind_some _ _).symm.trans H; with_reducible exact H2_) | with_reducible exact H | (rw [hy831]; exact H) | exact H
   have Ny831 := Aside0.mk hy831
   clear hy831
   replace H := Option.bind_eq_some_iff.mp H
   obtain ⟨⟨t834, t835, t836, t837, t838, t839⟩, A1400, H⟩ := H
   try dsimp only at H
   have A140 := Aside0.mk A1400
   clear A1400
   obtain ⟨y841, hy841⟩ : ∃ y_ : List (S27), y_ = (([(⟨a1_0, (⟨a1_1, a1_2, a1_3, a1_4⟩ : S25)⟩ : S27), (⟨a2_0, (⟨a2_1, a2_2, a2_3, a2_4⟩ : S25)⟩ : S27)] : List (S27))) := ⟨_, rfl⟩
   replace H : ((wide_Mul.f kj7 y841).bind fun bt844 => ((wide_Add.f kj7 (([(⟨t834, (⟨t835, t836, t837, t838⟩ : S25)⟩ : S27), (⟨bt844.1, (⟨bt844.2.1, bt844.2.2.1, bt844.2.2.2.1, bt844.2.2.2.2.1⟩ : S25)⟩ : S27)] : List (S27)))).bind fun bt854 => (if t789 = 0 then (if t829 = 0 then (if t839 = 0 then (if bt844.2.2.2.2.2 = 0 then (if bt854.2.2.2.2.2 = 0 then (parquetlaw01_WideOrder.j1 kj7 t789 (!(t824 == bt854.1) || ((!(t825 == bt854.2.1) || (!(t826 == bt854.2.2.1) || (!(t827 == bt854.2.2.2.1) || (!(t828 == bt854.2.2.2.2.1))))))) a0_0 a0_1 a0_2 a0_3 a0_4 a1_0 a1_1 a1_2 a1_3 a1_4 t784 t785 t786 t787 t788) else (parquetlaw01_WideOrder.j1 kj7 t789 false a0_0 a0_1 a0_2 a0_3 a0_4 a1_0 a1_1 a1_2 a1_3 a1_4 t784 t785 t786 t787 t788)) else (parquetlaw01_WideOrder.j1 kj7 t789 false a0_0 a0_1 a0_2 a0_3 a0_4 a1_0 a1_1 a1_2 a1_3 a1_4 t784 t785 t786 t787 t788)) else (parquetlaw01_WideOrder.j1 kj7 t789 false a0_0 a0_1 a0_2 a0_3 a0_4 a1_0 a1_1 a1_2 a1_3 a1_4 t784 t785 t786 t787 t788)) else (parquetlaw01_WideOrder.j1 kj7 t789 false a0_0 a0_1 a0_2 a0_3 a0_4 a1_0 a1_1 a1_2 a1_3 a1_4 t784 t785 t786 t787 t788)) else (parquetlaw01_WideOrder.j1 kj7 t789 false a0_0 a0_1 a0_2 a0_3 a0_4 a1_0 a1_1 a1_2 a1_3 a1_4 t784 t785 t786 t787 t788)))) = some r := by first | (rw [hy841]; with_reducible exact H) | (have H2_ := (Option.bind_some _ _).symm.trans H; rw [hy841]; with_reducible exact H2_) | (have H2_ := (Option.bind_some _ _).symm.trans H; with_reducible exact H2_) | with_reducible exact H | (rw [hy841]; exact H) | exact H
   have Ny841 := Aside0.mk hy841
   clear hy841
   replace H := Option.bind_eq_some_iff.mp H
   obtain ⟨⟨t844, t845, t846, t847, t848, t849⟩, A1410, H⟩ := H
   try dsimp only at H
   have A141 := Aside0.mk A1410
   clear A1410
   obtain ⟨y851, hy851⟩ : ∃ y_ : List (S27), y_ = (([(⟨t834, (⟨t835, t836, t837, t838⟩ : S25)⟩ : S27), (⟨t844, (⟨t845, t846, t847, t848⟩ : S25)⟩ : S27)] : List (S27))) := ⟨_, rfl⟩
   replace H : ((wide_Add.f kj7 y851).bind fun bt854 => (if t789 = 0 then (if t829 = 0 then (if t839 = 0 then (if t849 = 0 then (if bt854.2.2.2.2.2 = 0 then (parquetlaw01_WideOrder.j1 kj7 t789 (!(t824 == bt854.1) || ((!(t825 == bt854.2.1) || (!(t826 == bt854.2.2.1) || (!(t827 == bt854.2.2.2.1) || (!(t828 == bt854.2.2.2.2.1))))))) a0_0 a0_1 a0_2 a0_3 a0_4 a1_0 a1_1 a1_2 a1_3 a1_4 t784 t785 t786 t787 t788) else (parquetlaw01_WideOrder.j1 kj7 t789 false a0_0 a0_1 a0_2 a0_3 a0_4 a1_0 a1_1 a1_2 a1_3 a1_4 t784 t785 t786 t787 t788)) else (parquetlaw01_WideOrder.j1 kj7 t789 false a0_0 a0_1 a0_2 a0_3 a0_4 a1_0 a1_1 a1_2 a1_3 a1_4 t784 t785 t786 t787 t788)) else (parquetlaw01_WideOrder.j1 kj7 t789 false a0_0 a0_1 a0_2 a0_3 a0_4 a1_0 a1_1 a1_2 a1_3 a1_4 t784 t785 t786 t787 t788)) else (parquetlaw01_WideOrder.j1 kj7 t789 false a0_0 a0_1 a0_2 a0_3 a0_4 a1_0 a1_1 a1_2 a1_3 a1_4 t784 t785 t786 t787 t788)) else (parquetlaw01_WideOrder.j1 kj7 t789 false a0_0 a0_1 a0_2 a0_3 a0_4 a1_0 a1_1 a1_2 a1_3 a1_4 t784 t785 t786 t787 t788))) = some r := by first | (rw [hy851]; with_reducible exact H) | (have H2_ := (Option.bind_some _ _).symm.trans H; rw [hy851]; with_reducible exact H2_) | (have H2_ := (Option.bind_some _ _).symm.trans H; with_reducible exact H2_) | with_reducible exact H | (rw [hy851]; exact H) | exact H
   have Ny851 := Aside0.mk hy851
   clear hy851
   replace H := Option.bind_eq_some_iff.mp H
   obtain ⟨⟨t854, t855, t856, t857, t858, t859⟩, A1420, H⟩ := H
   try dsimp only at H
   have A142 := Aside0.mk A1420
   clear A1420
   have HC143 := Aside0.mk H
   clear H
   have hnb144 := NB790_778.out
   have hnc144 := NB778_790.out
   have hnb145 := NB790_779.out
   have hnc145 := NB779_790.out
   have hnb146 := NB790_780.out
   have hnc146 := NB780_790.out
   have hnb147 := NB790_800.out
   have hnc147 := NB800_790.out
   have hnb148 := NB790_810.out
   have hnc148 := NB810_790.out
   have hnb149 := NB790_820.out
   have hnc149 := NB820_790.out
   obtain ⟨hcz150_0, hcz150_1, hcz150_2, hcz150_3, hcz150_4⟩ := cl5 BK790.out
   obtain ⟨hfz150_0, hfz150_1, hfz150_2, hfz150_3, hfz150_4⟩ := fr5 BK790.out
   have hnb151 := NB780_778.out
   have hnc151 := NB778_780.out
   have hnb152 := NB780_779.out
   have hnc152 := NB779_780.out
   have hnb153 := NB780_800.out
   have hnc153 := NB800_780.out
   have hnb154 := NB780_810.out
   have hnc154 := NB810_780.out
   have hnb155 := NB780_820.out
   have hnc155 := NB820_780.out
   obtain ⟨hcz156_0, hcz156_1, hcz156_2, hcz156_3, hcz156_4⟩ := cl5 BK780.out
   obtain ⟨hfz156_0, hfz156_1, hfz156_2, hfz156_3, hfz156_4⟩ := fr5 BK780.out
   go_upto_region 11 with (first | ((with_reducible refine gate_dst (N := 76) rfl ?_); refine Kd.R_lit k27 _ 27 ?hg (N := 76) ?hd (xs := ([(⟨t784, (⟨t785, t786, t787, t788⟩ : S25)⟩ : S27), (⟨a2_0, (⟨a2_1, a2_2, a2_3, a2_4⟩ : S25)⟩ : S27)] : List (S27))) (inner := [.bool t784, .int .u64 t785, .int .u64 t786, .int .u64 t787, .int .u64 t788, .bool a2_0, .int .u64 a2_1, .int .u64 a2_2, .int .u64 a2_3, .int .u64 a2_4]) (ok := fun _ => True) (okp := fun _ => True) ?hr ?hp (fun _ hk => hk) trivial (Below.refl _ _) (Nat.le_refl _) (by simp) ?_; (case hd => rfl); (case hg => rfl); (case hr => first | (go_simp; done) | (go_simp; rfl)); (case hp => exact (Reps.c5 (show Kd.M k27 _ _ _ (⟨t784, (⟨t785, t786, t787, t788⟩ : S25)⟩ : S27) [.bool t784, .int .u64 t785, .int .u64 t786, .int .u64 t787, .int .u64 t788] from (k27_mkM _ _ _ (⟨t784, (⟨t785, t786, t787, t788⟩ : S25)⟩ : S27) )) (Reps.c5 (show Kd.M k27 _ _ _ (⟨a2_0, (⟨a2_1, a2_2, a2_3, a2_4⟩ : S25)⟩ : S27) [.bool a2_0, .int .u64 a2_1, .int .u64 a2_2, .int .u64 a2_3, .int .u64 a2_4] from (k27_mkM _ _ _ (⟨a2_0, (⟨a2_1, a2_2, a2_3, a2_4⟩ : S25)⟩ : S27) )) (Reps.none _ _)))); intro v822 w157 ho158 hb hg_ hnew_; clear hg_ hnew_; (first | rw [← Ny821.out] at ho158 | (simp only [Int.reduceToNat] at ho158; rw [← Ny821.out] at ho158)); have n0_ := Aside0.mk ho158; have n1_ := bb BK778 hb; have n2_ := bb BK779 hb; have n3_ := bb BK780 hb; have n4_ := bb BK790 hb; have n5_ := bb BK800 hb; have n6_ := bb BK810 hb; have n7_ := bb BK820 hb; have n8_ := Aside0.mk (below_step (by repeat (first | (with_reducible first | exact HB.out | apply qa | apply qn | apply qd | refine qs ?_ GE778.out | refine qs ?_ GE779.out | refine qs ?_ GE780.out | refine qs ?_ GE790.out | refine qs ?_ GE800.out | refine qs ?_ GE810.out | refine qs ?_ GE820.out) | exact HB.out)) hb); clear BK778; clear BK779; clear BK780; clear BK790; clear BK800; clear BK810; clear BK820; clear HB; have HO823 := n0_; have BK778 := n1_; have BK779 := n2_; have BK780 := n3_; have BK790 := n4_; have BK800 := n5_; have BK810 := n6_; have BK820 := n7_; have HB := n8_; clear n0_ n1_ n2_ n3_ n4_ n5_ n6_ n7_ n8_; clear hb ho158; obtain ⟨Ao159, co159, eo159⟩ := Kd.R_slice HO823.out; subst eo159) | ((with_reducible refine gate_callee (f := 21) rfl ?_); refine goesL_ (some 77) rfl rfl Try.func21 (by kernel_rfl) rfl #[.slice Ao159 y821.length co159] rfl (by (try simp only [List.map_toArray, List.map_cons, List.map_nil]); first | done | rfl | (simp only [List.length_drop, List.length_take]; rfl)) ?_; (with_reducible refine (wide_Mul.calls kj7 _ _ y821 t824 t825 t826 t827 t828 t829 _ ?side1 ?side2 A139.out).mono ?_); (case side1 => repeat (first | exact (Kd.R_reads' HO823.out).2.2 | (with_reducible refine Kd.C_alloc ?_ _) | (with_reducible refine Kd.C_drewN ?_ _) | (with_reducible refine Kd.C_drew ?_))); (case side2 => exact (Kd.R_reads' HO823.out).2.1); rintro e w160 ⟨rfl, hb⟩; refine ⟨_, rfl, ?_⟩; have n1_ := bb BK778 hb; have n2_ := bb BK779 hb; have n3_ := bb BK780 hb; have n4_ := bb BK790 hb; have n5_ := bb BK800 hb; have n6_ := bb BK810 hb; have n7_ := bb BK820 hb; have n8_ := Aside0.mk (below_step (by repeat (first | (with_reducible first | exact HB.out | apply qa | apply qn | apply qd | refine qs ?_ GE778.out | refine qs ?_ GE779.out | refine qs ?_ GE780.out | refine qs ?_ GE790.out | refine qs ?_ GE800.out | refine qs ?_ GE810.out | refine qs ?_ GE820.out) | exact HB.out)) hb); (try clear HO823); clear BK778; clear BK779; clear BK780; clear BK790; clear BK800; clear BK810; clear BK820; clear HB; have BK778 := n1_; have BK779 := n2_; have BK780 := n3_; have BK790 := n4_; have BK800 := n5_; have BK810 := n6_; have BK820 := n7_; have HB := n8_; clear n1_ n2_ n3_ n4_ n5_ n6_ n7_ n8_; (try clear hb); (try clear hb2); (try clear hk); (try clear hi)) | ((with_reducible refine gate_dst (N := 15) rfl ?_); refine box_event ?hg (N := 15) ?hd (cs := #[.bool false, .int .u64 0, .int .u64 0, .int .u64 0, .int .u64 0]) (t := 27) ?hr ?_; (case hd => rfl); (case hg => rfl); (case hr => first | (go_simp; done) | (go_simp; rfl)); intro gb830 hg w161 hbox hb; have n1_ := bb BK778 hb; have n2_ := bb BK779 hb; have n3_ := bb BK780 hb; have n4_ := bb BK790 hb; have n5_ := bb BK800 hb; have n6_ := bb BK810 hb; have n7_ := bb BK820 hb; have n8_ := Aside0.mk (below_step (by repeat (first | (with_reducible first | exact HB.out | apply qa | apply qn | apply qd | refine qs ?_ GE778.out | refine qs ?_ GE779.out | refine qs ?_ GE780.out | refine qs ?_ GE790.out | refine qs ?_ GE800.out | refine qs ?_ GE810.out | refine qs ?_ GE820.out) | exact HB.out)) hb); have n9_ := Aside0.mk (hbox); have n10_ := bgw HB hg; have n11_ := bgw HB hg; have n12_ := bnl BK778 hg; have n13_ := bng BK778 hg; have n14_ := bnl BK779 hg; have n15_ := bng BK779 hg; have n16_ := bnl BK780 hg; have n17_ := bng BK780 hg; have n18_ := bnl BK790 hg; have n19_ := bng BK790 hg; have n20_ := bnl BK800 hg; have n21_ := bng BK800 hg; have n22_ := bnl BK810 hg; have n23_ := bng BK810 hg; have n24_ := bnl BK820 hg; have n25_ := bng BK820 hg; (try clear HO823); clear BK778; clear BK779; clear BK780; clear BK790; clear BK800; clear BK810; clear BK820; clear HB; have BK778 := n1_; have BK779 := n2_; have BK780 := n3_; have BK790 := n4_; have BK800 := n5_; have BK810 := n6_; have BK820 := n7_; have HB := n8_; have BK830 := n9_; have GW830 := n10_; have GE830 := n11_; have NB778_830 := n12_; have NB830_778 := n13_; have NB779_830 := n14_; have NB830_779 := n15_; have NB780_830 := n16_; have NB830_780 := n17_; have NB790_830 := n18_; have NB830_790 := n19_; have NB800_830 := n20_; have NB830_800 := n21_; have NB810_830 := n22_; have NB830_810 := n23_; have NB820_830 := n24_; have NB830_820 := n25_; clear n1_ n2_ n3_ n4_ n5_ n6_ n7_ n8_ n9_ n10_ n11_ n12_ n13_ n14_ n15_ n16_ n17_ n18_ n19_ n20_ n21_ n22_ n23_ n24_ n25_; clear hb hbox hg; have hnb162 := NB830_778.out; have hnc162 := NB778_830.out; have hnb163 := NB830_779.out; have hnc163 := NB779_830.out; have hnb164 := NB830_780.out; have hnc164 := NB780_830.out; have hnb165 := NB830_790.out; have hnc165 := NB790_830.out; have hnb166 := NB830_800.out; have hnc166 := NB800_830.out; have hnb167 := NB830_810.out; have hnc167 := NB810_830.out; have hnb168 := NB830_820.out; have hnc168 := NB820_830.out; obtain ⟨hcz169_0, hcz169_1, hcz169_2, hcz169_3, hcz169_4⟩ := cl5 BK830.out; obtain ⟨hfz169_0, hfz169_1, hfz169_2, hfz169_3, hfz169_4⟩ := fr5 BK830.out; have hnb170 := NB778_779.out; have hnc170 := NB779_778.out; have hnb171 := NB778_800.out; have hnc171 := NB800_778.out; have hnb172 := NB778_810.out; have hnc172 := NB810_778.out; have hnb173 := NB778_820.out; have hnc173 := NB820_778.out; obtain ⟨hcz174_0, hcz174_1, hcz174_2, hcz174_3, hcz174_4⟩ := cl5 BK778.out; obtain ⟨hfz174_0, hfz174_1, hfz174_2, hfz174_3, hfz174_4⟩ := fr5 BK778.out; obtain ⟨hcz175_0, hcz175_1, hcz175_2, hcz175_3, hcz175_4⟩ := cl5 BK780.out; obtain ⟨hfz175_0, hfz175_1, hfz175_2, hfz175_3, hfz175_4⟩ := fr5 BK780.out) | ((with_reducible refine gate_dst (N := 83) rfl ?_); refine Kd.R_lit k27 _ 27 ?hg (N := 83) ?hd (xs := ([(⟨a0_0, (⟨a0_1, a0_2, a0_3, a0_4⟩ : S25)⟩ : S27), (⟨a2_0, (⟨a2_1, a2_2, a2_3, a2_4⟩ : S25)⟩ : S27)] : List (S27))) (inner := [.bool a0_0, .int .u64 a0_1, .int .u64 a0_2, .int .u64 a0_3, .int .u64 a0_4, .bool a2_0, .int .u64 a2_1, .int .u64 a2_2, .int .u64 a2_3, .int .u64 a2_4]) (ok := fun _ => True) (okp := fun _ => True) ?hr ?hp (fun _ hk => hk) trivial (Below.refl _ _) (Nat.le_refl _) (by simp) ?_; (case hd => rfl); (case hg => rfl); (case hr => first | (go_simp; done) | (go_simp; rfl)); (case hp => exact (Reps.c5 (show Kd.M k27 _ _ _ (⟨a0_0, (⟨a0_1, a0_2, a0_3, a0_4⟩ : S25)⟩ : S27) [.bool a0_0, .int .u64 a0_1, .int .u64 a0_2, .int .u64 a0_3, .int .u64 a0_4] from (k27_mkM _ _ _ (⟨a0_0, (⟨a0_1, a0_2, a0_3, a0_4⟩ : S25)⟩ : S27) )) (Reps.c5 (show Kd.M k27 _ _ _ (⟨a2_0, (⟨a2_1, a2_2, a2_3, a2_4⟩ : S25)⟩ : S27) [.bool a2_0, .int .u64 a2_1, .int .u64 a2_2, .int .u64 a2_3, .int .u64 a2_4] from (k27_mkM _ _ _ (⟨a2_0, (⟨a2_1, a2_2, a2_3, a2_4⟩ : S25)⟩ : S27) )) (Reps.none _ _)))); intro v832 w176 ho177 hb hg_ hnew_; clear hg_ hnew_; (first | rw [← Ny831.out] at ho177 | (simp only [Int.reduceToNat] at ho177; rw [← Ny831.out] at ho177)); have n1_ := Aside0.mk ho177; have n2_ := Aside0.mk (blk_below (g := gb778) (o := .cells #[.bool a0_0, .int .u64 a0_1, .int .u64 a0_2, .int .u64 a0_3, .int .u64 a0_4] 27 (0, 0)) (by repeat (with_reducible first | exact lb BK778.out | refine blk_far ?_ NB778_830.out _ | refine cn ?_ _ | refine cd ?_ | refine ca ?_ _)) hb); have n3_ := Aside0.mk (blk_below (g := gb779) (o := .cells #[.bool a1_0, .int .u64 a1_1, .int .u64 a1_2, .int .u64 a1_3, .int .u64 a1_4] 27 (0, 0)) (by repeat (with_reducible first | exact lb BK779.out | refine blk_far ?_ NB779_830.out _ | refine cn ?_ _ | refine cd ?_ | refine ca ?_ _)) hb); have n4_ := Aside0.mk (blk_below (g := gb780) (o := .cells #[.bool a2_0, .int .u64 a2_1, .int .u64 a2_2, .int .u64 a2_3, .int .u64 a2_4] 27 (0, 0)) (by repeat (with_reducible first | exact lb BK780.out | refine blk_far ?_ NB780_830.out _ | refine cn ?_ _ | refine cd ?_ | refine ca ?_ _)) hb); have n5_ := Aside0.mk (blk_below (g := gb790) (o := .cells #[.bool t784, .int .u64 t785, .int .u64 t786, .int .u64 t787, .int .u64 t788] 27 (0, 0)) (by repeat (with_reducible first | exact lb BK790.out | refine blk_far ?_ NB790_830.out _ | refine cn ?_ _ | refine cd ?_ | refine ca ?_ _)) hb); have n6_ := Aside0.mk (blk_below (g := gb800) (o := .cells #[.bool t794, .int .u64 t795, .int .u64 t796, .int .u64 t797, .int .u64 t798] 27 (0, 0)) (by repeat (with_reducible first | exact lb BK800.out | refine blk_far ?_ NB800_830.out _ | refine cn ?_ _ | refine cd ?_ | refine ca ?_ _)) hb); have n7_ := Aside0.mk (blk_below (g := gb810) (o := .cells #[.bool t804, .int .u64 t805, .int .u64 t806, .int .u64 t807, .int .u64 t808] 27 (0, 0)) (by repeat (with_reducible first | exact lb BK810.out | refine blk_far ?_ NB810_830.out _ | refine cn ?_ _ | refine cd ?_ | refine ca ?_ _)) hb); have n8_ := Aside0.mk (blk_below (g := gb820) (o := .cells #[.bool t814, .int .u64 t815, .int .u64 t816, .int .u64 t817, .int .u64 t818] 27 (0, 0)) (by repeat (with_reducible first | exact lb BK820.out | refine blk_far ?_ NB820_830.out _ | refine cn ?_ _ | refine cd ?_ | refine ca ?_ _)) hb); have n9_ := Aside0.mk (blk_below (g := gb830) (o := .cells #[.bool t824, .int .u64 t825, .int .u64 t826, .int .u64 t827, .int .u64 t828] 27 (0, 0)) (by (with_reducible repeat (first | refine cn ?_ _ | refine cd ?_ | refine ca ?_ _)); exact bp5 (lb BK830.out)) hb); have n10_ := Aside0.mk (below_step (by repeat (first | (with_reducible first | exact HB.out | apply qa | apply qn | apply qd | refine qs ?_ GE778.out | refine qs ?_ GE779.out | refine qs ?_ GE780.out | refine qs ?_ GE790.out | refine qs ?_ GE800.out | refine qs ?_ GE810.out | refine qs ?_ GE820.out | refine qs ?_ GE830.out) | exact HB.out)) hb); (try clear HO823); clear BK778; clear BK779; clear BK780; clear BK790; clear BK800; clear BK810; clear BK820; clear BK830; clear HB; have HO833 := n1_; have BK778 := n2_; have BK779 := n3_; have BK780 := n4_; have BK790 := n5_; have BK800 := n6_; have BK810 := n7_; have BK820 := n8_; have BK830 := n9_; have HB := n10_; clear n1_ n2_ n3_ n4_ n5_ n6_ n7_ n8_ n9_ n10_; clear hb ho177; obtain ⟨Ao178, co178, eo178⟩ := Kd.R_slice HO833.out; subst eo178) | ((with_reducible refine gate_callee (f := 21) rfl ?_); refine goesL_ (some 84) rfl rfl Try.func21 (by kernel_rfl) rfl #[.slice Ao178 y831.length co178] rfl (by (try simp only [List.map_toArray, List.map_cons, List.map_nil]); first | done | rfl | (simp only [List.length_drop, List.length_take]; rfl)) ?_; (with_reducible refine (wide_Mul.calls kj7 _ _ y831 t834 t835 t836 t837 t838 t839 _ ?side1 ?side2 A140.out).mono ?_); (case side1 => repeat (first | exact (Kd.R_reads' HO833.out).2.2 | (with_reducible refine Kd.C_alloc ?_ _) | (with_reducible refine Kd.C_drewN ?_ _) | (with_reducible refine Kd.C_drew ?_))); (case side2 => exact (Kd.R_reads' HO833.out).2.1); rintro e w179 ⟨rfl, hb⟩; refine ⟨_, rfl, ?_⟩; have n2_ := bb BK778 hb; have n3_ := bb BK779 hb; have n4_ := bb BK780 hb; have n5_ := bb BK790 hb; have n6_ := bb BK800 hb; have n7_ := bb BK810 hb; have n8_ := bb BK820 hb; have n9_ := bb BK830 hb; have n10_ := Aside0.mk (below_step (by repeat (first | (with_reducible first | exact HB.out | apply qa | apply qn | apply qd | refine qs ?_ GE778.out | refine qs ?_ GE779.out | refine qs ?_ GE780.out | refine qs ?_ GE790.out | refine qs ?_ GE800.out | refine qs ?_ GE810.out | refine qs ?_ GE820.out | refine qs ?_ GE830.out) | exact HB.out)) hb); (try clear HO823); (try clear HO833); clear BK778; clear BK779; clear BK780; clear BK790; clear BK800; clear BK810; clear BK820; clear BK830; clear HB; have BK778 := n2_; have BK779 := n3_; have BK780 := n4_; have BK790 := n5_; have BK800 := n6_; have BK810 := n7_; have BK820 := n8_; have BK830 := n9_; have HB := n10_; clear n2_ n3_ n4_ n5_ n6_ n7_ n8_ n9_ n10_; (try clear hb); (try clear hb2); (try clear hk); (try clear hi)) | ((with_reducible refine gate_dst (N := 17) rfl ?_); refine box_event ?hg (N := 17) ?hd (cs := #[.bool false, .int .u64 0, .int .u64 0, .int .u64 0, .int .u64 0]) (t := 27) ?hr ?_; (case hd => rfl); (case hg => rfl); (case hr => first | (go_simp; done) | (go_simp; rfl)); intro gb840 hg w180 hbox hb; have n2_ := bb BK778 hb; have n3_ := bb BK779 hb; have n4_ := bb BK780 hb; have n5_ := bb BK790 hb; have n6_ := bb BK800 hb; have n7_ := bb BK810 hb; have n8_ := bb BK820 hb; have n9_ := bb BK830 hb; have n10_ := Aside0.mk (below_step (by repeat (first | (with_reducible first | exact HB.out | apply qa | apply qn | apply qd | refine qs ?_ GE778.out | refine qs ?_ GE779.out | refine qs ?_ GE780.out | refine qs ?_ GE790.out | refine qs ?_ GE800.out | refine qs ?_ GE810.out | refine qs ?_ GE820.out | refine qs ?_ GE830.out) | exact HB.out)) hb); have n11_ := Aside0.mk (hbox); have n12_ := bgw HB hg; have n13_ := bgw HB hg; have n14_ := bnl BK778 hg; have n15_ := bng BK778 hg; have n16_ := bnl BK779 hg; have n17_ := bng BK779 hg; have n18_ := bnl BK780 hg; have n19_ := bng BK780 hg; have n20_ := bnl BK790 hg; have n21_ := bng BK790 hg; have n22_ := bnl BK800 hg; have n23_ := bng BK800 hg; have n24_ := bnl BK810 hg; have n25_ := bng BK810 hg; have n26_ := bnl BK820 hg; have n27_ := bng BK820 hg; have n28_ := bnl BK830 hg; have n29_ := bng BK830 hg; (try clear HO823); (try clear HO833); clear BK778; clear BK779; clear BK780; clear BK790; clear BK800; clear BK810; clear BK820; clear BK830; clear HB; have BK778 := n2_; have BK779 := n3_; have BK780 := n4_; have BK790 := n5_; have BK800 := n6_; have BK810 := n7_; have BK820 := n8_; have BK830 := n9_; have HB := n10_; have BK840 := n11_; have GW840 := n12_; have GE840 := n13_; have NB778_840 := n14_; have NB840_778 := n15_; have NB779_840 := n16_; have NB840_779 := n17_; have NB780_840 := n18_; have NB840_780 := n19_; have NB790_840 := n20_; have NB840_790 := n21_; have NB800_840 := n22_; have NB840_800 := n23_; have NB810_840 := n24_; have NB840_810 := n25_; have NB820_840 := n26_; have NB840_820 := n27_; have NB830_840 := n28_; have NB840_830 := n29_; clear n2_ n3_ n4_ n5_ n6_ n7_ n8_ n9_ n10_ n11_ n12_ n13_ n14_ n15_ n16_ n17_ n18_ n19_ n20_ n21_ n22_ n23_ n24_ n25_ n26_ n27_ n28_ n29_; clear hb hbox hg; have hnb181 := NB840_778.out; have hnc181 := NB778_840.out; have hnb182 := NB840_779.out; have hnc182 := NB779_840.out; have hnb183 := NB840_780.out; have hnc183 := NB780_840.out; have hnb184 := NB840_790.out; have hnc184 := NB790_840.out; have hnb185 := NB840_800.out; have hnc185 := NB800_840.out; have hnb186 := NB840_810.out; have hnc186 := NB810_840.out; have hnb187 := NB840_820.out; have hnc187 := NB820_840.out; have hnb188 := NB840_830.out; have hnc188 := NB830_840.out; obtain ⟨hcz189_0, hcz189_1, hcz189_2, hcz189_3, hcz189_4⟩ := cl5 BK840.out; obtain ⟨hfz189_0, hfz189_1, hfz189_2, hfz189_3, hfz189_4⟩ := fr5 BK840.out; have hnb190 := NB779_800.out; have hnc190 := NB800_779.out; have hnb191 := NB779_810.out; have hnc191 := NB810_779.out; have hnb192 := NB779_820.out; have hnc192 := NB820_779.out; obtain ⟨hcz193_0, hcz193_1, hcz193_2, hcz193_3, hcz193_4⟩ := cl5 BK779.out; obtain ⟨hfz193_0, hfz193_1, hfz193_2, hfz193_3, hfz193_4⟩ := fr5 BK779.out; obtain ⟨hcz194_0, hcz194_1, hcz194_2, hcz194_3, hcz194_4⟩ := cl5 BK780.out; obtain ⟨hfz194_0, hfz194_1, hfz194_2, hfz194_3, hfz194_4⟩ := fr5 BK780.out) | ((with_reducible refine gate_dst (N := 90) rfl ?_); refine Kd.R_lit k27 _ 27 ?hg (N := 90) ?hd (xs := ([(⟨a1_0, (⟨a1_1, a1_2, a1_3, a1_4⟩ : S25)⟩ : S27), (⟨a2_0, (⟨a2_1, a2_2, a2_3, a2_4⟩ : S25)⟩ : S27)] : List (S27))) (inner := [.bool a1_0, .int .u64 a1_1, .int .u64 a1_2, .int .u64 a1_3, .int .u64 a1_4, .bool a2_0, .int .u64 a2_1, .int .u64 a2_2, .int .u64 a2_3, .int .u64 a2_4]) (ok := fun _ => True) (okp := fun _ => True) ?hr ?hp (fun _ hk => hk) trivial (Below.refl _ _) (Nat.le_refl _) (by simp) ?_; (case hd => rfl); (case hg => rfl); (case hr => first | (go_simp; done) | (go_simp; rfl)); (case hp => exact (Reps.c5 (show Kd.M k27 _ _ _ (⟨a1_0, (⟨a1_1, a1_2, a1_3, a1_4⟩ : S25)⟩ : S27) [.bool a1_0, .int .u64 a1_1, .int .u64 a1_2, .int .u64 a1_3, .int .u64 a1_4] from (k27_mkM _ _ _ (⟨a1_0, (⟨a1_1, a1_2, a1_3, a1_4⟩ : S25)⟩ : S27) )) (Reps.c5 (show Kd.M k27 _ _ _ (⟨a2_0, (⟨a2_1, a2_2, a2_3, a2_4⟩ : S25)⟩ : S27) [.bool a2_0, .int .u64 a2_1, .int .u64 a2_2, .int .u64 a2_3, .int .u64 a2_4] from (k27_mkM _ _ _ (⟨a2_0, (⟨a2_1, a2_2, a2_3, a2_4⟩ : S25)⟩ : S27) )) (Reps.none _ _)))); intro v842 w195 ho196 hb hg_ hnew_; clear hg_ hnew_; (first | rw [← Ny841.out] at ho196 | (simp only [Int.reduceToNat] at ho196; rw [← Ny841.out] at ho196)); have n2_ := Aside0.mk ho196; have n3_ := Aside0.mk (blk_below (g := gb778) (o := .cells #[.bool a0_0, .int .u64 a0_1, .int .u64 a0_2, .int .u64 a0_3, .int .u64 a0_4] 27 (0, 0)) (by repeat (with_reducible first | exact lb BK778.out | refine blk_far ?_ NB778_840.out _ | refine cn ?_ _ | refine cd ?_ | refine ca ?_ _)) hb); have n4_ := Aside0.mk (blk_below (g := gb779) (o := .cells #[.bool a1_0, .int .u64 a1_1, .int .u64 a1_2, .int .u64 a1_3, .int .u64 a1_4] 27 (0, 0)) (by repeat (with_reducible first | exact lb BK779.out | refine blk_far ?_ NB779_840.out _ | refine cn ?_ _ | refine cd ?_ | refine ca ?_ _)) hb); have n5_ := Aside0.mk (blk_below (g := gb780) (o := .cells #[.bool a2_0, .int .u64 a2_1, .int .u64 a2_2, .int .u64 a2_3, .int .u64 a2_4] 27 (0, 0)) (by repeat (with_reducible first | exact lb BK780.out | refine blk_far ?_ NB780_840.out _ | refine cn ?_ _ | refine cd ?_ | refine ca ?_ _)) hb); have n6_ := Aside0.mk (blk_below (g := gb790) (o := .cells #[.bool t784, .int .u64 t785, .int .u64 t786, .int .u64 t787, .int .u64 t788] 27 (0, 0)) (by repeat (with_reducible first | exact lb BK790.out | refine blk_far ?_ NB790_840.out _ | refine cn ?_ _ | refine cd ?_ | refine ca ?_ _)) hb); have n7_ := Aside0.mk (blk_below (g := gb800) (o := .cells #[.bool t794, .int .u64 t795, .int .u64 t796, .int .u64 t797, .int .u64 t798] 27 (0, 0)) (by repeat (with_reducible first | exact lb BK800.out | refine blk_far ?_ NB800_840.out _ | refine cn ?_ _ | refine cd ?_ | refine ca ?_ _)) hb); have n8_ := Aside0.mk (blk_below (g := gb810) (o := .cells #[.bool t804, .int .u64 t805, .int .u64 t806, .int .u64 t807, .int .u64 t808] 27 (0, 0)) (by repeat (with_reducible first | exact lb BK810.out | refine blk_far ?_ NB810_840.out _ | refine cn ?_ _ | refine cd ?_ | refine ca ?_ _)) hb); have n9_ := Aside0.mk (blk_below (g := gb820) (o := .cells #[.bool t814, .int .u64 t815, .int .u64 t816, .int .u64 t817, .int .u64 t818] 27 (0, 0)) (by repeat (with_reducible first | exact lb BK820.out | refine blk_far ?_ NB820_840.out _ | refine cn ?_ _ | refine cd ?_ | refine ca ?_ _)) hb); have n10_ := Aside0.mk (blk_below (g := gb830) (o := .cells #[.bool t824, .int .u64 t825, .int .u64 t826, .int .u64 t827, .int .u64 t828] 27 (0, 0)) (by repeat (with_reducible first | exact lb BK830.out | refine blk_far ?_ NB830_840.out _ | refine cn ?_ _ | refine cd ?_ | refine ca ?_ _)) hb); have n11_ := Aside0.mk (blk_below (g := gb840) (o := .cells #[.bool t834, .int .u64 t835, .int .u64 t836, .int .u64 t837, .int .u64 t838] 27 (0, 0)) (by (with_reducible repeat (first | refine cn ?_ _ | refine cd ?_ | refine ca ?_ _)); exact bp5 (lb BK840.out)) hb); have n12_ := Aside0.mk (below_step (by repeat (first | (with_reducible first | exact HB.out | apply qa | apply qn | apply qd | refine qs ?_ GE778.out | refine qs ?_ GE779.out | refine qs ?_ GE780.out | refine qs ?_ GE790.out | refine qs ?_ GE800.out | refine qs ?_ GE810.out | refine qs ?_ GE820.out | refine qs ?_ GE830.out | refine qs ?_ GE840.out) | exact HB.out)) hb); (try clear HO823); (try clear HO833); clear BK778; clear BK779; clear BK780; clear BK790; clear BK800; clear BK810; clear BK820; clear BK830; clear BK840; clear HB; have HO843 := n2_; have BK778 := n3_; have BK779 := n4_; have BK780 := n5_; have BK790 := n6_; have BK800 := n7_; have BK810 := n8_; have BK820 := n9_; have BK830 := n10_; have BK840 := n11_; have HB := n12_; clear n2_ n3_ n4_ n5_ n6_ n7_ n8_ n9_ n10_ n11_ n12_; clear hb ho196; obtain ⟨Ao197, co197, eo197⟩ := Kd.R_slice HO843.out; subst eo197) | ((with_reducible refine gate_callee (f := 21) rfl ?_); refine goesL_ (some 91) rfl rfl Try.func21 (by kernel_rfl) rfl #[.slice Ao197 y841.length co197] rfl (by (try simp only [List.map_toArray, List.map_cons, List.map_nil]); first | done | rfl | (simp only [List.length_drop, List.length_take]; rfl)) ?_; (with_reducible refine (wide_Mul.calls kj7 _ _ y841 t844 t845 t846 t847 t848 t849 _ ?side1 ?side2 A141.out).mono ?_); (case side1 => repeat (first | exact (Kd.R_reads' HO843.out).2.2 | (with_reducible refine Kd.C_alloc ?_ _) | (with_reducible refine Kd.C_drewN ?_ _) | (with_reducible refine Kd.C_drew ?_))); (case side2 => exact (Kd.R_reads' HO843.out).2.1); rintro e w198 ⟨rfl, hb⟩; refine ⟨_, rfl, ?_⟩; have n3_ := bb BK778 hb; have n4_ := bb BK779 hb; have n5_ := bb BK780 hb; have n6_ := bb BK790 hb; have n7_ := bb BK800 hb; have n8_ := bb BK810 hb; have n9_ := bb BK820 hb; have n10_ := bb BK830 hb; have n11_ := bb BK840 hb; have n12_ := Aside0.mk (below_step (by repeat (first | (with_reducible first | exact HB.out | apply qa | apply qn | apply qd | refine qs ?_ GE778.out | refine qs ?_ GE779.out | refine qs ?_ GE780.out | refine qs ?_ GE790.out | refine qs ?_ GE800.out | refine qs ?_ GE810.out | refine qs ?_ GE820.out | refine qs ?_ GE830.out | refine qs ?_ GE840.out) | exact HB.out)) hb); (try clear HO823); (try clear HO833); (try clear HO843); clear BK778; clear BK779; clear BK780; clear BK790; clear BK800; clear BK810; clear BK820; clear BK830; clear BK840; clear HB; have BK778 := n3_; have BK779 := n4_; have BK780 := n5_; have BK790 := n6_; have BK800 := n7_; have BK810 := n8_; have BK820 := n9_; have BK830 := n10_; have BK840 := n11_; have HB := n12_; clear n3_ n4_ n5_ n6_ n7_ n8_ n9_ n10_ n11_ n12_; (try clear hb); (try clear hb2); (try clear hk); (try clear hi)) | ((with_reducible refine gate_dst (N := 19) rfl ?_); refine box_event ?hg (N := 19) ?hd (cs := #[.bool false, .int .u64 0, .int .u64 0, .int .u64 0, .int .u64 0]) (t := 27) ?hr ?_; (case hd => rfl); (case hg => rfl); (case hr => first | (go_simp; done) | (go_simp; rfl)); intro gb850 hg w199 hbox hb; have n3_ := bb BK778 hb; have n4_ := bb BK779 hb; have n5_ := bb BK780 hb; have n6_ := bb BK790 hb; have n7_ := bb BK800 hb; have n8_ := bb BK810 hb; have n9_ := bb BK820 hb; have n10_ := bb BK830 hb; have n11_ := bb BK840 hb; have n12_ := Aside0.mk (below_step (by repeat (first | (with_reducible first | exact HB.out | apply qa | apply qn | apply qd | refine qs ?_ GE778.out | refine qs ?_ GE779.out | refine qs ?_ GE780.out | refine qs ?_ GE790.out | refine qs ?_ GE800.out | refine qs ?_ GE810.out | refine qs ?_ GE820.out | refine qs ?_ GE830.out | refine qs ?_ GE840.out) | exact HB.out)) hb); have n13_ := Aside0.mk (hbox); have n14_ := bgw HB hg; have n15_ := bgw HB hg; have n16_ := bnl BK778 hg; have n17_ := bng BK778 hg; have n18_ := bnl BK779 hg; have n19_ := bng BK779 hg; have n20_ := bnl BK780 hg; have n21_ := bng BK780 hg; have n22_ := bnl BK790 hg; have n23_ := bng BK790 hg; have n24_ := bnl BK800 hg; have n25_ := bng BK800 hg; have n26_ := bnl BK810 hg; have n27_ := bng BK810 hg; have n28_ := bnl BK820 hg; have n29_ := bng BK820 hg; have n30_ := bnl BK830 hg; have n31_ := bng BK830 hg; have n32_ := bnl BK840 hg; have n33_ := bng BK840 hg; (try clear HO823); (try clear HO833); (try clear HO843); clear BK778; clear BK779; clear BK780; clear BK790; clear BK800; clear BK810; clear BK820; clear BK830; clear BK840; clear HB; have BK778 := n3_; have BK779 := n4_; have BK780 := n5_; have BK790 := n6_; have BK800 := n7_; have BK810 := n8_; have BK820 := n9_; have BK830 := n10_; have BK840 := n11_; have HB := n12_; have BK850 := n13_; have GW850 := n14_; have GE850 := n15_; have NB778_850 := n16_; have NB850_778 := n17_; have NB779_850 := n18_; have NB850_779 := n19_; have NB780_850 := n20_; have NB850_780 := n21_; have NB790_850 := n22_; have NB850_790 := n23_; have NB800_850 := n24_; have NB850_800 := n25_; have NB810_850 := n26_; have NB850_810 := n27_; have NB820_850 := n28_; have NB850_820 := n29_; have NB830_850 := n30_; have NB850_830 := n31_; have NB840_850 := n32_; have NB850_840 := n33_; clear n3_ n4_ n5_ n6_ n7_ n8_ n9_ n10_ n11_ n12_ n13_ n14_ n15_ n16_ n17_ n18_ n19_ n20_ n21_ n22_ n23_ n24_ n25_ n26_ n27_ n28_ n29_ n30_ n31_ n32_ n33_; clear hb hbox hg; have hnb200 := NB850_778.out; have hnc200 := NB778_850.out; have hnb201 := NB850_779.out; have hnc201 := NB779_850.out; have hnb202 := NB850_780.out; have hnc202 := NB780_850.out; have hnb203 := NB850_790.out; have hnc203 := NB790_850.out; have hnb204 := NB850_800.out; have hnc204 := NB800_850.out; have hnb205 := NB850_810.out; have hnc205 := NB810_850.out; have hnb206 := NB850_820.out; have hnc206 := NB820_850.out; have hnb207 := NB850_830.out; have hnc207 := NB830_850.out; have hnb208 := NB850_840.out; have hnc208 := NB840_850.out; obtain ⟨hcz209_0, hcz209_1, hcz209_2, hcz209_3, hcz209_4⟩ := cl5 BK850.out; obtain ⟨hfz209_0, hfz209_1, hfz209_2, hfz209_3, hfz209_4⟩ := fr5 BK850.out; obtain ⟨hcz210_0, hcz210_1, hcz210_2, hcz210_3, hcz210_4⟩ := cl5 BK840.out; obtain ⟨hfz210_0, hfz210_1, hfz210_2, hfz210_3, hfz210_4⟩ := fr5 BK840.out) | ((with_reducible refine gate_dst (N := 97) rfl ?_); refine Kd.R_lit k27 _ 27 ?hg (N := 97) ?hd (xs := ([(⟨t834, (⟨t835, t836, t837, t838⟩ : S25)⟩ : S27), (⟨t844, (⟨t845, t846, t847, t848⟩ : S25)⟩ : S27)] : List (S27))) (inner := [.bool t834, .int .u64 t835, .int .u64 t836, .int .u64 t837, .int .u64 t838, .bool t844, .int .u64 t845, .int .u64 t846, .int .u64 t847, .int .u64 t848]) (ok := fun _ => True) (okp := fun _ => True) ?hr ?hp (fun _ hk => hk) trivial (Below.refl _ _) (Nat.le_refl _) (by simp) ?_; (case hd => rfl); (case hg => rfl); (case hr => first | (go_simp; done) | (go_simp; rfl)); (case hp => exact (Reps.c5 (show Kd.M k27 _ _ _ (⟨t834, (⟨t835, t836, t837, t838⟩ : S25)⟩ : S27) [.bool t834, .int .u64 t835, .int .u64 t836, .int .u64 t837, .int .u64 t838] from (k27_mkM _ _ _ (⟨t834, (⟨t835, t836, t837, t838⟩ : S25)⟩ : S27) )) (Reps.c5 (show Kd.M k27 _ _ _ (⟨t844, (⟨t845, t846, t847, t848⟩ : S25)⟩ : S27) [.bool t844, .int .u64 t845, .int .u64 t846, .int .u64 t847, .int .u64 t848] from (k27_mkM _ _ _ (⟨t844, (⟨t845, t846, t847, t848⟩ : S25)⟩ : S27) )) (Reps.none _ _)))); intro v852 w211 ho212 hb hg_ hnew_; clear hg_ hnew_; (first | rw [← Ny851.out] at ho212 | (simp only [Int.reduceToNat] at ho212; rw [← Ny851.out] at ho212)); have n3_ := Aside0.mk ho212; have n4_ := Aside0.mk (blk_below (g := gb778) (o := .cells #[.bool a0_0, .int .u64 a0_1, .int .u64 a0_2, .int .u64 a0_3, .int .u64 a0_4] 27 (0, 0)) (by repeat (with_reducible first | exact lb BK778.out | refine blk_far ?_ NB778_850.out _ | refine cn ?_ _ | refine cd ?_ | refine ca ?_ _)) hb); have n5_ := Aside0.mk (blk_below (g := gb779) (o := .cells #[.bool a1_0, .int .u64 a1_1, .int .u64 a1_2, .int .u64 a1_3, .int .u64 a1_4] 27 (0, 0)) (by repeat (with_reducible first | exact lb BK779.out | refine blk_far ?_ NB779_850.out _ | refine cn ?_ _ | refine cd ?_ | refine ca ?_ _)) hb); have n6_ := Aside0.mk (blk_below (g := gb780) (o := .cells #[.bool a2_0, .int .u64 a2_1, .int .u64 a2_2, .int .u64 a2_3, .int .u64 a2_4] 27 (0, 0)) (by repeat (with_reducible first | exact lb BK780.out | refine blk_far ?_ NB780_850.out _ | refine cn ?_ _ | refine cd ?_ | refine ca ?_ _)) hb); have n7_ := Aside0.mk (blk_below (g := gb790) (o := .cells #[.bool t784, .int .u64 t785, .int .u64 t786, .int .u64 t787, .int .u64 t788] 27 (0, 0)) (by repeat (with_reducible first | exact lb BK790.out | refine blk_far ?_ NB790_850.out _ | refine cn ?_ _ | refine cd ?_ | refine ca ?_ _)) hb); have n8_ := Aside0.mk (blk_below (g := gb800) (o := .cells #[.bool t794, .int .u64 t795, .int .u64 t796, .int .u64 t797, .int .u64 t798] 27 (0, 0)) (by repeat (with_reducible first | exact lb BK800.out | refine blk_far ?_ NB800_850.out _ | refine cn ?_ _ | refine cd ?_ | refine ca ?_ _)) hb); have n9_ := Aside0.mk (blk_below (g := gb810) (o := .cells #[.bool t804, .int .u64 t805, .int .u64 t806, .int .u64 t807, .int .u64 t808] 27 (0, 0)) (by repeat (with_reducible first | exact lb BK810.out | refine blk_far ?_ NB810_850.out _ | refine cn ?_ _ | refine cd ?_ | refine ca ?_ _)) hb); have n10_ := Aside0.mk (blk_below (g := gb820) (o := .cells #[.bool t814, .int .u64 t815, .int .u64 t816, .int .u64 t817, .int .u64 t818] 27 (0, 0)) (by repeat (with_reducible first | exact lb BK820.out | refine blk_far ?_ NB820_850.out _ | refine cn ?_ _ | refine cd ?_ | refine ca ?_ _)) hb); have n11_ := Aside0.mk (blk_below (g := gb830) (o := .cells #[.bool t824, .int .u64 t825, .int .u64 t826, .int .u64 t827, .int .u64 t828] 27 (0, 0)) (by repeat (with_reducible first | exact lb BK830.out | refine blk_far ?_ NB830_850.out _ | refine cn ?_ _ | refine cd ?_ | refine ca ?_ _)) hb); have n12_ := Aside0.mk (blk_below (g := gb840) (o := .cells #[.bool t834, .int .u64 t835, .int .u64 t836, .int .u64 t837, .int .u64 t838] 27 (0, 0)) (by repeat (with_reducible first | exact lb BK840.out | refine blk_far ?_ NB840_850.out _ | refine cn ?_ _ | refine cd ?_ | refine ca ?_ _)) hb); have n13_ := Aside0.mk (blk_below (g := gb850) (o := .cells #[.bool t844, .int .u64 t845, .int .u64 t846, .int .u64 t847, .int .u64 t848] 27 (0, 0)) (by (with_reducible repeat (first | refine cn ?_ _ | refine cd ?_ | refine ca ?_ _)); exact bp5 (lb BK850.out)) hb); have n14_ := Aside0.mk (below_step (by repeat (first | (with_reducible first | exact HB.out | apply qa | apply qn | apply qd | refine qs ?_ GE778.out | refine qs ?_ GE779.out | refine qs ?_ GE780.out | refine qs ?_ GE790.out | refine qs ?_ GE800.out | refine qs ?_ GE810.out | refine qs ?_ GE820.out | refine qs ?_ GE830.out | refine qs ?_ GE840.out | refine qs ?_ GE850.out) | exact HB.out)) hb); (try clear HO823); (try clear HO833); (try clear HO843); clear BK778; clear BK779; clear BK780; clear BK790; clear BK800; clear BK810; clear BK820; clear BK830; clear BK840; clear BK850; clear HB; have HO853 := n3_; have BK778 := n4_; have BK779 := n5_; have BK780 := n6_; have BK790 := n7_; have BK800 := n8_; have BK810 := n9_; have BK820 := n10_; have BK830 := n11_; have BK840 := n12_; have BK850 := n13_; have HB := n14_; clear n3_ n4_ n5_ n6_ n7_ n8_ n9_ n10_ n11_ n12_ n13_ n14_; clear hb ho212; obtain ⟨Ao213, co213, eo213⟩ := Kd.R_slice HO853.out; subst eo213) | ((with_reducible refine gate_callee (f := 35) rfl ?_); refine goesL_ (some 98) rfl rfl Try.func35 (by kernel_rfl) rfl #[.slice Ao213 y851.length co213] rfl (by (try simp only [List.map_toArray, List.map_cons, List.map_nil]); first | done | rfl | (simp only [List.length_drop, List.length_take]; rfl)) ?_; (with_reducible refine (wide_Add.calls kj7 _ _ y851 t854 t855 t856 t857 t858 t859 _ ?side1 ?side2 A142.out).mono ?_); (case side1 => repeat (first | exact (Kd.R_reads' HO853.out).2.2 | (with_reducible refine Kd.C_alloc ?_ _) | (with_reducible refine Kd.C_drewN ?_ _) | (with_reducible refine Kd.C_drew ?_))); (case side2 => exact (Kd.R_reads' HO853.out).2.1); rintro e w214 ⟨rfl, hb⟩; refine ⟨_, rfl, ?_⟩; have n4_ := bb BK778 hb; have n5_ := bb BK779 hb; have n6_ := bb BK780 hb; have n7_ := bb BK790 hb; have n8_ := bb BK800 hb; have n9_ := bb BK810 hb; have n10_ := bb BK820 hb; have n11_ := bb BK830 hb; have n12_ := bb BK840 hb; have n13_ := bb BK850 hb; have n14_ := Aside0.mk (below_step (by repeat (first | (with_reducible first | exact HB.out | apply qa | apply qn | apply qd | refine qs ?_ GE778.out | refine qs ?_ GE779.out | refine qs ?_ GE780.out | refine qs ?_ GE790.out | refine qs ?_ GE800.out | refine qs ?_ GE810.out | refine qs ?_ GE820.out | refine qs ?_ GE830.out | refine qs ?_ GE840.out | refine qs ?_ GE850.out) | exact HB.out)) hb); (try clear HO823); (try clear HO833); (try clear HO843); (try clear HO853); clear BK778; clear BK779; clear BK780; clear BK790; clear BK800; clear BK810; clear BK820; clear BK830; clear BK840; clear BK850; clear HB; have BK778 := n4_; have BK779 := n5_; have BK780 := n6_; have BK790 := n7_; have BK800 := n8_; have BK810 := n9_; have BK820 := n10_; have BK830 := n11_; have BK840 := n12_; have BK850 := n13_; have HB := n14_; clear n4_ n5_ n6_ n7_ n8_ n9_ n10_ n11_ n12_ n13_ n14_; (try clear hb); (try clear hb2); (try clear hk); (try clear hi)) | ((with_reducible refine gate_dst (N := 21) rfl ?_); refine box_event ?hg (N := 21) ?hd (cs := #[.bool false, .int .u64 0, .int .u64 0, .int .u64 0, .int .u64 0]) (t := 27) ?hr ?_; (case hd => rfl); (case hg => rfl); (case hr => first | (go_simp; done) | (go_simp; rfl)); intro gb860 hg w215 hbox hb; have n4_ := bb BK778 hb; have n5_ := bb BK779 hb; have n6_ := bb BK780 hb; have n7_ := bb BK790 hb; have n8_ := bb BK800 hb; have n9_ := bb BK810 hb; have n10_ := bb BK820 hb; have n11_ := bb BK830 hb; have n12_ := bb BK840 hb; have n13_ := bb BK850 hb; have n14_ := Aside0.mk (below_step (by repeat (first | (with_reducible first | exact HB.out | apply qa | apply qn | apply qd | refine qs ?_ GE778.out | refine qs ?_ GE779.out | refine qs ?_ GE780.out | refine qs ?_ GE790.out | refine qs ?_ GE800.out | refine qs ?_ GE810.out | refine qs ?_ GE820.out | refine qs ?_ GE830.out | refine qs ?_ GE840.out | refine qs ?_ GE850.out) | exact HB.out)) hb); have n15_ := Aside0.mk (hbox); have n16_ := bgw HB hg; have n17_ := bgw HB hg; have n18_ := bnl BK778 hg; have n19_ := bng BK778 hg; have n20_ := bnl BK779 hg; have n21_ := bng BK779 hg; have n22_ := bnl BK780 hg; have n23_ := bng BK780 hg; have n24_ := bnl BK790 hg; have n25_ := bng BK790 hg; have n26_ := bnl BK800 hg; have n27_ := bng BK800 hg; have n28_ := bnl BK810 hg; have n29_ := bng BK810 hg; have n30_ := bnl BK820 hg; have n31_ := bng BK820 hg; have n32_ := bnl BK830 hg; have n33_ := bng BK830 hg; have n34_ := bnl BK840 hg; have n35_ := bng BK840 hg; have n36_ := bnl BK850 hg; have n37_ := bng BK850 hg; (try clear HO823); (try clear HO833); (try clear HO843); (try clear HO853); clear BK778; clear BK779; clear BK780; clear BK790; clear BK800; clear BK810; clear BK820; clear BK830; clear BK840; clear BK850; clear HB; have BK778 := n4_; have BK779 := n5_; have BK780 := n6_; have BK790 := n7_; have BK800 := n8_; have BK810 := n9_; have BK820 := n10_; have BK830 := n11_; have BK840 := n12_; have BK850 := n13_; have HB := n14_; have BK860 := n15_; have GW860 := n16_; have GE860 := n17_; have NB778_860 := n18_; have NB860_778 := n19_; have NB779_860 := n20_; have NB860_779 := n21_; have NB780_860 := n22_; have NB860_780 := n23_; have NB790_860 := n24_; have NB860_790 := n25_; have NB800_860 := n26_; have NB860_800 := n27_; have NB810_860 := n28_; have NB860_810 := n29_; have NB820_860 := n30_; have NB860_820 := n31_; have NB830_860 := n32_; have NB860_830 := n33_; have NB840_860 := n34_; have NB860_840 := n35_; have NB850_860 := n36_; have NB860_850 := n37_; clear n4_ n5_ n6_ n7_ n8_ n9_ n10_ n11_ n12_ n13_ n14_ n15_ n16_ n17_ n18_ n19_ n20_ n21_ n22_ n23_ n24_ n25_ n26_ n27_ n28_ n29_ n30_ n31_ n32_ n33_ n34_ n35_ n36_ n37_; clear hb hbox hg; have hnb216 := NB860_778.out; have hnc216 := NB778_860.out; have hnb217 := NB860_779.out; have hnc217 := NB779_860.out; have hnb218 := NB860_780.out; have hnc218 := NB780_860.out; have hnb219 := NB860_790.out; have hnc219 := NB790_860.out; have hnb220 := NB860_800.out; have hnc220 := NB800_860.out; have hnb221 := NB860_810.out; have hnc221 := NB810_860.out; have hnb222 := NB860_820.out; have hnc222 := NB820_860.out; have hnb223 := NB860_830.out; have hnc223 := NB830_860.out; have hnb224 := NB860_840.out; have hnc224 := NB840_860.out; have hnb225 := NB860_850.out; have hnc225 := NB850_860.out; obtain ⟨hcz226_0, hcz226_1, hcz226_2, hcz226_3, hcz226_4⟩ := cl5 BK860.out; obtain ⟨hfz226_0, hfz226_1, hfz226_2, hfz226_3, hfz226_4⟩ := fr5 BK860.out))
   (try simp only [Act.put, List.setIfInBounds_toArray, List.set_cons_zero, List.set_cons_succ])
   go_cut [123] (fun v123 wc => ∃ (kq : Nat) (x123_142 : Bool), v123 = .bool x123_142 ∧ Aside0 (parquetlaw01_WideOrder.j1 kq t789 x123_142 a0_0 a0_1 a0_2 a0_3 a0_4 a1_0 a1_1 a1_2 a1_3 a1_4 t784 t785 t786 t787 t788 = some r) ∧ Aside0 (kq ≤ kj7) ∧ Aside0 (wc.heap[gb778]? = some (.cells #[.bool a0_0, .int .u64 a0_1, .int .u64 a0_2, .int .u64 a0_3, .int .u64 a0_4] 27 (0, 0))) ∧ Aside0 (wc.heap[gb779]? = some (.cells #[.bool a1_0, .int .u64 a1_1, .int .u64 a1_2, .int .u64 a1_3, .int .u64 a1_4] 27 (0, 0))) ∧ Aside0 (wc.heap[gb780]? = some (.cells #[.bool a2_0, .int .u64 a2_1, .int .u64 a2_2, .int .u64 a2_3, .int .u64 a2_4] 27 (0, 0))) ∧ Aside0 (wc.heap[gb790]? = some (.cells #[.bool t784, .int .u64 t785, .int .u64 t786, .int .u64 t787, .int .u64 t788] 27 (0, 0))) ∧ Aside0 (wc.heap[gb800]? = some (.cells #[.bool t794, .int .u64 t795, .int .u64 t796, .int .u64 t797, .int .u64 t798] 27 (0, 0))) ∧ Aside0 (wc.heap[gb810]? = some (.cells #[.bool t804, .int .u64 t805, .int .u64 t806, .int .u64 t807, .int .u64 t808] 27 (0, 0))) ∧ Aside0 (wc.heap[gb820]? = some (.cells #[.bool t814, .int .u64 t815, .int .u64 t816, .int .u64 t817, .int .u64 t818] 27 (0, 0))) ∧ Aside0 (wc.heap[gb830]? = some (.cells #[.bool t824, .int .u64 t825, .int .u64 t826, .int .u64 t827, .int .u64 t828] 27 (0, 0))) ∧ Aside0 (wc.heap[gb840]? = some (.cells #[.bool t834, .int .u64 t835, .int .u64 t836, .int .u64 t837, .int .u64 t838] 27 (0, 0))) ∧ Aside0 (wc.heap[gb850]? = some (.cells #[.bool t844, .int .u64 t845, .int .u64 t846, .int .u64 t847, .int .u64 t848] 27 (0, 0))) ∧ Aside0 (wc.heap[gb860]? = some (.cells #[.bool t854, .int .u64 t855, .int .u64 t856, .int .u64 t857, .int .u64 t858] 27 (0, 0))) ∧ Aside0 (Below w.heap.size w wc))
   case first =>
    have H := HC143.out
    clear HC143
    by_cases c227 : t789 = 0
    rotate_left
    ·rw [if_neg c227] at H
     have c227b0 : (t789 == 0) = false := beq_eq_false_iff_ne.mpr c227
     have c227b1 : (t789 != 0) = true := bne_iff_ne.mpr c227
     (first | rw [c227b0] | (simp only [i64_w, i32_w]; rw [c227b0]) | skip)
     have H' := Aside0.mk H
     clear H
     go_wp2
     go_meet
     case rel => exact ⟨_, (false), (by first | rfl | (simp; done) | (simp [*]; done)), H', ⟨by have := HJ7.out; first | omega | exact Nat.le_refl _⟩, ⟨by repeat (with_reducible first | exact lb BK778.out | refine blk_far ?_ NB778_860.out _ | refine cn ?_ _ | refine cd ?_ | refine ca ?_ _)⟩, ⟨by repeat (with_reducible first | exact lb BK779.out | refine blk_far ?_ NB779_860.out _ | refine cn ?_ _ | refine cd ?_ | refine ca ?_ _)⟩, ⟨by repeat (with_reducible first | exact lb BK780.out | refine blk_far ?_ NB780_860.out _ | refine cn ?_ _ | refine cd ?_ | refine ca ?_ _)⟩, ⟨by repeat (with_reducible first | exact lb BK790.out | refine blk_far ?_ NB790_860.out _ | refine cn ?_ _ | refine cd ?_ | refine ca ?_ _)⟩, ⟨by repeat (with_reducible first | exact lb BK800.out | refine blk_far ?_ NB800_860.out _ | refine cn ?_ _ | refine cd ?_ | refine ca ?_ _)⟩, ⟨by repeat (with_reducible first | exact lb BK810.out | refine blk_far ?_ NB810_860.out _ | refine cn ?_ _ | refine cd ?_ | refine ca ?_ _)⟩, ⟨by repeat (with_reducible first | exact lb BK820.out | refine blk_far ?_ NB820_860.out _ | refine cn ?_ _ | refine cd ?_ | refine ca ?_ _)⟩, ⟨by repeat (with_reducible first | exact lb BK830.out | refine blk_far ?_ NB830_860.out _ | refine cn ?_ _ | refine cd ?_ | refine ca ?_ _)⟩, ⟨by repeat (with_reducible first | exact lb BK840.out | refine blk_far ?_ NB840_860.out _ | refine cn ?_ _ | refine cd ?_ | refine ca ?_ _)⟩, ⟨by repeat (with_reducible first | exact lb BK850.out | refine blk_far ?_ NB850_860.out _ | refine cn ?_ _ | refine cd ?_ | refine ca ?_ _)⟩, ⟨by repeat (with_reducible first | exact bp5 (lb BK860.out) | refine cn ?_ _ | refine cd ?_ | refine ca ?_ _)⟩, ⟨by repeat (first | (with_reducible first | exact HB.out | apply qa | apply qn | apply qd | refine qs ?_ GE778.out | refine qs ?_ GE779.out | refine qs ?_ GE780.out | refine qs ?_ GE790.out | refine qs ?_ GE800.out | refine qs ?_ GE810.out | refine qs ?_ GE820.out | refine qs ?_ GE830.out | refine qs ?_ GE840.out | refine qs ?_ GE850.out | refine qs ?_ GE860.out) | exact HB.out)⟩⟩
    rw [if_pos c227] at H
    have c227b0 : (t789 == 0) = true := beq_iff_eq.mpr c227
    have c227b1 : (t789 != 0) = false := bne_eq_false_iff_eq.mpr c227
    clear c227
    (first | rw [c227b0] | (simp only [i64_w, i32_w]; rw [c227b0]) | skip)
    by_cases c228 : t829 = 0
    rotate_left
    ·rw [if_neg c228] at H
     have c228b0 : (t829 == 0) = false := beq_eq_false_iff_ne.mpr c228
     have c228b1 : (t829 != 0) = true := bne_iff_ne.mpr c228
     have H' := Aside0.mk H
     clear H
     go_wp2
     go_meet
     case rel => exact ⟨_, (false), (by first | rfl | (simp; done) | (simp [*]; done)), H', ⟨by have := HJ7.out; first | omega | exact Nat.le_refl _⟩, ⟨by repeat (with_reducible first | exact lb BK778.out | refine blk_far ?_ NB778_860.out _ | refine cn ?_ _ | refine cd ?_ | refine ca ?_ _)⟩, ⟨by repeat (with_reducible first | exact lb BK779.out | refine blk_far ?_ NB779_860.out _ | refine cn ?_ _ | refine cd ?_ | refine ca ?_ _)⟩, ⟨by repeat (with_reducible first | exact lb BK780.out | refine blk_far ?_ NB780_860.out _ | refine cn ?_ _ | refine cd ?_ | refine ca ?_ _)⟩, ⟨by repeat (with_reducible first | exact lb BK790.out | refine blk_far ?_ NB790_860.out _ | refine cn ?_ _ | refine cd ?_ | refine ca ?_ _)⟩, ⟨by repeat (with_reducible first | exact lb BK800.out | refine blk_far ?_ NB800_860.out _ | refine cn ?_ _ | refine cd ?_ | refine ca ?_ _)⟩, ⟨by repeat (with_reducible first | exact lb BK810.out | refine blk_far ?_ NB810_860.out _ | refine cn ?_ _ | refine cd ?_ | refine ca ?_ _)⟩, ⟨by repeat (with_reducible first | exact lb BK820.out | refine blk_far ?_ NB820_860.out _ | refine cn ?_ _ | refine cd ?_ | refine ca ?_ _)⟩, ⟨by repeat (with_reducible first | exact lb BK830.out | refine blk_far ?_ NB830_860.out _ | refine cn ?_ _ | refine cd ?_ | refine ca ?_ _)⟩, ⟨by repeat (with_reducible first | exact lb BK840.out | refine blk_far ?_ NB840_860.out _ | refine cn ?_ _ | refine cd ?_ | refine ca ?_ _)⟩, ⟨by repeat (with_reducible first | exact lb BK850.out | refine blk_far ?_ NB850_860.out _ | refine cn ?_ _ | refine cd ?_ | refine ca ?_ _)⟩, ⟨by repeat (with_reducible first | exact bp5 (lb BK860.out) | refine cn ?_ _ | refine cd ?_ | refine ca ?_ _)⟩, ⟨by repeat (first | (with_reducible first | exact HB.out | apply qa | apply qn | apply qd | refine qs ?_ GE778.out | refine qs ?_ GE779.out | refine qs ?_ GE780.out | refine qs ?_ GE790.out | refine qs ?_ GE800.out | refine qs ?_ GE810.out | refine qs ?_ GE820.out | refine qs ?_ GE830.out | refine qs ?_ GE840.out | refine qs ?_ GE850.out | refine qs ?_ GE860.out) | exact HB.out)⟩⟩
    rw [if_pos c228] at H
    have c228b0 : (t829 == 0) = true := beq_iff_eq.mpr c228
    have c228b1 : (t829 != 0) = false := bne_eq_false_iff_eq.mpr c228
    clear c228
    by_cases c229 : t839 = 0
    rotate_left
    ·rw [if_neg c229] at H
     have c229b0 : (t839 == 0) = false := beq_eq_false_iff_ne.mpr c229
     have c229b1 : (t839 != 0) = true := bne_iff_ne.mpr c229
     have H' := Aside0.mk H
     clear H
     go_wp2
     go_meet
     case rel => exact ⟨_, (false), (by first | rfl | (simp; done) | (simp [*]; done)), H', ⟨by have := HJ7.out; first | omega | exact Nat.le_refl _⟩, ⟨by repeat (with_reducible first | exact lb BK778.out | refine blk_far ?_ NB778_860.out _ | refine cn ?_ _ | refine cd ?_ | refine ca ?_ _)⟩, ⟨by repeat (with_reducible first | exact lb BK779.out | refine blk_far ?_ NB779_860.out _ | refine cn ?_ _ | refine cd ?_ | refine ca ?_ _)⟩, ⟨by repeat (with_reducible first | exact lb BK780.out | refine blk_far ?_ NB780_860.out _ | refine cn ?_ _ | refine cd ?_ | refine ca ?_ _)⟩, ⟨by repeat (with_reducible first | exact lb BK790.out | refine blk_far ?_ NB790_860.out _ | refine cn ?_ _ | refine cd ?_ | refine ca ?_ _)⟩, ⟨by repeat (with_reducible first | exact lb BK800.out | refine blk_far ?_ NB800_860.out _ | refine cn ?_ _ | refine cd ?_ | refine ca ?_ _)⟩, ⟨by repeat (with_reducible first | exact lb BK810.out | refine blk_far ?_ NB810_860.out _ | refine cn ?_ _ | refine cd ?_ | refine ca ?_ _)⟩, ⟨by repeat (with_reducible first | exact lb BK820.out | refine blk_far ?_ NB820_860.out _ | refine cn ?_ _ | refine cd ?_ | refine ca ?_ _)⟩, ⟨by repeat (with_reducible first | exact lb BK830.out | refine blk_far ?_ NB830_860.out _ | refine cn ?_ _ | refine cd ?_ | refine ca ?_ _)⟩, ⟨by repeat (with_reducible first | exact lb BK840.out | refine blk_far ?_ NB840_860.out _ | refine cn ?_ _ | refine cd ?_ | refine ca ?_ _)⟩, ⟨by repeat (with_reducible first | exact lb BK850.out | refine blk_far ?_ NB850_860.out _ | refine cn ?_ _ | refine cd ?_ | refine ca ?_ _)⟩, ⟨by repeat (with_reducible first | exact bp5 (lb BK860.out) | refine cn ?_ _ | refine cd ?_ | refine ca ?_ _)⟩, ⟨by repeat (first | (with_reducible first | exact HB.out | apply qa | apply qn | apply qd | refine qs ?_ GE778.out | refine qs ?_ GE779.out | refine qs ?_ GE780.out | refine qs ?_ GE790.out | refine qs ?_ GE800.out | refine qs ?_ GE810.out | refine qs ?_ GE820.out | refine qs ?_ GE830.out | refine qs ?_ GE840.out | refine qs ?_ GE850.out | refine qs ?_ GE860.out) | exact HB.out)⟩⟩
    rw [if_pos c229] at H
    have c229b0 : (t839 == 0) = true := beq_iff_eq.mpr c229
    have c229b1 : (t839 != 0) = false := bne_eq_false_iff_eq.mpr c229
    clear c229
    by_cases c230 : t849 = 0
    rotate_left
    ·rw [if_neg c230] at H
     have c230b0 : (t849 == 0) = false := beq_eq_false_iff_ne.mpr c230
     have c230b1 : (t849 != 0) = true := bne_iff_ne.mpr c230
     have H' := Aside0.mk H
     clear H
     go_wp2
     go_meet
     case rel => exact ⟨_, (false), (by first | rfl | (simp; done) | (simp [*]; done)), H', ⟨by have := HJ7.out; first | omega | exact Nat.le_refl _⟩, ⟨by repeat (with_reducible first | exact lb BK778.out | refine blk_far ?_ NB778_860.out _ | refine cn ?_ _ | refine cd ?_ | refine ca ?_ _)⟩, ⟨by repeat (with_reducible first | exact lb BK779.out | refine blk_far ?_ NB779_860.out _ | refine cn ?_ _ | refine cd ?_ | refine ca ?_ _)⟩, ⟨by repeat (with_reducible first | exact lb BK780.out | refine blk_far ?_ NB780_860.out _ | refine cn ?_ _ | refine cd ?_ | refine ca ?_ _)⟩, ⟨by repeat (with_reducible first | exact lb BK790.out | refine blk_far ?_ NB790_860.out _ | refine cn ?_ _ | refine cd ?_ | refine ca ?_ _)⟩, ⟨by repeat (with_reducible first | exact lb BK800.out | refine blk_far ?_ NB800_860.out _ | refine cn ?_ _ | refine cd ?_ | refine ca ?_ _)⟩, ⟨by repeat (with_reducible first | exact lb BK810.out | refine blk_far ?_ NB810_860.out _ | refine cn ?_ _ | refine cd ?_ | refine ca ?_ _)⟩, ⟨by repeat (with_reducible first | exact lb BK820.out | refine blk_far ?_ NB820_860.out _ | refine cn ?_ _ | refine cd ?_ | refine ca ?_ _)⟩, ⟨by repeat (with_reducible first | exact lb BK830.out | refine blk_far ?_ NB830_860.out _ | refine cn ?_ _ | refine cd ?_ | refine ca ?_ _)⟩, ⟨by repeat (with_reducible first | exact lb BK840.out | refine blk_far ?_ NB840_860.out _ | refine cn ?_ _ | refine cd ?_ | refine ca ?_ _)⟩, ⟨by repeat (with_reducible first | exact lb BK850.out | refine blk_far ?_ NB850_860.out _ | refine cn ?_ _ | refine cd ?_ | refine ca ?_ _)⟩, ⟨by repeat (with_reducible first | exact bp5 (lb BK860.out) | refine cn ?_ _ | refine cd ?_ | refine ca ?_ _)⟩, ⟨by repeat (first | (with_reducible first | exact HB.out | apply qa | apply qn | apply qd | refine qs ?_ GE778.out | refine qs ?_ GE779.out | refine qs ?_ GE780.out | refine qs ?_ GE790.out | refine qs ?_ GE800.out | refine qs ?_ GE810.out | refine qs ?_ GE820.out | refine qs ?_ GE830.out | refine qs ?_ GE840.out | refine qs ?_ GE850.out | refine qs ?_ GE860.out) | exact HB.out)⟩⟩
    rw [if_pos c230] at H
    have c230b0 : (t849 == 0) = true := beq_iff_eq.mpr c230
    have c230b1 : (t849 != 0) = false := bne_eq_false_iff_eq.mpr c230
    clear c230
    by_cases c231 : t859 = 0
    rotate_left
    ·rw [if_neg c231] at H
     have c231b0 : (t859 == 0) = false := beq_eq_false_iff_ne.mpr c231
     have c231b1 : (t859 != 0) = true := bne_iff_ne.mpr c231
     have H' := Aside0.mk H
     clear H
     go_wp2
     go_meet
     case rel => exact ⟨_, (false), (by first | rfl | (simp; done) | (simp [*]; done)), H', ⟨by have := HJ7.out; first | omega | exact Nat.le_refl _⟩, ⟨by repeat (with_reducible first | exact lb BK778.out | refine blk_far ?_ NB778_860.out _ | refine cn ?_ _ | refine cd ?_ | refine ca ?_ _)⟩, ⟨by repeat (with_reducible first | exact lb BK779.out | refine blk_far ?_ NB779_860.out _ | refine cn ?_ _ | refine cd ?_ | refine ca ?_ _)⟩, ⟨by repeat (with_reducible first | exact lb BK780.out | refine blk_far ?_ NB780_860.out _ | refine cn ?_ _ | refine cd ?_ | refine ca ?_ _)⟩, ⟨by repeat (with_reducible first | exact lb BK790.out | refine blk_far ?_ NB790_860.out _ | refine cn ?_ _ | refine cd ?_ | refine ca ?_ _)⟩, ⟨by repeat (with_reducible first | exact lb BK800.out | refine blk_far ?_ NB800_860.out _ | refine cn ?_ _ | refine cd ?_ | refine ca ?_ _)⟩, ⟨by repeat (with_reducible first | exact lb BK810.out | refine blk_far ?_ NB810_860.out _ | refine cn ?_ _ | refine cd ?_ | refine ca ?_ _)⟩, ⟨by repeat (with_reducible first | exact lb BK820.out | refine blk_far ?_ NB820_860.out _ | refine cn ?_ _ | refine cd ?_ | refine ca ?_ _)⟩, ⟨by repeat (with_reducible first | exact lb BK830.out | refine blk_far ?_ NB830_860.out _ | refine cn ?_ _ | refine cd ?_ | refine ca ?_ _)⟩, ⟨by repeat (with_reducible first | exact lb BK840.out | refine blk_far ?_ NB840_860.out _ | refine cn ?_ _ | refine cd ?_ | refine ca ?_ _)⟩, ⟨by repeat (with_reducible first | exact lb BK850.out | refine blk_far ?_ NB850_860.out _ | refine cn ?_ _ | refine cd ?_ | refine ca ?_ _)⟩, ⟨by repeat (with_reducible first | exact bp5 (lb BK860.out) | refine cn ?_ _ | refine cd ?_ | refine ca ?_ _)⟩, ⟨by repeat (first | (with_reducible first | exact HB.out | apply qa | apply qn | apply qd | refine qs ?_ GE778.out | refine qs ?_ GE779.out | refine qs ?_ GE780.out | refine qs ?_ GE790.out | refine qs ?_ GE800.out | refine qs ?_ GE810.out | refine qs ?_ GE820.out | refine qs ?_ GE830.out | refine qs ?_ GE840.out | refine qs ?_ GE850.out | refine qs ?_ GE860.out) | exact HB.out)⟩⟩
    rw [if_pos c231] at H
    have c231b0 : (t859 == 0) = true := beq_iff_eq.mpr c231
    have c231b1 : (t859 != 0) = false := bne_eq_false_iff_eq.mpr c231
    clear c231
    have H' := Aside0.mk H
    clear H
    have hnb232 := NB830_778.out
    have hnc232 := NB778_830.out
    have hnb233 := NB830_779.out
    have hnc233 := NB779_830.out
    have hnb234 := NB830_780.out
    have hnc234 := NB780_830.out
    have hnb235 := NB830_790.out
    have hnc235 := NB790_830.out
    have hnb236 := NB830_800.out
    have hnc236 := NB800_830.out
    have hnb237 := NB830_810.out
    have hnc237 := NB810_830.out
    have hnb238 := NB830_820.out
    have hnc238 := NB820_830.out
    have hnb239 := NB830_840.out
    have hnc239 := NB840_830.out
    have hnb240 := NB830_850.out
    have hnc240 := NB850_830.out
    have hnb241 := NB830_860.out
    have hnc241 := NB860_830.out
    obtain ⟨hcz242_0, hcz242_1, hcz242_2, hcz242_3, hcz242_4⟩ := cl5 BK830.out
    obtain ⟨hfz242_0, hfz242_1, hfz242_2, hfz242_3, hfz242_4⟩ := fr5 BK830.out
    have hnb243 := NB860_778.out
    have hnc243 := NB778_860.out
    have hnb244 := NB860_779.out
    have hnc244 := NB779_860.out
    have hnb245 := NB860_780.out
    have hnc245 := NB780_860.out
    have hnb246 := NB860_790.out
    have hnc246 := NB790_860.out
    have hnb247 := NB860_800.out
    have hnc247 := NB800_860.out
    have hnb248 := NB860_810.out
    have hnc248 := NB810_860.out
    have hnb249 := NB860_820.out
    have hnc249 := NB820_860.out
    have hnb250 := NB860_840.out
    have hnc250 := NB840_860.out
    have hnb251 := NB860_850.out
    have hnc251 := NB850_860.out
    obtain ⟨hcz252_0, hcz252_1, hcz252_2, hcz252_3, hcz252_4⟩ := cl5 BK860.out
    obtain ⟨hfz252_0, hfz252_1, hfz252_2, hfz252_3, hfz252_4⟩ := fr5 BK860.out
    go_wp2
    go_meet
    case rel => exact ⟨_, ((!(t824 == t854) || ((!(t825 == t855) || (!(t826 == t856) || (!(t827 == t857) || (!(t828 == t858)))))))), (by first | rfl | (simp; done) | (simp [*]; done)), H', ⟨by have := HJ7.out; first | omega | exact Nat.le_refl _⟩, ⟨by repeat (with_reducible first | exact lb BK778.out | refine blk_far ?_ NB778_860.out _ | refine cn ?_ _ | refine cd ?_ | refine ca ?_ _)⟩, ⟨by repeat (with_reducible first | exact lb BK779.out | refine blk_far ?_ NB779_860.out _ | refine cn ?_ _ | refine cd ?_ | refine ca ?_ _)⟩, ⟨by repeat (with_reducible first | exact lb BK780.out | refine blk_far ?_ NB780_860.out _ | refine cn ?_ _ | refine cd ?_ | refine ca ?_ _)⟩, ⟨by repeat (with_reducible first | exact lb BK790.out | refine blk_far ?_ NB790_860.out _ | refine cn ?_ _ | refine cd ?_ | refine ca ?_ _)⟩, ⟨by repeat (with_reducible first | exact lb BK800.out | refine blk_far ?_ NB800_860.out _ | refine cn ?_ _ | refine cd ?_ | refine ca ?_ _)⟩, ⟨by repeat (with_reducible first | exact lb BK810.out | refine blk_far ?_ NB810_860.out _ | refine cn ?_ _ | refine cd ?_ | refine ca ?_ _)⟩, ⟨by repeat (with_reducible first | exact lb BK820.out | refine blk_far ?_ NB820_860.out _ | refine cn ?_ _ | refine cd ?_ | refine ca ?_ _)⟩, ⟨by repeat (with_reducible first | exact lb BK830.out | refine blk_far ?_ NB830_860.out _ | refine cn ?_ _ | refine cd ?_ | refine ca ?_ _)⟩, ⟨by repeat (with_reducible first | exact lb BK840.out | refine blk_far ?_ NB840_860.out _ | refine cn ?_ _ | refine cd ?_ | refine ca ?_ _)⟩, ⟨by repeat (with_reducible first | exact lb BK850.out | refine blk_far ?_ NB850_860.out _ | refine cn ?_ _ | refine cd ?_ | refine ca ?_ _)⟩, ⟨by repeat (with_reducible first | exact bp5 (lb BK860.out) | refine cn ?_ _ | refine cd ?_ | refine ca ?_ _)⟩, ⟨by repeat (first | (with_reducible first | exact HB.out | apply qa | apply qn | apply qd | refine qs ?_ GE778.out | refine qs ?_ GE779.out | refine qs ?_ GE780.out | refine qs ?_ GE790.out | refine qs ?_ GE800.out | refine qs ?_ GE810.out | refine qs ?_ GE820.out | refine qs ?_ GE830.out | refine qs ?_ GE840.out | refine qs ?_ GE850.out | refine qs ?_ GE860.out) | exact HB.out)⟩⟩
   case rest =>
    clear HC143
    try clear c1
    try clear c2
    try clear p2
    try clear c3
    try clear c4
    try clear c5
    try clear c6
    try clear c7
    try clear c8
    try clear c9
    try clear c10
    try clear c11
    try clear c12
    try clear c13
    try clear c14
    try clear c15
    try clear c16
    try clear c17
    try clear c18
    try clear c19
    try clear c20
    try clear c21
    try clear c22
    try clear c23
    try clear c24
    try clear c25
    try clear c33
    try clear c34
    try clear c35
    try clear c36
    try clear c45
    try clear c46
    try clear c47
    try clear c48
    try clear c49
    try clear c58
    try clear c59
    try clear c60
    try clear c61
    try clear c62
    try clear c63
    try clear c65
    try clear c65b0
    try clear c66
    try clear c67
    try clear c68
    try clear c69
    try clear c70
    try clear c71
    try clear c73
    try clear c74
    try clear c75
    try clear c76
    try clear c77
    try clear c79
    try clear c79b0
    try clear c79b1
    try clear c80
    try clear c80b0
    try clear c81
    try clear c82
    try clear c83
    try clear c84
    try clear c85
    try clear c86
    try clear c88
    try clear c89
    try clear c90
    try clear c91
    try clear c92
    try clear c94
    try clear c95
    try clear c96
    try clear c97
    try clear c99
    try clear c100
    try clear c101
    try clear c103
    try clear c104
    try clear c105
    try clear c106
    try clear c107
    try clear c108
    try clear c110
    try clear c111
    try clear c112
    try clear c113
    try clear c114
    try clear c116
    try clear c117
    try clear c118
    try clear c119
    try clear c121
    try clear c122
    try clear c123
    try clear c125
    try clear c126
    try clear c127
    try clear c128
    try clear c129
    try clear c130
    try clear c132
    try clear c133
    try clear c134
    try clear c135
    try clear c136
    try clear c138
    try clear c144
    try clear c145
    try clear c146
    try clear c147
    try clear c148
    try clear c149
    try clear c151
    try clear c152
    try clear c153
    try clear c154
    try clear c155
    try clear c162
    try clear c163
    try clear c164
    try clear c165
    try clear c166
    try clear c167
    try clear c168
    try clear c170
    try clear c171
    try clear c172
    try clear c173
    try clear c181
    try clear c182
    try clear c183
    try clear c184
    try clear c185
    try clear c186
    try clear c187
    try clear c188
    try clear c190
    try clear c191
    try clear c192
    try clear c200
    try clear c201
    try clear c202
    try clear c203
    try clear c204
    try clear c205
    try clear c206
    try clear c207
    try clear c208
    try clear c216
    try clear c217
    try clear c218
    try clear c219
    try clear c220
    try clear c221
    try clear c222
    try clear c223
    try clear c224
    try clear c225
    try clear c227
    try clear c227b0
    try clear c227b1
    try clear c228
    try clear c228b0
    try clear c228b1
    try clear c229
    try clear c229b0
    try clear c229b1
    try clear c230
    try clear c230b0
    try clear c230b1
    try clear c231
    try clear c231b0
    try clear c231b1
    try clear c232
    try clear c233
    try clear c234
    try clear c235
    try clear c236
    try clear c237
    try clear c238
    try clear c239
    try clear c240
    try clear c241
    try clear c243
    try clear c244
    try clear c245
    try clear c246
    try clear c247
    try clear c248
    try clear c249
    try clear c250
    try clear c251
    try clear hcz102_0
    try clear hcz102_1
    try clear hcz102_2
    try clear hcz102_3
    try clear hcz102_4
    try clear hcz109_0
    try clear hcz109_1
    try clear hcz109_2
    try clear hcz109_3
    try clear hcz109_4
    try clear hcz115_0
    try clear hcz115_1
    try clear hcz115_2
    try clear hcz115_3
    try clear hcz115_4
    try clear hcz120_0
    try clear hcz120_1
    try clear hcz120_2
    try clear hcz120_3
    try clear hcz120_4
    try clear hcz124_0
    try clear hcz124_1
    try clear hcz124_2
    try clear hcz124_3
    try clear hcz124_4
    try clear hcz131_0
    try clear hcz131_1
    try clear hcz131_2
    try clear hcz131_3
    try clear hcz131_4
    try clear hcz137_0
    try clear hcz137_1
    try clear hcz137_2
    try clear hcz137_3
    try clear hcz137_4
    try clear hcz14_0
    try clear hcz14_1
    try clear hcz14_2
    try clear hcz14_3
    try clear hcz14_4
    try clear hcz150_0
    try clear hcz150_1
    try clear hcz150_2
    try clear hcz150_3
    try clear hcz150_4
    try clear hcz156_0
    try clear hcz156_1
    try clear hcz156_2
    try clear hcz156_3
    try clear hcz156_4
    try clear hcz169_0
    try clear hcz169_1
    try clear hcz169_2
    try clear hcz169_3
    try clear hcz169_4
    try clear hcz16_0
    try clear hcz16_1
    try clear hcz16_2
    try clear hcz16_3
    try clear hcz16_4
    try clear hcz174_0
    try clear hcz174_1
    try clear hcz174_2
    try clear hcz174_3
    try clear hcz174_4
    try clear hcz175_0
    try clear hcz175_1
    try clear hcz175_2
    try clear hcz175_3
    try clear hcz175_4
    try clear hcz189_0
    try clear hcz189_1
    try clear hcz189_2
    try clear hcz189_3
    try clear hcz189_4
    try clear hcz193_0
    try clear hcz193_1
    try clear hcz193_2
    try clear hcz193_3
    try clear hcz193_4
    try clear hcz194_0
    try clear hcz194_1
    try clear hcz194_2
    try clear hcz194_3
    try clear hcz194_4
    try clear hcz209_0
    try clear hcz209_1
    try clear hcz209_2
    try clear hcz209_3
    try clear hcz209_4
    try clear hcz210_0
    try clear hcz210_1
    try clear hcz210_2
    try clear hcz210_3
    try clear hcz210_4
    try clear hcz226_0
    try clear hcz226_1
    try clear hcz226_2
    try clear hcz226_3
    try clear hcz226_4
    try clear hcz242_0
    try clear hcz242_1
    try clear hcz242_2
    try clear hcz242_3
    try clear hcz242_4
    try clear hcz252_0
    try clear hcz252_1
    try clear hcz252_2
    try clear hcz252_3
    try clear hcz252_4
    try clear hcz25_0
    try clear hcz25_1
    try clear hcz25_2
    try clear hcz25_3
    try clear hcz25_4
    try clear hcz26_0
    try clear hcz26_1
    try clear hcz26_2
    try clear hcz26_3
    try clear hcz26_4
    try clear hcz27_0
    try clear hcz27_1
    try clear hcz27_2
    try clear hcz27_3
    try clear hcz27_4
    try clear hcz37_0
    try clear hcz37_1
    try clear hcz37_2
    try clear hcz37_3
    try clear hcz37_4
    try clear hcz38_0
    try clear hcz38_1
    try clear hcz38_2
    try clear hcz38_3
    try clear hcz38_4
    try clear hcz39_0
    try clear hcz39_1
    try clear hcz39_2
    try clear hcz39_3
    try clear hcz39_4
    try clear hcz50_0
    try clear hcz50_1
    try clear hcz50_2
    try clear hcz50_3
    try clear hcz50_4
    try clear hcz51_0
    try clear hcz51_1
    try clear hcz51_2
    try clear hcz51_3
    try clear hcz51_4
    try clear hcz52_0
    try clear hcz52_1
    try clear hcz52_2
    try clear hcz52_3
    try clear hcz52_4
    try clear hcz64_0
    try clear hcz64_1
    try clear hcz64_2
    try clear hcz64_3
    try clear hcz64_4
    try clear hcz72_0
    try clear hcz72_1
    try clear hcz72_2
    try clear hcz72_3
    try clear hcz72_4
    try clear hcz78_0
    try clear hcz78_1
    try clear hcz78_2
    try clear hcz78_3
    try clear hcz78_4
    try clear hcz87_0
    try clear hcz87_1
    try clear hcz87_2
    try clear hcz87_3
    try clear hcz87_4
    try clear hcz93_0
    try clear hcz93_1
    try clear hcz93_2
    try clear hcz93_3
    try clear hcz93_4
    try clear hcz98_0
    try clear hcz98_1
    try clear hcz98_2
    try clear hcz98_3
    try clear hcz98_4
    try clear hfz102_0
    try clear hfz102_1
    try clear hfz102_2
    try clear hfz102_3
    try clear hfz102_4
    try clear hfz109_0
    try clear hfz109_1
    try clear hfz109_2
    try clear hfz109_3
    try clear hfz109_4
    try clear hfz115_0
    try clear hfz115_1
    try clear hfz115_2
    try clear hfz115_3
    try clear hfz115_4
    try clear hfz120_0
    try clear hfz120_1
    try clear hfz120_2
    try clear hfz120_3
    try clear hfz120_4
    try clear hfz124_0
    try clear hfz124_1
    try clear hfz124_2
    try clear hfz124_3
    try clear hfz124_4
    try clear hfz131_0
    try clear hfz131_1
    try clear hfz131_2
    try clear hfz131_3
    try clear hfz131_4
    try clear hfz137_0
    try clear hfz137_1
    try clear hfz137_2
    try clear hfz137_3
    try clear hfz137_4
    try clear hfz14_0
    try clear hfz14_1
    try clear hfz14_2
    try clear hfz14_3
    try clear hfz14_4
    try clear hfz150_0
    try clear hfz150_1
    try clear hfz150_2
    try clear hfz150_3
    try clear hfz150_4
    try clear hfz156_0
    try clear hfz156_1
    try clear hfz156_2
    try clear hfz156_3
    try clear hfz156_4
    try clear hfz169_0
    try clear hfz169_1
    try clear hfz169_2
    try clear hfz169_3
    try clear hfz169_4
    try clear hfz16_0
    try clear hfz16_1
    try clear hfz16_2
    try clear hfz16_3
    try clear hfz16_4
    try clear hfz174_0
    try clear hfz174_1
    try clear hfz174_2
    try clear hfz174_3
    try clear hfz174_4
    try clear hfz175_0
    try clear hfz175_1
    try clear hfz175_2
    try clear hfz175_3
    try clear hfz175_4
    try clear hfz189_0
    try clear hfz189_1
    try clear hfz189_2
    try clear hfz189_3
    try clear hfz189_4
    try clear hfz193_0
    try clear hfz193_1
    try clear hfz193_2
    try clear hfz193_3
    try clear hfz193_4
    try clear hfz194_0
    try clear hfz194_1
    try clear hfz194_2
    try clear hfz194_3
    try clear hfz194_4
    try clear hfz209_0
    try clear hfz209_1
    try clear hfz209_2
    try clear hfz209_3
    try clear hfz209_4
    try clear hfz210_0
    try clear hfz210_1
    try clear hfz210_2
    try clear hfz210_3
    try clear hfz210_4
    try clear hfz226_0
    try clear hfz226_1
    try clear hfz226_2
    try clear hfz226_3
    try clear hfz226_4
    try clear hfz242_0
    try clear hfz242_1
    try clear hfz242_2
    try clear hfz242_3
    try clear hfz242_4
    try clear hfz252_0
    try clear hfz252_1
    try clear hfz252_2
    try clear hfz252_3
    try clear hfz252_4
    try clear hfz25_0
    try clear hfz25_1
    try clear hfz25_2
    try clear hfz25_3
    try clear hfz25_4
    try clear hfz26_0
    try clear hfz26_1
    try clear hfz26_2
    try clear hfz26_3
    try clear hfz26_4
    try clear hfz27_0
    try clear hfz27_1
    try clear hfz27_2
    try clear hfz27_3
    try clear hfz27_4
    try clear hfz37_0
    try clear hfz37_1
    try clear hfz37_2
    try clear hfz37_3
    try clear hfz37_4
    try clear hfz38_0
    try clear hfz38_1
    try clear hfz38_2
    try clear hfz38_3
    try clear hfz38_4
    try clear hfz39_0
    try clear hfz39_1
    try clear hfz39_2
    try clear hfz39_3
    try clear hfz39_4
    try clear hfz50_0
    try clear hfz50_1
    try clear hfz50_2
    try clear hfz50_3
    try clear hfz50_4
    try clear hfz51_0
    try clear hfz51_1
    try clear hfz51_2
    try clear hfz51_3
    try clear hfz51_4
    try clear hfz52_0
    try clear hfz52_1
    try clear hfz52_2
    try clear hfz52_3
    try clear hfz52_4
    try clear hfz64_0
    try clear hfz64_1
    try clear hfz64_2
    try clear hfz64_3
    try clear hfz64_4
    try clear hfz72_0
    try clear hfz72_1
    try clear hfz72_2
    try clear hfz72_3
    try clear hfz72_4
    try clear hfz78_0
    try clear hfz78_1
    try clear hfz78_2
    try clear hfz78_3
    try clear hfz78_4
    try clear hfz87_0
    try clear hfz87_1
    try clear hfz87_2
    try clear hfz87_3
    try clear hfz87_4
    try clear hfz93_0
    try clear hfz93_1
    try clear hfz93_2
    try clear hfz93_3
    try clear hfz93_4
    try clear hfz98_0
    try clear hfz98_1
    try clear hfz98_2
    try clear hfz98_3
    try clear hfz98_4
    try clear p2
    obtain ⟨kq, x123_142, rfl, HA, HJ142, BK778, BK779, BK780, BK790, BK800, BK810, BK820, BK830, BK840, BK850, BK860, HB⟩ := hcut
    cases kq with
    | zero => exact absurd HA.out (by simp [parquetlaw01_WideOrder.j1])
    | succ kj142 =>
     have H := HA.out
     clear HA
     simp only [parquetlaw01_WideOrder.j1] at H
     by_cases c253 : x123_142 = true
     ·subst c253
      have H1 : (some false) = some r := by rw [if_pos rfl] at H; exact H
      clear H
      have H := H1
      clear H1
      exact absurd ((Option.some.inj H).trans hr_) (by decide)
     replace c253 := Bool.eq_false_iff.mpr c253
     subst c253
     have H1 : ((wide_Sub.f kj142 t784 t785 t786 t787 t788 a1_0 a1_1 a1_2 a1_3 a1_4).bind fun bt861 => ((parquetref01_Of.f kj142 a0_0 a0_1 a0_2 a0_3 a0_4).bind fun bt868 => ((parquetref01_Num_Wide.f bt868.1 bt868.2).bind fun bt872 => (if t789 = 0 then (if bt861.2.2.2.2.2 = 0 then (if (bt861.1 == bt872.1 && ((bt861.2.1 == bt872.2.1 && (bt861.2.2.1 == bt872.2.2.1 && (bt861.2.2.2.1 == bt872.2.2.2.1 && (bt861.2.2.2.2.1 == bt872.2.2.2.2.1)))))) = true then ((parquetlaw01_known.f).bind fun t879 => (some t879)) else (some false)) else (some false)) else ((parquetlaw01_known.f).bind fun t880 => (some t880)))))) = some r := by rw [if_neg (show ¬ (false = true) by decide)] at H; exact H
     clear H
     have H := H1
     clear H1
     replace H := Option.bind_eq_some_iff.mp H
     obtain ⟨⟨t861, t862, t863, t864, t865, t866⟩, A2540, H⟩ := H
     try dsimp only at H
     have A254 := Aside0.mk A2540
     clear A2540
     replace H := Option.bind_eq_some_iff.mp H
     obtain ⟨⟨t868, t869⟩, A2550, H⟩ := H
     try dsimp only at H
     have A255 := Aside0.mk A2550
     clear A2550
     replace H := Option.bind_eq_some_iff.mp H
     obtain ⟨⟨t872, t873, t874, t875, t876, t877⟩, A2560, H⟩ := H
     try dsimp only at H
     have A256 := Aside0.mk A2560
     clear A2560
     by_cases c257 : t789 = 0
     rotate_left
     ·rw [if_neg c257] at H
      have c257b0 : (t789 == 0) = false := beq_eq_false_iff_ne.mpr c257
      have c257b1 : (t789 != 0) = true := bne_iff_ne.mpr c257
      replace H := Option.bind_eq_some_iff.mp H
      obtain ⟨t880, A3240, H⟩ := H
      replace H : (some t880) = some r := H
      have A324 := Aside0.mk A3240
      clear A3240
      obtain rfl := Option.some.inj H
      have hnb325 := NB790_778.out
      have hnc325 := NB778_790.out
      have hnb326 := NB790_779.out
      have hnc326 := NB779_790.out
      have hnb327 := NB790_780.out
      have hnc327 := NB780_790.out
      have hnb328 := NB790_800.out
      have hnc328 := NB800_790.out
      have hnb329 := NB790_810.out
      have hnc329 := NB810_790.out
      have hnb330 := NB790_820.out
      have hnc330 := NB820_790.out
      have hnb331 := NB790_830.out
      have hnc331 := NB830_790.out
      have hnb332 := NB790_840.out
      have hnc332 := NB840_790.out
      have hnb333 := NB790_850.out
      have hnc333 := NB850_790.out
      have hnb334 := NB790_860.out
      have hnc334 := NB860_790.out
      obtain ⟨hcz335_0, hcz335_1, hcz335_2, hcz335_3, hcz335_4⟩ := cl5 BK790.out
      obtain ⟨hfz335_0, hfz335_1, hfz335_2, hfz335_3, hfz335_4⟩ := fr5 BK790.out
      have hnb336 := NB779_778.out
      have hnc336 := NB778_779.out
      have hnb337 := NB779_780.out
      have hnc337 := NB780_779.out
      have hnb338 := NB779_800.out
      have hnc338 := NB800_779.out
      have hnb339 := NB779_810.out
      have hnc339 := NB810_779.out
      have hnb340 := NB779_820.out
      have hnc340 := NB820_779.out
      have hnb341 := NB779_830.out
      have hnc341 := NB830_779.out
      have hnb342 := NB779_840.out
      have hnc342 := NB840_779.out
      have hnb343 := NB779_850.out
      have hnc343 := NB850_779.out
      have hnb344 := NB779_860.out
      have hnc344 := NB860_779.out
      obtain ⟨hcz345_0, hcz345_1, hcz345_2, hcz345_3, hcz345_4⟩ := cl5 BK779.out
      obtain ⟨hfz345_0, hfz345_1, hfz345_2, hfz345_3, hfz345_4⟩ := fr5 BK779.out
      go_wp2_with (first | ((with_reducible refine gate_callee (f := 37) rfl ?_); refine goesL_ (some 127) rfl rfl Try.func37 (by kernel_rfl) rfl #[.agg #[.bool t784, .int .u64 t785, .int .u64 t786, .int .u64 t787, .int .u64 t788], .agg #[.bool a1_0, .int .u64 a1_1, .int .u64 a1_2, .int .u64 a1_3, .int .u64 a1_4]] rfl (by (try simp only [List.map_toArray, List.map_cons, List.map_nil]); first | done | rfl | (simp only [List.length_drop, List.length_take]; rfl)) ?_; (with_reducible refine (wide_Sub.calls kj142 t784 t785 t786 t787 t788 a1_0 a1_1 a1_2 a1_3 a1_4 t861 t862 t863 t864 t865 t866 _ A254.out).mono ?_); rintro e w346 ⟨rfl, hb⟩; refine ⟨_, rfl, ?_⟩; have n0_ := bb BK778 hb; have n1_ := bb BK779 hb; have n2_ := bb BK780 hb; have n3_ := bb BK790 hb; have n4_ := bb BK800 hb; have n5_ := bb BK810 hb; have n6_ := bb BK820 hb; have n7_ := bb BK830 hb; have n8_ := bb BK840 hb; have n9_ := bb BK850 hb; have n10_ := bb BK860 hb; have n11_ := Aside0.mk (below_step (by repeat (first | (with_reducible first | exact HB.out | apply qa | apply qn | apply qd | refine qs ?_ GE778.out | refine qs ?_ GE779.out | refine qs ?_ GE780.out | refine qs ?_ GE790.out | refine qs ?_ GE800.out | refine qs ?_ GE810.out | refine qs ?_ GE820.out | refine qs ?_ GE830.out | refine qs ?_ GE840.out | refine qs ?_ GE850.out | refine qs ?_ GE860.out) | exact HB.out)) hb); clear BK778; clear BK779; clear BK780; clear BK790; clear BK800; clear BK810; clear BK820; clear BK830; clear BK840; clear BK850; clear BK860; clear HB; have BK778 := n0_; have BK779 := n1_; have BK780 := n2_; have BK790 := n3_; have BK800 := n4_; have BK810 := n5_; have BK820 := n6_; have BK830 := n7_; have BK840 := n8_; have BK850 := n9_; have BK860 := n10_; have HB := n11_; clear n0_ n1_ n2_ n3_ n4_ n5_ n6_ n7_ n8_ n9_ n10_ n11_; (try clear hb); (try clear hb2); (try clear hk); (try clear hi)) | ((with_reducible refine gate_dst (N := 23) rfl ?_); refine box_event ?hg (N := 23) ?hd (cs := #[.bool false, .int .u64 0, .int .u64 0, .int .u64 0, .int .u64 0]) (t := 27) ?hr ?_; (case hd => rfl); (case hg => rfl); (case hr => first | (go_simp; done) | (go_simp; rfl)); intro gb867 hg w347 hbox hb; have n0_ := bb BK778 hb; have n1_ := bb BK779 hb; have n2_ := bb BK780 hb; have n3_ := bb BK790 hb; have n4_ := bb BK800 hb; have n5_ := bb BK810 hb; have n6_ := bb BK820 hb; have n7_ := bb BK830 hb; have n8_ := bb BK840 hb; have n9_ := bb BK850 hb; have n10_ := bb BK860 hb; have n11_ := Aside0.mk (below_step (by repeat (first | (with_reducible first | exact HB.out | apply qa | apply qn | apply qd | refine qs ?_ GE778.out | refine qs ?_ GE779.out | refine qs ?_ GE780.out | refine qs ?_ GE790.out | refine qs ?_ GE800.out | refine qs ?_ GE810.out | refine qs ?_ GE820.out | refine qs ?_ GE830.out | refine qs ?_ GE840.out | refine qs ?_ GE850.out | refine qs ?_ GE860.out) | exact HB.out)) hb); have n12_ := Aside0.mk (hbox); have n13_ := bgw HB hg; have n14_ := bgw HB hg; have n15_ := bnl BK778 hg; have n16_ := bng BK778 hg; have n17_ := bnl BK779 hg; have n18_ := bng BK779 hg; have n19_ := bnl BK780 hg; have n20_ := bng BK780 hg; have n21_ := bnl BK790 hg; have n22_ := bng BK790 hg; have n23_ := bnl BK800 hg; have n24_ := bng BK800 hg; have n25_ := bnl BK810 hg; have n26_ := bng BK810 hg; have n27_ := bnl BK820 hg; have n28_ := bng BK820 hg; have n29_ := bnl BK830 hg; have n30_ := bng BK830 hg; have n31_ := bnl BK840 hg; have n32_ := bng BK840 hg; have n33_ := bnl BK850 hg; have n34_ := bng BK850 hg; have n35_ := bnl BK860 hg; have n36_ := bng BK860 hg; clear BK778; clear BK779; clear BK780; clear BK790; clear BK800; clear BK810; clear BK820; clear BK830; clear BK840; clear BK850; clear BK860; clear HB; have BK778 := n0_; have BK779 := n1_; have BK780 := n2_; have BK790 := n3_; have BK800 := n4_; have BK810 := n5_; have BK820 := n6_; have BK830 := n7_; have BK840 := n8_; have BK850 := n9_; have BK860 := n10_; have HB := n11_; have BK867 := n12_; have GW867 := n13_; have GE867 := n14_; have NB778_867 := n15_; have NB867_778 := n16_; have NB779_867 := n17_; have NB867_779 := n18_; have NB780_867 := n19_; have NB867_780 := n20_; have NB790_867 := n21_; have NB867_790 := n22_; have NB800_867 := n23_; have NB867_800 := n24_; have NB810_867 := n25_; have NB867_810 := n26_; have NB820_867 := n27_; have NB867_820 := n28_; have NB830_867 := n29_; have NB867_830 := n30_; have NB840_867 := n31_; have NB867_840 := n32_; have NB850_867 := n33_; have NB867_850 := n34_; have NB860_867 := n35_; have NB867_860 := n36_; clear n0_ n1_ n2_ n3_ n4_ n5_ n6_ n7_ n8_ n9_ n10_ n11_ n12_ n13_ n14_ n15_ n16_ n17_ n18_ n19_ n20_ n21_ n22_ n23_ n24_ n25_ n26_ n27_ n28_ n29_ n30_ n31_ n32_ n33_ n34_ n35_ n36_; clear hb hbox hg; have hnb348 := NB867_778.out; have hnc348 := NB778_867.out; have hnb349 := NB867_779.out; have hnc349 := NB779_867.out; have hnb350 := NB867_780.out; have hnc350 := NB780_867.out; have hnb351 := NB867_790.out; have hnc351 := NB790_867.out; have hnb352 := NB867_800.out; have hnc352 := NB800_867.out; have hnb353 := NB867_810.out; have hnc353 := NB810_867.out; have hnb354 := NB867_820.out; have hnc354 := NB820_867.out; have hnb355 := NB867_830.out; have hnc355 := NB830_867.out; have hnb356 := NB867_840.out; have hnc356 := NB840_867.out; have hnb357 := NB867_850.out; have hnc357 := NB850_867.out; have hnb358 := NB867_860.out; have hnc358 := NB860_867.out; obtain ⟨hcz359_0, hcz359_1, hcz359_2, hcz359_3, hcz359_4⟩ := cl5 BK867.out; obtain ⟨hfz359_0, hfz359_1, hfz359_2, hfz359_3, hfz359_4⟩ := fr5 BK867.out; have hnb360 := NB778_780.out; have hnc360 := NB780_778.out; have hnb361 := NB778_800.out; have hnc361 := NB800_778.out; have hnb362 := NB778_810.out; have hnc362 := NB810_778.out; have hnb363 := NB778_820.out; have hnc363 := NB820_778.out; have hnb364 := NB778_830.out; have hnc364 := NB830_778.out; have hnb365 := NB778_840.out; have hnc365 := NB840_778.out; have hnb366 := NB778_850.out; have hnc366 := NB850_778.out; have hnb367 := NB778_860.out; have hnc367 := NB860_778.out; obtain ⟨hcz368_0, hcz368_1, hcz368_2, hcz368_3, hcz368_4⟩ := cl5 BK778.out; obtain ⟨hfz368_0, hfz368_1, hfz368_2, hfz368_3, hfz368_4⟩ := fr5 BK778.out) | ((with_reducible refine gate_callee (f := 24) rfl ?_); refine goesL_ (some 132) rfl rfl Try.func24 (by kernel_rfl) rfl #[.agg #[.bool a0_0, .int .u64 a0_1, .int .u64 a0_2, .int .u64 a0_3, .int .u64 a0_4]] rfl (by (try simp only [List.map_toArray, List.map_cons, List.map_nil]); first | done | rfl | (simp only [List.length_drop, List.length_take]; rfl)) ?_; (with_reducible refine (parquetref01_Of.calls kj142 a0_0 a0_1 a0_2 a0_3 a0_4 t868 t869 _ A255.out).mono ?_); rintro e w369 ⟨v870, rfl, ho0, hb⟩; refine ⟨_, rfl, ?_⟩; have n0_ := Aside0.mk (Kd.V_lower (Kd.V_mono (ok' := fun k_ => k_ ≠ gb778 ∧ k_ ≠ gb779 ∧ k_ ≠ gb780 ∧ k_ ≠ gb790 ∧ k_ ≠ gb800 ∧ k_ ≠ gb810 ∧ k_ ≠ gb820 ∧ k_ ≠ gb830 ∧ k_ ≠ gb840 ∧ k_ ≠ gb850 ∧ k_ ≠ gb860 ∧ k_ ≠ gb867) ho0 (fun k_ hk_ => ⟨(Kd.freshB (g := gb778) (o := .cells #[.bool a0_0, .int .u64 a0_1, .int .u64 a0_2, .int .u64 a0_3, .int .u64 a0_4] 27 (0, 0)) (by repeat (with_reducible first | exact lb BK778.out | refine blk_far ?_ NB778_867.out _ | refine cn ?_ _ | refine cd ?_ | refine ca ?_ _)) k_ hk_), (Kd.freshB (g := gb779) (o := .cells #[.bool a1_0, .int .u64 a1_1, .int .u64 a1_2, .int .u64 a1_3, .int .u64 a1_4] 27 (0, 0)) (by repeat (with_reducible first | exact lb BK779.out | refine blk_far ?_ NB779_867.out _ | refine cn ?_ _ | refine cd ?_ | refine ca ?_ _)) k_ hk_), (Kd.freshB (g := gb780) (o := .cells #[.bool a2_0, .int .u64 a2_1, .int .u64 a2_2, .int .u64 a2_3, .int .u64 a2_4] 27 (0, 0)) (by repeat (with_reducible first | exact lb BK780.out | refine blk_far ?_ NB780_867.out _ | refine cn ?_ _ | refine cd ?_ | refine ca ?_ _)) k_ hk_), (Kd.freshB (g := gb790) (o := .cells #[.bool t784, .int .u64 t785, .int .u64 t786, .int .u64 t787, .int .u64 t788] 27 (0, 0)) (by repeat (with_reducible first | exact lb BK790.out | refine blk_far ?_ NB790_867.out _ | refine cn ?_ _ | refine cd ?_ | refine ca ?_ _)) k_ hk_), (Kd.freshB (g := gb800) (o := .cells #[.bool t794, .int .u64 t795, .int .u64 t796, .int .u64 t797, .int .u64 t798] 27 (0, 0)) (by repeat (with_reducible first | exact lb BK800.out | refine blk_far ?_ NB800_867.out _ | refine cn ?_ _ | refine cd ?_ | refine ca ?_ _)) k_ hk_), (Kd.freshB (g := gb810) (o := .cells #[.bool t804, .int .u64 t805, .int .u64 t806, .int .u64 t807, .int .u64 t808] 27 (0, 0)) (by repeat (with_reducible first | exact lb BK810.out | refine blk_far ?_ NB810_867.out _ | refine cn ?_ _ | refine cd ?_ | refine ca ?_ _)) k_ hk_), (Kd.freshB (g := gb820) (o := .cells #[.bool t814, .int .u64 t815, .int .u64 t816, .int .u64 t817, .int .u64 t818] 27 (0, 0)) (by repeat (with_reducible first | exact lb BK820.out | refine blk_far ?_ NB820_867.out _ | refine cn ?_ _ | refine cd ?_ | refine ca ?_ _)) k_ hk_), (Kd.freshB (g := gb830) (o := .cells #[.bool t824, .int .u64 t825, .int .u64 t826, .int .u64 t827, .int .u64 t828] 27 (0, 0)) (by repeat (with_reducible first | exact lb BK830.out | refine blk_far ?_ NB830_867.out _ | refine cn ?_ _ | refine cd ?_ | refine ca ?_ _)) k_ hk_), (Kd.freshB (g := gb840) (o := .cells #[.bool t834, .int .u64 t835, .int .u64 t836, .int .u64 t837, .int .u64 t838] 27 (0, 0)) (by repeat (with_reducible first | exact lb BK840.out | refine blk_far ?_ NB840_867.out _ | refine cn ?_ _ | refine cd ?_ | refine ca ?_ _)) k_ hk_), (Kd.freshB (g := gb850) (o := .cells #[.bool t844, .int .u64 t845, .int .u64 t846, .int .u64 t847, .int .u64 t848] 27 (0, 0)) (by repeat (with_reducible first | exact lb BK850.out | refine blk_far ?_ NB850_867.out _ | refine cn ?_ _ | refine cd ?_ | refine ca ?_ _)) k_ hk_), (Kd.freshB (g := gb860) (o := .cells #[.bool t854, .int .u64 t855, .int .u64 t856, .int .u64 t857, .int .u64 t858] 27 (0, 0)) (by repeat (with_reducible first | exact lb BK860.out | refine blk_far ?_ NB860_867.out _ | refine cn ?_ _ | refine cd ?_ | refine ca ?_ _)) k_ hk_), (Kd.freshB (g := gb867) (o := .cells #[.bool t861, .int .u64 t862, .int .u64 t863, .int .u64 t864, .int .u64 t865] 27 (0, 0)) (by (with_reducible repeat (first | refine cn ?_ _ | refine cd ?_ | refine ca ?_ _)); exact bp5 (lb BK867.out)) k_ hk_)⟩)) (below_size (by repeat (first | (with_reducible first | exact HB.out | apply qa | apply qn | apply qd | refine qs ?_ GE778.out | refine qs ?_ GE779.out | refine qs ?_ GE780.out | refine qs ?_ GE790.out | refine qs ?_ GE800.out | refine qs ?_ GE810.out | refine qs ?_ GE820.out | refine qs ?_ GE830.out | refine qs ?_ GE840.out | refine qs ?_ GE850.out | refine qs ?_ GE860.out | refine qs ?_ GE867.out) | exact HB.out)))); have n1_ := Aside0.mk (blk_below (g := gb778) (o := .cells #[.bool a0_0, .int .u64 a0_1, .int .u64 a0_2, .int .u64 a0_3, .int .u64 a0_4] 27 (0, 0)) (by repeat (with_reducible first | exact lb BK778.out | refine blk_far ?_ NB778_867.out _ | refine cn ?_ _ | refine cd ?_ | refine ca ?_ _)) hb); have n2_ := Aside0.mk (blk_below (g := gb779) (o := .cells #[.bool a1_0, .int .u64 a1_1, .int .u64 a1_2, .int .u64 a1_3, .int .u64 a1_4] 27 (0, 0)) (by repeat (with_reducible first | exact lb BK779.out | refine blk_far ?_ NB779_867.out _ | refine cn ?_ _ | refine cd ?_ | refine ca ?_ _)) hb); have n3_ := Aside0.mk (blk_below (g := gb780) (o := .cells #[.bool a2_0, .int .u64 a2_1, .int .u64 a2_2, .int .u64 a2_3, .int .u64 a2_4] 27 (0, 0)) (by repeat (with_reducible first | exact lb BK780.out | refine blk_far ?_ NB780_867.out _ | refine cn ?_ _ | refine cd ?_ | refine ca ?_ _)) hb); have n4_ := Aside0.mk (blk_below (g := gb790) (o := .cells #[.bool t784, .int .u64 t785, .int .u64 t786, .int .u64 t787, .int .u64 t788] 27 (0, 0)) (by repeat (with_reducible first | exact lb BK790.out | refine blk_far ?_ NB790_867.out _ | refine cn ?_ _ | refine cd ?_ | refine ca ?_ _)) hb); have n5_ := Aside0.mk (blk_below (g := gb800) (o := .cells #[.bool t794, .int .u64 t795, .int .u64 t796, .int .u64 t797, .int .u64 t798] 27 (0, 0)) (by repeat (with_reducible first | exact lb BK800.out | refine blk_far ?_ NB800_867.out _ | refine cn ?_ _ | refine cd ?_ | refine ca ?_ _)) hb); have n6_ := Aside0.mk (blk_below (g := gb810) (o := .cells #[.bool t804, .int .u64 t805, .int .u64 t806, .int .u64 t807, .int .u64 t808] 27 (0, 0)) (by repeat (with_reducible first | exact lb BK810.out | refine blk_far ?_ NB810_867.out _ | refine cn ?_ _ | refine cd ?_ | refine ca ?_ _)) hb); have n7_ := Aside0.mk (blk_below (g := gb820) (o := .cells #[.bool t814, .int .u64 t815, .int .u64 t816, .int .u64 t817, .int .u64 t818] 27 (0, 0)) (by repeat (with_reducible first | exact lb BK820.out | refine blk_far ?_ NB820_867.out _ | refine cn ?_ _ | refine cd ?_ | refine ca ?_ _)) hb); have n8_ := Aside0.mk (blk_below (g := gb830) (o := .cells #[.bool t824, .int .u64 t825, .int .u64 t826, .int .u64 t827, .int .u64 t828] 27 (0, 0)) (by repeat (with_reducible first | exact lb BK830.out | refine blk_far ?_ NB830_867.out _ | refine cn ?_ _ | refine cd ?_ | refine ca ?_ _)) hb); have n9_ := Aside0.mk (blk_below (g := gb840) (o := .cells #[.bool t834, .int .u64 t835, .int .u64 t836, .int .u64 t837, .int .u64 t838] 27 (0, 0)) (by repeat (with_reducible first | exact lb BK840.out | refine blk_far ?_ NB840_867.out _ | refine cn ?_ _ | refine cd ?_ | refine ca ?_ _)) hb); have n10_ := Aside0.mk (blk_below (g := gb850) (o := .cells #[.bool t844, .int .u64 t845, .int .u64 t846, .int .u64 t847, .int .u64 t848] 27 (0, 0)) (by repeat (with_reducible first | exact lb BK850.out | refine blk_far ?_ NB850_867.out _ | refine cn ?_ _ | refine cd ?_ | refine ca ?_ _)) hb); have n11_ := Aside0.mk (blk_below (g := gb860) (o := .cells #[.bool t854, .int .u64 t855, .int .u64 t856, .int .u64 t857, .int .u64 t858] 27 (0, 0)) (by repeat (with_reducible first | exact lb BK860.out | refine blk_far ?_ NB860_867.out _ | refine cn ?_ _ | refine cd ?_ | refine ca ?_ _)) hb); have n12_ := Aside0.mk (blk_below (g := gb867) (o := .cells #[.bool t861, .int .u64 t862, .int .u64 t863, .int .u64 t864, .int .u64 t865] 27 (0, 0)) (by (with_reducible repeat (first | refine cn ?_ _ | refine cd ?_ | refine ca ?_ _)); exact bp5 (lb BK867.out)) hb); have n13_ := Aside0.mk (below_step (by repeat (first | (with_reducible first | exact HB.out | apply qa | apply qn | apply qd | refine qs ?_ GE778.out | refine qs ?_ GE779.out | refine qs ?_ GE780.out | refine qs ?_ GE790.out | refine qs ?_ GE800.out | refine qs ?_ GE810.out | refine qs ?_ GE820.out | refine qs ?_ GE830.out | refine qs ?_ GE840.out | refine qs ?_ GE850.out | refine qs ?_ GE860.out | refine qs ?_ GE867.out) | exact HB.out)) hb); clear BK778; clear BK779; clear BK780; clear BK790; clear BK800; clear BK810; clear BK820; clear BK830; clear BK840; clear BK850; clear BK860; clear BK867; clear HB; have HO871 := n0_; have BK778 := n1_; have BK779 := n2_; have BK780 := n3_; have BK790 := n4_; have BK800 := n5_; have BK810 := n6_; have BK820 := n7_; have BK830 := n8_; have BK840 := n9_; have BK850 := n10_; have BK860 := n11_; have BK867 := n12_; have HB := n13_; clear n0_ n1_ n2_ n3_ n4_ n5_ n6_ n7_ n8_ n9_ n10_ n11_ n12_ n13_; (try clear hb); (try clear hb2); (try clear hk); (try clear hi); (try clear ho0); obtain ⟨Ao370, co370, eo370⟩ := Kd.V_slice HO871.out; subst eo370) | ((with_reducible refine gate_callee (f := 34) rfl ?_); refine goesL_ (some 133) rfl rfl Try.func34 (by kernel_rfl) rfl #[.agg #[.bool t868, .slice Ao370 t869.length co370]] rfl (by (try simp only [List.map_toArray, List.map_cons, List.map_nil]); first | done | rfl | (simp only [List.length_drop, List.length_take]; rfl)) ?_; (with_reducible refine (parquetref01_Num_Wide.calls t868 _ _ t869 t872 t873 t874 t875 t876 t877 _ ?side1 ?side2 A256.out).mono ?_); (case side1 => repeat (first | exact (Kd.V_reads' HO871.out).2.2 | (with_reducible refine Kd.C_alloc ?_ _) | (with_reducible refine Kd.C_drewN ?_ _) | (with_reducible refine Kd.C_drew ?_))); (case side2 => exact (Kd.V_reads' HO871.out).2.1); rintro e w371 ⟨rfl, hb⟩; refine ⟨_, rfl, ?_⟩; have n0_ := Aside0.mk (Kd.V_below (by (with_reducible repeat (first | apply Kd.V_alloc | apply Kd.V_drewN | apply Kd.V_drew)); exact HO871.out) hb); have n1_ := bb BK778 hb; have n2_ := bb BK779 hb; have n3_ := bb BK780 hb; have n4_ := bb BK790 hb; have n5_ := bb BK800 hb; have n6_ := bb BK810 hb; have n7_ := bb BK820 hb; have n8_ := bb BK830 hb; have n9_ := bb BK840 hb; have n10_ := bb BK850 hb; have n11_ := bb BK860 hb; have n12_ := bb BK867 hb; have n13_ := Aside0.mk (below_step (by repeat (first | (with_reducible first | exact HB.out | apply qa | apply qn | apply qd | refine qs ?_ GE778.out | refine qs ?_ GE779.out | refine qs ?_ GE780.out | refine qs ?_ GE790.out | refine qs ?_ GE800.out | refine qs ?_ GE810.out | refine qs ?_ GE820.out | refine qs ?_ GE830.out | refine qs ?_ GE840.out | refine qs ?_ GE850.out | refine qs ?_ GE860.out | refine qs ?_ GE867.out) | exact HB.out)) hb); (try clear HO871); clear BK778; clear BK779; clear BK780; clear BK790; clear BK800; clear BK810; clear BK820; clear BK830; clear BK840; clear BK850; clear BK860; clear BK867; clear HB; have HO871 := n0_; have BK778 := n1_; have BK779 := n2_; have BK780 := n3_; have BK790 := n4_; have BK800 := n5_; have BK810 := n6_; have BK820 := n7_; have BK830 := n8_; have BK840 := n9_; have BK850 := n10_; have BK860 := n11_; have BK867 := n12_; have HB := n13_; clear n0_ n1_ n2_ n3_ n4_ n5_ n6_ n7_ n8_ n9_ n10_ n11_ n12_ n13_; (try clear hb); (try clear hb2); (try clear hk); (try clear hi)) | ((with_reducible refine gate_dst (N := 25) rfl ?_); refine box_event ?hg (N := 25) ?hd (cs := #[.bool false, .int .u64 0, .int .u64 0, .int .u64 0, .int .u64 0]) (t := 27) ?hr ?_; (case hd => rfl); (case hg => rfl); (case hr => first | (go_simp; done) | (go_simp; rfl)); intro gb878 hg w372 hbox hb; have n0_ := Aside0.mk (Kd.V_below (Kd.V_elderB (by (with_reducible repeat (first | apply Kd.V_alloc | apply Kd.V_drewN | apply Kd.V_drew)); exact HO871.out) gb878 (Nat.le_of_eq hg.symm)) hb); have n1_ := bb BK778 hb; have n2_ := bb BK779 hb; have n3_ := bb BK780 hb; have n4_ := bb BK790 hb; have n5_ := bb BK800 hb; have n6_ := bb BK810 hb; have n7_ := bb BK820 hb; have n8_ := bb BK830 hb; have n9_ := bb BK840 hb; have n10_ := bb BK850 hb; have n11_ := bb BK860 hb; have n12_ := bb BK867 hb; have n13_ := Aside0.mk (below_step (by repeat (first | (with_reducible first | exact HB.out | apply qa | apply qn | apply qd | refine qs ?_ GE778.out | refine qs ?_ GE779.out | refine qs ?_ GE780.out | refine qs ?_ GE790.out | refine qs ?_ GE800.out | refine qs ?_ GE810.out | refine qs ?_ GE820.out | refine qs ?_ GE830.out | refine qs ?_ GE840.out | refine qs ?_ GE850.out | refine qs ?_ GE860.out | refine qs ?_ GE867.out) | exact HB.out)) hb); have n14_ := Aside0.mk (hbox); have n15_ := bgw HB hg; have n16_ := bgw HB hg; have n17_ := bnl BK778 hg; have n18_ := bng BK778 hg; have n19_ := bnl BK779 hg; have n20_ := bng BK779 hg; have n21_ := bnl BK780 hg; have n22_ := bng BK780 hg; have n23_ := bnl BK790 hg; have n24_ := bng BK790 hg; have n25_ := bnl BK800 hg; have n26_ := bng BK800 hg; have n27_ := bnl BK810 hg; have n28_ := bng BK810 hg; have n29_ := bnl BK820 hg; have n30_ := bng BK820 hg; have n31_ := bnl BK830 hg; have n32_ := bng BK830 hg; have n33_ := bnl BK840 hg; have n34_ := bng BK840 hg; have n35_ := bnl BK850 hg; have n36_ := bng BK850 hg; have n37_ := bnl BK860 hg; have n38_ := bng BK860 hg; have n39_ := bnl BK867 hg; have n40_ := bng BK867 hg; (try clear HO871); clear BK778; clear BK779; clear BK780; clear BK790; clear BK800; clear BK810; clear BK820; clear BK830; clear BK840; clear BK850; clear BK860; clear BK867; clear HB; have HO871 := n0_; have BK778 := n1_; have BK779 := n2_; have BK780 := n3_; have BK790 := n4_; have BK800 := n5_; have BK810 := n6_; have BK820 := n7_; have BK830 := n8_; have BK840 := n9_; have BK850 := n10_; have BK860 := n11_; have BK867 := n12_; have HB := n13_; have BK878 := n14_; have GW878 := n15_; have GE878 := n16_; have NB778_878 := n17_; have NB878_778 := n18_; have NB779_878 := n19_; have NB878_779 := n20_; have NB780_878 := n21_; have NB878_780 := n22_; have NB790_878 := n23_; have NB878_790 := n24_; have NB800_878 := n25_; have NB878_800 := n26_; have NB810_878 := n27_; have NB878_810 := n28_; have NB820_878 := n29_; have NB878_820 := n30_; have NB830_878 := n31_; have NB878_830 := n32_; have NB840_878 := n33_; have NB878_840 := n34_; have NB850_878 := n35_; have NB878_850 := n36_; have NB860_878 := n37_; have NB878_860 := n38_; have NB867_878 := n39_; have NB878_867 := n40_; clear n0_ n1_ n2_ n3_ n4_ n5_ n6_ n7_ n8_ n9_ n10_ n11_ n12_ n13_ n14_ n15_ n16_ n17_ n18_ n19_ n20_ n21_ n22_ n23_ n24_ n25_ n26_ n27_ n28_ n29_ n30_ n31_ n32_ n33_ n34_ n35_ n36_ n37_ n38_ n39_ n40_; clear hb hbox hg; have hnb373 := NB878_778.out; have hnc373 := NB778_878.out; have hnb374 := NB878_779.out; have hnc374 := NB779_878.out; have hnb375 := NB878_780.out; have hnc375 := NB780_878.out; have hnb376 := NB878_790.out; have hnc376 := NB790_878.out; have hnb377 := NB878_800.out; have hnc377 := NB800_878.out; have hnb378 := NB878_810.out; have hnc378 := NB810_878.out; have hnb379 := NB878_820.out; have hnc379 := NB820_878.out; have hnb380 := NB878_830.out; have hnc380 := NB830_878.out; have hnb381 := NB878_840.out; have hnc381 := NB840_878.out; have hnb382 := NB878_850.out; have hnc382 := NB850_878.out; have hnb383 := NB878_860.out; have hnc383 := NB860_878.out; have hnb384 := NB878_867.out; have hnc384 := NB867_878.out; obtain ⟨hcz385_0, hcz385_1, hcz385_2, hcz385_3, hcz385_4⟩ := cl5 BK878.out; obtain ⟨hfz385_0, hfz385_1, hfz385_2, hfz385_3, hfz385_4⟩ := fr5 BK878.out) | (go_at_call 20; (with_reducible refine (parquetlaw01_known.calls  t880 _ A324.out).mono ?_); rintro e w386 ⟨rfl, hb⟩; have n0_ := Aside0.mk (Kd.V_below (by (with_reducible repeat (first | apply Kd.V_alloc | apply Kd.V_drewN | apply Kd.V_drew)); exact (Kd.V_mono (Kd.V_far (p := ⟨gb878, 4, none⟩) (Kd.V_far (p := ⟨gb878, 3, none⟩) (Kd.V_far (p := ⟨gb878, 2, none⟩) (Kd.V_far (p := ⟨gb878, 1, none⟩) (Kd.V_far (p := ⟨gb878, 0, none⟩) (Kd.V_mono HO871.out (fun k_ hk => (⟨hk, hk.2⟩ : _ ∧ k_ ≠ gb878))) (fun _ hk => hk.2) (.bool t872)) (fun _ hk => hk.2) (.int .u64 t873)) (fun _ hk => hk.2) (.int .u64 t874)) (fun _ hk => hk.2) (.int .u64 t875)) (fun _ hk => hk.2) (.int .u64 t876)) (fun _ h_ => h_.1))) hb); have n1_ := Aside0.mk (blk_below (g := gb778) (o := .cells #[.bool a0_0, .int .u64 a0_1, .int .u64 a0_2, .int .u64 a0_3, .int .u64 a0_4] 27 (0, 0)) (by repeat (with_reducible first | exact lb BK778.out | refine blk_far ?_ NB778_878.out _ | refine cn ?_ _ | refine cd ?_ | refine ca ?_ _)) hb); have n2_ := Aside0.mk (blk_below (g := gb779) (o := .cells #[.bool a1_0, .int .u64 a1_1, .int .u64 a1_2, .int .u64 a1_3, .int .u64 a1_4] 27 (0, 0)) (by repeat (with_reducible first | exact lb BK779.out | refine blk_far ?_ NB779_878.out _ | refine cn ?_ _ | refine cd ?_ | refine ca ?_ _)) hb); have n3_ := Aside0.mk (blk_below (g := gb780) (o := .cells #[.bool a2_0, .int .u64 a2_1, .int .u64 a2_2, .int .u64 a2_3, .int .u64 a2_4] 27 (0, 0)) (by repeat (with_reducible first | exact lb BK780.out | refine blk_far ?_ NB780_878.out _ | refine cn ?_ _ | refine cd ?_ | refine ca ?_ _)) hb); have n4_ := Aside0.mk (blk_below (g := gb790) (o := .cells #[.bool t784, .int .u64 t785, .int .u64 t786, .int .u64 t787, .int .u64 t788] 27 (0, 0)) (by repeat (with_reducible first | exact lb BK790.out | refine blk_far ?_ NB790_878.out _ | refine cn ?_ _ | refine cd ?_ | refine ca ?_ _)) hb); have n5_ := Aside0.mk (blk_below (g := gb800) (o := .cells #[.bool t794, .int .u64 t795, .int .u64 t796, .int .u64 t797, .int .u64 t798] 27 (0, 0)) (by repeat (with_reducible first | exact lb BK800.out | refine blk_far ?_ NB800_878.out _ | refine cn ?_ _ | refine cd ?_ | refine ca ?_ _)) hb); have n6_ := Aside0.mk (blk_below (g := gb810) (o := .cells #[.bool t804, .int .u64 t805, .int .u64 t806, .int .u64 t807, .int .u64 t808] 27 (0, 0)) (by repeat (with_reducible first | exact lb BK810.out | refine blk_far ?_ NB810_878.out _ | refine cn ?_ _ | refine cd ?_ | refine ca ?_ _)) hb); have n7_ := Aside0.mk (blk_below (g := gb820) (o := .cells #[.bool t814, .int .u64 t815, .int .u64 t816, .int .u64 t817, .int .u64 t818] 27 (0, 0)) (by repeat (with_reducible first | exact lb BK820.out | refine blk_far ?_ NB820_878.out _ | refine cn ?_ _ | refine cd ?_ | refine ca ?_ _)) hb); have n8_ := Aside0.mk (blk_below (g := gb830) (o := .cells #[.bool t824, .int .u64 t825, .int .u64 t826, .int .u64 t827, .int .u64 t828] 27 (0, 0)) (by repeat (with_reducible first | exact lb BK830.out | refine blk_far ?_ NB830_878.out _ | refine cn ?_ _ | refine cd ?_ | refine ca ?_ _)) hb); have n9_ := Aside0.mk (blk_below (g := gb840) (o := .cells #[.bool t834, .int .u64 t835, .int .u64 t836, .int .u64 t837, .int .u64 t838] 27 (0, 0)) (by repeat (with_reducible first | exact lb BK840.out | refine blk_far ?_ NB840_878.out _ | refine cn ?_ _ | refine cd ?_ | refine ca ?_ _)) hb); have n10_ := Aside0.mk (blk_below (g := gb850) (o := .cells #[.bool t844, .int .u64 t845, .int .u64 t846, .int .u64 t847, .int .u64 t848] 27 (0, 0)) (by repeat (with_reducible first | exact lb BK850.out | refine blk_far ?_ NB850_878.out _ | refine cn ?_ _ | refine cd ?_ | refine ca ?_ _)) hb); have n11_ := Aside0.mk (blk_below (g := gb860) (o := .cells #[.bool t854, .int .u64 t855, .int .u64 t856, .int .u64 t857, .int .u64 t858] 27 (0, 0)) (by repeat (with_reducible first | exact lb BK860.out | refine blk_far ?_ NB860_878.out _ | refine cn ?_ _ | refine cd ?_ | refine ca ?_ _)) hb); have n12_ := Aside0.mk (blk_below (g := gb867) (o := .cells #[.bool t861, .int .u64 t862, .int .u64 t863, .int .u64 t864, .int .u64 t865] 27 (0, 0)) (by repeat (with_reducible first | exact lb BK867.out | refine blk_far ?_ NB867_878.out _ | refine cn ?_ _ | refine cd ?_ | refine ca ?_ _)) hb); have n13_ := Aside0.mk (blk_below (g := gb878) (o := .cells #[.bool t872, .int .u64 t873, .int .u64 t874, .int .u64 t875, .int .u64 t876] 27 (0, 0)) (by (with_reducible repeat (first | refine cn ?_ _ | refine cd ?_ | refine ca ?_ _)); exact bp5 (lb BK878.out)) hb); have n14_ := Aside0.mk (below_step (by repeat (first | (with_reducible first | exact HB.out | apply qa | apply qn | apply qd | refine qs ?_ GE778.out | refine qs ?_ GE779.out | refine qs ?_ GE780.out | refine qs ?_ GE790.out | refine qs ?_ GE800.out | refine qs ?_ GE810.out | refine qs ?_ GE820.out | refine qs ?_ GE830.out | refine qs ?_ GE840.out | refine qs ?_ GE850.out | refine qs ?_ GE860.out | refine qs ?_ GE867.out | refine qs ?_ GE878.out) | exact HB.out)) hb); clear HO871; clear BK778; clear BK779; clear BK780; clear BK790; clear BK800; clear BK810; clear BK820; clear BK830; clear BK840; clear BK850; clear BK860; clear BK867; clear BK878; clear HB; have HO871 := n0_; have BK778 := n1_; have BK779 := n2_; have BK780 := n3_; have BK790 := n4_; have BK800 := n5_; have BK810 := n6_; have BK820 := n7_; have BK830 := n8_; have BK840 := n9_; have BK850 := n10_; have BK860 := n11_; have BK867 := n12_; have BK878 := n13_; have HB := n14_; clear n0_ n1_ n2_ n3_ n4_ n5_ n6_ n7_ n8_ n9_ n10_ n11_ n12_ n13_ n14_; (try clear hb); (try clear hb2); (try clear hk); (try clear hi)))
      go_ret
      exact ⟨by first | rfl | (simp [errW_none, errW_some] <;> rfl) | (simp [*, errW_none, errW_some] <;> rfl), by repeat (first | (with_reducible first | exact HB.out | apply qa | apply qn | apply qd | refine qs ?_ GE778.out | refine qs ?_ GE779.out | refine qs ?_ GE780.out | refine qs ?_ GE790.out | refine qs ?_ GE800.out | refine qs ?_ GE810.out | refine qs ?_ GE820.out | refine qs ?_ GE830.out | refine qs ?_ GE840.out | refine qs ?_ GE850.out | refine qs ?_ GE860.out | refine qs ?_ GE867.out | refine qs ?_ GE878.out) | exact HB.out)⟩
     rw [if_pos c257] at H
     have c257b0 : (t789 == 0) = true := beq_iff_eq.mpr c257
     have c257b1 : (t789 != 0) = false := bne_eq_false_iff_eq.mpr c257
     clear c257
     by_cases c258 : t866 = 0
     rotate_left
     ·rw [if_neg c258] at H
      have c258b0 : (t866 == 0) = false := beq_eq_false_iff_ne.mpr c258
      have c258b1 : (t866 != 0) = true := bne_iff_ne.mpr c258
      exact absurd ((Option.some.inj H).trans hr_) (by decide)
     rw [if_pos c258] at H
     have c258b0 : (t866 == 0) = true := beq_iff_eq.mpr c258
     have c258b1 : (t866 != 0) = false := bne_eq_false_iff_eq.mpr c258
     clear c258
     by_cases c259 : (t861 == t872 && ((t862 == t873 && (t863 == t874 && (t864 == t875 && (t865 == t876)))))) = true
     rotate_left
     ·rw [if_neg c259] at H
      have c259b0 : (t861 == t872 && ((t862 == t873 && (t863 == t874 && (t864 == t875 && (t865 == t876)))))) = false := by simpa using c259
      (try (have c259b1 : decide (t861 = t872 && ((t862 == t873 && (t863 == t874 && (t864 == t875 && (t865 == t876)))))) = false := by simpa using c259))
      (try (have c259b2 : (t861 == t872 && ((t862 == t873 && (t863 == t874 && (t864 == t875 && (t865 == t876)))))) = false := by simpa using c259))
      (try (have c259b3 : ¬ (t861 = t872 && ((t862 == t873 && (t863 == t874 && (t864 == t875 && (t865 == t876)))))) := by simpa using c259))
      clear c259
      exact absurd ((Option.some.inj H).trans hr_) (by decide)
     rw [if_pos c259] at H
     have c259b0 : (t861 == t872 && ((t862 == t873 && (t863 == t874 && (t864 == t875 && (t865 == t876)))))) = true := c259
     (try (have c259b1 : decide (t861 = t872 && ((t862 == t873 && (t863 == t874 && (t864 == t875 && (t865 == t876)))))) = true := by simpa using c259))
     (try (have c259b2 : (t861 == t872 && ((t862 == t873 && (t863 == t874 && (t864 == t875 && (t865 == t876)))))) = true := by simpa using c259))
     clear c259
     replace H := Option.bind_eq_some_iff.mp H
     obtain ⟨t879, A2600, H⟩ := H
     replace H : (some t879) = some r := H
     have A260 := Aside0.mk A2600
     clear A2600
     obtain rfl := Option.some.inj H
     have hnb261 := NB790_778.out
     have hnc261 := NB778_790.out
     have hnb262 := NB790_779.out
     have hnc262 := NB779_790.out
     have hnb263 := NB790_780.out
     have hnc263 := NB780_790.out
     have hnb264 := NB790_800.out
     have hnc264 := NB800_790.out
     have hnb265 := NB790_810.out
     have hnc265 := NB810_790.out
     have hnb266 := NB790_820.out
     have hnc266 := NB820_790.out
     have hnb267 := NB790_830.out
     have hnc267 := NB830_790.out
     have hnb268 := NB790_840.out
     have hnc268 := NB840_790.out
     have hnb269 := NB790_850.out
     have hnc269 := NB850_790.out
     have hnb270 := NB790_860.out
     have hnc270 := NB860_790.out
     obtain ⟨hcz271_0, hcz271_1, hcz271_2, hcz271_3, hcz271_4⟩ := cl5 BK790.out
     obtain ⟨hfz271_0, hfz271_1, hfz271_2, hfz271_3, hfz271_4⟩ := fr5 BK790.out
     have hnb272 := NB779_778.out
     have hnc272 := NB778_779.out
     have hnb273 := NB779_780.out
     have hnc273 := NB780_779.out
     have hnb274 := NB779_800.out
     have hnc274 := NB800_779.out
     have hnb275 := NB779_810.out
     have hnc275 := NB810_779.out
     have hnb276 := NB779_820.out
     have hnc276 := NB820_779.out
     have hnb277 := NB779_830.out
     have hnc277 := NB830_779.out
     have hnb278 := NB779_840.out
     have hnc278 := NB840_779.out
     have hnb279 := NB779_850.out
     have hnc279 := NB850_779.out
     have hnb280 := NB779_860.out
     have hnc280 := NB860_779.out
     obtain ⟨hcz281_0, hcz281_1, hcz281_2, hcz281_3, hcz281_4⟩ := cl5 BK779.out
     obtain ⟨hfz281_0, hfz281_1, hfz281_2, hfz281_3, hfz281_4⟩ := fr5 BK779.out
     go_wp2_with (first | ((with_reducible refine gate_callee (f := 37) rfl ?_); refine goesL_ (some 127) rfl rfl Try.func37 (by kernel_rfl) rfl #[.agg #[.bool t784, .int .u64 t785, .int .u64 t786, .int .u64 t787, .int .u64 t788], .agg #[.bool a1_0, .int .u64 a1_1, .int .u64 a1_2, .int .u64 a1_3, .int .u64 a1_4]] rfl (by (try simp only [List.map_toArray, List.map_cons, List.map_nil]); first | done | rfl | (simp only [List.length_drop, List.length_take]; rfl)) ?_; (with_reducible refine (wide_Sub.calls kj142 t784 t785 t786 t787 t788 a1_0 a1_1 a1_2 a1_3 a1_4 t861 t862 t863 t864 t865 t866 _ A254.out).mono ?_); rintro e w282 ⟨rfl, hb⟩; refine ⟨_, rfl, ?_⟩; have n0_ := bb BK778 hb; have n1_ := bb BK779 hb; have n2_ := bb BK780 hb; have n3_ := bb BK790 hb; have n4_ := bb BK800 hb; have n5_ := bb BK810 hb; have n6_ := bb BK820 hb; have n7_ := bb BK830 hb; have n8_ := bb BK840 hb; have n9_ := bb BK850 hb; have n10_ := bb BK860 hb; have n11_ := Aside0.mk (below_step (by repeat (first | (with_reducible first | exact HB.out | apply qa | apply qn | apply qd | refine qs ?_ GE778.out | refine qs ?_ GE779.out | refine qs ?_ GE780.out | refine qs ?_ GE790.out | refine qs ?_ GE800.out | refine qs ?_ GE810.out | refine qs ?_ GE820.out | refine qs ?_ GE830.out | refine qs ?_ GE840.out | refine qs ?_ GE850.out | refine qs ?_ GE860.out) | exact HB.out)) hb); clear BK778; clear BK779; clear BK780; clear BK790; clear BK800; clear BK810; clear BK820; clear BK830; clear BK840; clear BK850; clear BK860; clear HB; have BK778 := n0_; have BK779 := n1_; have BK780 := n2_; have BK790 := n3_; have BK800 := n4_; have BK810 := n5_; have BK820 := n6_; have BK830 := n7_; have BK840 := n8_; have BK850 := n9_; have BK860 := n10_; have HB := n11_; clear n0_ n1_ n2_ n3_ n4_ n5_ n6_ n7_ n8_ n9_ n10_ n11_; (try clear hb); (try clear hb2); (try clear hk); (try clear hi)) | ((with_reducible refine gate_dst (N := 23) rfl ?_); refine box_event ?hg (N := 23) ?hd (cs := #[.bool false, .int .u64 0, .int .u64 0, .int .u64 0, .int .u64 0]) (t := 27) ?hr ?_; (case hd => rfl); (case hg => rfl); (case hr => first | (go_simp; done) | (go_simp; rfl)); intro gb867 hg w283 hbox hb; have n0_ := bb BK778 hb; have n1_ := bb BK779 hb; have n2_ := bb BK780 hb; have n3_ := bb BK790 hb; have n4_ := bb BK800 hb; have n5_ := bb BK810 hb; have n6_ := bb BK820 hb; have n7_ := bb BK830 hb; have n8_ := bb BK840 hb; have n9_ := bb BK850 hb; have n10_ := bb BK860 hb; have n11_ := Aside0.mk (below_step (by repeat (first | (with_reducible first | exact HB.out | apply qa | apply qn | apply qd | refine qs ?_ GE778.out | refine qs ?_ GE779.out | refine qs ?_ GE780.out | refine qs ?_ GE790.out | refine qs ?_ GE800.out | refine qs ?_ GE810.out | refine qs ?_ GE820.out | refine qs ?_ GE830.out | refine qs ?_ GE840.out | refine qs ?_ GE850.out | refine qs ?_ GE860.out) | exact HB.out)) hb); have n12_ := Aside0.mk (hbox); have n13_ := bgw HB hg; have n14_ := bgw HB hg; have n15_ := bnl BK778 hg; have n16_ := bng BK778 hg; have n17_ := bnl BK779 hg; have n18_ := bng BK779 hg; have n19_ := bnl BK780 hg; have n20_ := bng BK780 hg; have n21_ := bnl BK790 hg; have n22_ := bng BK790 hg; have n23_ := bnl BK800 hg; have n24_ := bng BK800 hg; have n25_ := bnl BK810 hg; have n26_ := bng BK810 hg; have n27_ := bnl BK820 hg; have n28_ := bng BK820 hg; have n29_ := bnl BK830 hg; have n30_ := bng BK830 hg; have n31_ := bnl BK840 hg; have n32_ := bng BK840 hg; have n33_ := bnl BK850 hg; have n34_ := bng BK850 hg; have n35_ := bnl BK860 hg; have n36_ := bng BK860 hg; clear BK778; clear BK779; clear BK780; clear BK790; clear BK800; clear BK810; clear BK820; clear BK830; clear BK840; clear BK850; clear BK860; clear HB; have BK778 := n0_; have BK779 := n1_; have BK780 := n2_; have BK790 := n3_; have BK800 := n4_; have BK810 := n5_; have BK820 := n6_; have BK830 := n7_; have BK840 := n8_; have BK850 := n9_; have BK860 := n10_; have HB := n11_; have BK867 := n12_; have GW867 := n13_; have GE867 := n14_; have NB778_867 := n15_; have NB867_778 := n16_; have NB779_867 := n17_; have NB867_779 := n18_; have NB780_867 := n19_; have NB867_780 := n20_; have NB790_867 := n21_; have NB867_790 := n22_; have NB800_867 := n23_; have NB867_800 := n24_; have NB810_867 := n25_; have NB867_810 := n26_; have NB820_867 := n27_; have NB867_820 := n28_; have NB830_867 := n29_; have NB867_830 := n30_; have NB840_867 := n31_; have NB867_840 := n32_; have NB850_867 := n33_; have NB867_850 := n34_; have NB860_867 := n35_; have NB867_860 := n36_; clear n0_ n1_ n2_ n3_ n4_ n5_ n6_ n7_ n8_ n9_ n10_ n11_ n12_ n13_ n14_ n15_ n16_ n17_ n18_ n19_ n20_ n21_ n22_ n23_ n24_ n25_ n26_ n27_ n28_ n29_ n30_ n31_ n32_ n33_ n34_ n35_ n36_; clear hb hbox hg; have hnb284 := NB867_778.out; have hnc284 := NB778_867.out; have hnb285 := NB867_779.out; have hnc285 := NB779_867.out; have hnb286 := NB867_780.out; have hnc286 := NB780_867.out; have hnb287 := NB867_790.out; have hnc287 := NB790_867.out; have hnb288 := NB867_800.out; have hnc288 := NB800_867.out; have hnb289 := NB867_810.out; have hnc289 := NB810_867.out; have hnb290 := NB867_820.out; have hnc290 := NB820_867.out; have hnb291 := NB867_830.out; have hnc291 := NB830_867.out; have hnb292 := NB867_840.out; have hnc292 := NB840_867.out; have hnb293 := NB867_850.out; have hnc293 := NB850_867.out; have hnb294 := NB867_860.out; have hnc294 := NB860_867.out; obtain ⟨hcz295_0, hcz295_1, hcz295_2, hcz295_3, hcz295_4⟩ := cl5 BK867.out; obtain ⟨hfz295_0, hfz295_1, hfz295_2, hfz295_3, hfz295_4⟩ := fr5 BK867.out; have hnb296 := NB778_780.out; have hnc296 := NB780_778.out; have hnb297 := NB778_800.out; have hnc297 := NB800_778.out; have hnb298 := NB778_810.out; have hnc298 := NB810_778.out; have hnb299 := NB778_820.out; have hnc299 := NB820_778.out; have hnb300 := NB778_830.out; have hnc300 := NB830_778.out; have hnb301 := NB778_840.out; have hnc301 := NB840_778.out; have hnb302 := NB778_850.out; have hnc302 := NB850_778.out; have hnb303 := NB778_860.out; have hnc303 := NB860_778.out; obtain ⟨hcz304_0, hcz304_1, hcz304_2, hcz304_3, hcz304_4⟩ := cl5 BK778.out; obtain ⟨hfz304_0, hfz304_1, hfz304_2, hfz304_3, hfz304_4⟩ := fr5 BK778.out) | ((with_reducible refine gate_callee (f := 24) rfl ?_); refine goesL_ (some 132) rfl rfl Try.func24 (by kernel_rfl) rfl #[.agg #[.bool a0_0, .int .u64 a0_1, .int .u64 a0_2, .int .u64 a0_3, .int .u64 a0_4]] rfl (by (try simp only [List.map_toArray, List.map_cons, List.map_nil]); first | done | rfl | (simp only [List.length_drop, List.length_take]; rfl)) ?_; (with_reducible refine (parquetref01_Of.calls kj142 a0_0 a0_1 a0_2 a0_3 a0_4 t868 t869 _ A255.out).mono ?_); rintro e w305 ⟨v870, rfl, ho0, hb⟩; refine ⟨_, rfl, ?_⟩; have n0_ := Aside0.mk (Kd.V_lower (Kd.V_mono (ok' := fun k_ => k_ ≠ gb778 ∧ k_ ≠ gb779 ∧ k_ ≠ gb780 ∧ k_ ≠ gb790 ∧ k_ ≠ gb800 ∧ k_ ≠ gb810 ∧ k_ ≠ gb820 ∧ k_ ≠ gb830 ∧ k_ ≠ gb840 ∧ k_ ≠ gb850 ∧ k_ ≠ gb860 ∧ k_ ≠ gb867) ho0 (fun k_ hk_ => ⟨(Kd.freshB (g := gb778) (o := .cells #[.bool a0_0, .int .u64 a0_1, .int .u64 a0_2, .int .u64 a0_3, .int .u64 a0_4] 27 (0, 0)) (by repeat (with_reducible first | exact lb BK778.out | refine blk_far ?_ NB778_867.out _ | refine cn ?_ _ | refine cd ?_ | refine ca ?_ _)) k_ hk_), (Kd.freshB (g := gb779) (o := .cells #[.bool a1_0, .int .u64 a1_1, .int .u64 a1_2, .int .u64 a1_3, .int .u64 a1_4] 27 (0, 0)) (by repeat (with_reducible first | exact lb BK779.out | refine blk_far ?_ NB779_867.out _ | refine cn ?_ _ | refine cd ?_ | refine ca ?_ _)) k_ hk_), (Kd.freshB (g := gb780) (o := .cells #[.bool a2_0, .int .u64 a2_1, .int .u64 a2_2, .int .u64 a2_3, .int .u64 a2_4] 27 (0, 0)) (by repeat (with_reducible first | exact lb BK780.out | refine blk_far ?_ NB780_867.out _ | refine cn ?_ _ | refine cd ?_ | refine ca ?_ _)) k_ hk_), (Kd.freshB (g := gb790) (o := .cells #[.bool t784, .int .u64 t785, .int .u64 t786, .int .u64 t787, .int .u64 t788] 27 (0, 0)) (by repeat (with_reducible first | exact lb BK790.out | refine blk_far ?_ NB790_867.out _ | refine cn ?_ _ | refine cd ?_ | refine ca ?_ _)) k_ hk_), (Kd.freshB (g := gb800) (o := .cells #[.bool t794, .int .u64 t795, .int .u64 t796, .int .u64 t797, .int .u64 t798] 27 (0, 0)) (by repeat (with_reducible first | exact lb BK800.out | refine blk_far ?_ NB800_867.out _ | refine cn ?_ _ | refine cd ?_ | refine ca ?_ _)) k_ hk_), (Kd.freshB (g := gb810) (o := .cells #[.bool t804, .int .u64 t805, .int .u64 t806, .int .u64 t807, .int .u64 t808] 27 (0, 0)) (by repeat (with_reducible first | exact lb BK810.out | refine blk_far ?_ NB810_867.out _ | refine cn ?_ _ | refine cd ?_ | refine ca ?_ _)) k_ hk_), (Kd.freshB (g := gb820) (o := .cells #[.bool t814, .int .u64 t815, .int .u64 t816, .int .u64 t817, .int .u64 t818] 27 (0, 0)) (by repeat (with_reducible first | exact lb BK820.out | refine blk_far ?_ NB820_867.out _ | refine cn ?_ _ | refine cd ?_ | refine ca ?_ _)) k_ hk_), (Kd.freshB (g := gb830) (o := .cells #[.bool t824, .int .u64 t825, .int .u64 t826, .int .u64 t827, .int .u64 t828] 27 (0, 0)) (by repeat (with_reducible first | exact lb BK830.out | refine blk_far ?_ NB830_867.out _ | refine cn ?_ _ | refine cd ?_ | refine ca ?_ _)) k_ hk_), (Kd.freshB (g := gb840) (o := .cells #[.bool t834, .int .u64 t835, .int .u64 t836, .int .u64 t837, .int .u64 t838] 27 (0, 0)) (by repeat (with_reducible first | exact lb BK840.out | refine blk_far ?_ NB840_867.out _ | refine cn ?_ _ | refine cd ?_ | refine ca ?_ _)) k_ hk_), (Kd.freshB (g := gb850) (o := .cells #[.bool t844, .int .u64 t845, .int .u64 t846, .int .u64 t847, .int .u64 t848] 27 (0, 0)) (by repeat (with_reducible first | exact lb BK850.out | refine blk_far ?_ NB850_867.out _ | refine cn ?_ _ | refine cd ?_ | refine ca ?_ _)) k_ hk_), (Kd.freshB (g := gb860) (o := .cells #[.bool t854, .int .u64 t855, .int .u64 t856, .int .u64 t857, .int .u64 t858] 27 (0, 0)) (by repeat (with_reducible first | exact lb BK860.out | refine blk_far ?_ NB860_867.out _ | refine cn ?_ _ | refine cd ?_ | refine ca ?_ _)) k_ hk_), (Kd.freshB (g := gb867) (o := .cells #[.bool t861, .int .u64 t862, .int .u64 t863, .int .u64 t864, .int .u64 t865] 27 (0, 0)) (by (with_reducible repeat (first | refine cn ?_ _ | refine cd ?_ | refine ca ?_ _)); exact bp5 (lb BK867.out)) k_ hk_)⟩)) (below_size (by repeat (first | (with_reducible first | exact HB.out | apply qa | apply qn | apply qd | refine qs ?_ GE778.out | refine qs ?_ GE779.out | refine qs ?_ GE780.out | refine qs ?_ GE790.out | refine qs ?_ GE800.out | refine qs ?_ GE810.out | refine qs ?_ GE820.out | refine qs ?_ GE830.out | refine qs ?_ GE840.out | refine qs ?_ GE850.out | refine qs ?_ GE860.out | refine qs ?_ GE867.out) | exact HB.out)))); have n1_ := Aside0.mk (blk_below (g := gb778) (o := .cells #[.bool a0_0, .int .u64 a0_1, .int .u64 a0_2, .int .u64 a0_3, .int .u64 a0_4] 27 (0, 0)) (by repeat (with_reducible first | exact lb BK778.out | refine blk_far ?_ NB778_867.out _ | refine cn ?_ _ | refine cd ?_ | refine ca ?_ _)) hb); have n2_ := Aside0.mk (blk_below (g := gb779) (o := .cells #[.bool a1_0, .int .u64 a1_1, .int .u64 a1_2, .int .u64 a1_3, .int .u64 a1_4] 27 (0, 0)) (by repeat (with_reducible first | exact lb BK779.out | refine blk_far ?_ NB779_867.out _ | refine cn ?_ _ | refine cd ?_ | refine ca ?_ _)) hb); have n3_ := Aside0.mk (blk_below (g := gb780) (o := .cells #[.bool a2_0, .int .u64 a2_1, .int .u64 a2_2, .int .u64 a2_3, .int .u64 a2_4] 27 (0, 0)) (by repeat (with_reducible first | exact lb BK780.out | refine blk_far ?_ NB780_867.out _ | refine cn ?_ _ | refine cd ?_ | refine ca ?_ _)) hb); have n4_ := Aside0.mk (blk_below (g := gb790) (o := .cells #[.bool t784, .int .u64 t785, .int .u64 t786, .int .u64 t787, .int .u64 t788] 27 (0, 0)) (by repeat (with_reducible first | exact lb BK790.out | refine blk_far ?_ NB790_867.out _ | refine cn ?_ _ | refine cd ?_ | refine ca ?_ _)) hb); have n5_ := Aside0.mk (blk_below (g := gb800) (o := .cells #[.bool t794, .int .u64 t795, .int .u64 t796, .int .u64 t797, .int .u64 t798] 27 (0, 0)) (by repeat (with_reducible first | exact lb BK800.out | refine blk_far ?_ NB800_867.out _ | refine cn ?_ _ | refine cd ?_ | refine ca ?_ _)) hb); have n6_ := Aside0.mk (blk_below (g := gb810) (o := .cells #[.bool t804, .int .u64 t805, .int .u64 t806, .int .u64 t807, .int .u64 t808] 27 (0, 0)) (by repeat (with_reducible first | exact lb BK810.out | refine blk_far ?_ NB810_867.out _ | refine cn ?_ _ | refine cd ?_ | refine ca ?_ _)) hb); have n7_ := Aside0.mk (blk_below (g := gb820) (o := .cells #[.bool t814, .int .u64 t815, .int .u64 t816, .int .u64 t817, .int .u64 t818] 27 (0, 0)) (by repeat (with_reducible first | exact lb BK820.out | refine blk_far ?_ NB820_867.out _ | refine cn ?_ _ | refine cd ?_ | refine ca ?_ _)) hb); have n8_ := Aside0.mk (blk_below (g := gb830) (o := .cells #[.bool t824, .int .u64 t825, .int .u64 t826, .int .u64 t827, .int .u64 t828] 27 (0, 0)) (by repeat (with_reducible first | exact lb BK830.out | refine blk_far ?_ NB830_867.out _ | refine cn ?_ _ | refine cd ?_ | refine ca ?_ _)) hb); have n9_ := Aside0.mk (blk_below (g := gb840) (o := .cells #[.bool t834, .int .u64 t835, .int .u64 t836, .int .u64 t837, .int .u64 t838] 27 (0, 0)) (by repeat (with_reducible first | exact lb BK840.out | refine blk_far ?_ NB840_867.out _ | refine cn ?_ _ | refine cd ?_ | refine ca ?_ _)) hb); have n10_ := Aside0.mk (blk_below (g := gb850) (o := .cells #[.bool t844, .int .u64 t845, .int .u64 t846, .int .u64 t847, .int .u64 t848] 27 (0, 0)) (by repeat (with_reducible first | exact lb BK850.out | refine blk_far ?_ NB850_867.out _ | refine cn ?_ _ | refine cd ?_ | refine ca ?_ _)) hb); have n11_ := Aside0.mk (blk_below (g := gb860) (o := .cells #[.bool t854, .int .u64 t855, .int .u64 t856, .int .u64 t857, .int .u64 t858] 27 (0, 0)) (by repeat (with_reducible first | exact lb BK860.out | refine blk_far ?_ NB860_867.out _ | refine cn ?_ _ | refine cd ?_ | refine ca ?_ _)) hb); have n12_ := Aside0.mk (blk_below (g := gb867) (o := .cells #[.bool t861, .int .u64 t862, .int .u64 t863, .int .u64 t864, .int .u64 t865] 27 (0, 0)) (by (with_reducible repeat (first | refine cn ?_ _ | refine cd ?_ | refine ca ?_ _)); exact bp5 (lb BK867.out)) hb); have n13_ := Aside0.mk (below_step (by repeat (first | (with_reducible first | exact HB.out | apply qa | apply qn | apply qd | refine qs ?_ GE778.out | refine qs ?_ GE779.out | refine qs ?_ GE780.out | refine qs ?_ GE790.out | refine qs ?_ GE800.out | refine qs ?_ GE810.out | refine qs ?_ GE820.out | refine qs ?_ GE830.out | refine qs ?_ GE840.out | refine qs ?_ GE850.out | refine qs ?_ GE860.out | refine qs ?_ GE867.out) | exact HB.out)) hb); clear BK778; clear BK779; clear BK780; clear BK790; clear BK800; clear BK810; clear BK820; clear BK830; clear BK840; clear BK850; clear BK860; clear BK867; clear HB; have HO871 := n0_; have BK778 := n1_; have BK779 := n2_; have BK780 := n3_; have BK790 := n4_; have BK800 := n5_; have BK810 := n6_; have BK820 := n7_; have BK830 := n8_; have BK840 := n9_; have BK850 := n10_; have BK860 := n11_; have BK867 := n12_; have HB := n13_; clear n0_ n1_ n2_ n3_ n4_ n5_ n6_ n7_ n8_ n9_ n10_ n11_ n12_ n13_; (try clear hb); (try clear hb2); (try clear hk); (try clear hi); (try clear ho0); obtain ⟨Ao306, co306, eo306⟩ := Kd.V_slice HO871.out; subst eo306) | ((with_reducible refine gate_callee (f := 34) rfl ?_); refine goesL_ (some 133) rfl rfl Try.func34 (by kernel_rfl) rfl #[.agg #[.bool t868, .slice Ao306 t869.length co306]] rfl (by (try simp only [List.map_toArray, List.map_cons, List.map_nil]); first | done | rfl | (simp only [List.length_drop, List.length_take]; rfl)) ?_; (with_reducible refine (parquetref01_Num_Wide.calls t868 _ _ t869 t872 t873 t874 t875 t876 t877 _ ?side1 ?side2 A256.out).mono ?_); (case side1 => repeat (first | exact (Kd.V_reads' HO871.out).2.2 | (with_reducible refine Kd.C_alloc ?_ _) | (with_reducible refine Kd.C_drewN ?_ _) | (with_reducible refine Kd.C_drew ?_))); (case side2 => exact (Kd.V_reads' HO871.out).2.1); rintro e w307 ⟨rfl, hb⟩; refine ⟨_, rfl, ?_⟩; have n0_ := Aside0.mk (Kd.V_below (by (with_reducible repeat (first | apply Kd.V_alloc | apply Kd.V_drewN | apply Kd.V_drew)); exact HO871.out) hb); have n1_ := bb BK778 hb; have n2_ := bb BK779 hb; have n3_ := bb BK780 hb; have n4_ := bb BK790 hb; have n5_ := bb BK800 hb; have n6_ := bb BK810 hb; have n7_ := bb BK820 hb; have n8_ := bb BK830 hb; have n9_ := bb BK840 hb; have n10_ := bb BK850 hb; have n11_ := bb BK860 hb; have n12_ := bb BK867 hb; have n13_ := Aside0.mk (below_step (by repeat (first | (with_reducible first | exact HB.out | apply qa | apply qn | apply qd | refine qs ?_ GE778.out | refine qs ?_ GE779.out | refine qs ?_ GE780.out | refine qs ?_ GE790.out | refine qs ?_ GE800.out | refine qs ?_ GE810.out | refine qs ?_ GE820.out | refine qs ?_ GE830.out | refine qs ?_ GE840.out | refine qs ?_ GE850.out | refine qs ?_ GE860.out | refine qs ?_ GE867.out) | exact HB.out)) hb); (try clear HO871); clear BK778; clear BK779; clear BK780; clear BK790; clear BK800; clear BK810; clear BK820; clear BK830; clear BK840; clear BK850; clear BK860; clear BK867; clear HB; have HO871 := n0_; have BK778 := n1_; have BK779 := n2_; have BK780 := n3_; have BK790 := n4_; have BK800 := n5_; have BK810 := n6_; have BK820 := n7_; have BK830 := n8_; have BK840 := n9_; have BK850 := n10_; have BK860 := n11_; have BK867 := n12_; have HB := n13_; clear n0_ n1_ n2_ n3_ n4_ n5_ n6_ n7_ n8_ n9_ n10_ n11_ n12_ n13_; (try clear hb); (try clear hb2); (try clear hk); (try clear hi)) | ((with_reducible refine gate_dst (N := 25) rfl ?_); refine box_event ?hg (N := 25) ?hd (cs := #[.bool false, .int .u64 0, .int .u64 0, .int .u64 0, .int .u64 0]) (t := 27) ?hr ?_; (case hd => rfl); (case hg => rfl); (case hr => first | (go_simp; done) | (go_simp; rfl)); intro gb878 hg w308 hbox hb; have n0_ := Aside0.mk (Kd.V_below (Kd.V_elderB (by (with_reducible repeat (first | apply Kd.V_alloc | apply Kd.V_drewN | apply Kd.V_drew)); exact HO871.out) gb878 (Nat.le_of_eq hg.symm)) hb); have n1_ := bb BK778 hb; have n2_ := bb BK779 hb; have n3_ := bb BK780 hb; have n4_ := bb BK790 hb; have n5_ := bb BK800 hb; have n6_ := bb BK810 hb; have n7_ := bb BK820 hb; have n8_ := bb BK830 hb; have n9_ := bb BK840 hb; have n10_ := bb BK850 hb; have n11_ := bb BK860 hb; have n12_ := bb BK867 hb; have n13_ := Aside0.mk (below_step (by repeat (first | (with_reducible first | exact HB.out | apply qa | apply qn | apply qd | refine qs ?_ GE778.out | refine qs ?_ GE779.out | refine qs ?_ GE780.out | refine qs ?_ GE790.out | refine qs ?_ GE800.out | refine qs ?_ GE810.out | refine qs ?_ GE820.out | refine qs ?_ GE830.out | refine qs ?_ GE840.out | refine qs ?_ GE850.out | refine qs ?_ GE860.out | refine qs ?_ GE867.out) | exact HB.out)) hb); have n14_ := Aside0.mk (hbox); have n15_ := bgw HB hg; have n16_ := bgw HB hg; have n17_ := bnl BK778 hg; have n18_ := bng BK778 hg; have n19_ := bnl BK779 hg; have n20_ := bng BK779 hg; have n21_ := bnl BK780 hg; have n22_ := bng BK780 hg; have n23_ := bnl BK790 hg; have n24_ := bng BK790 hg; have n25_ := bnl BK800 hg; have n26_ := bng BK800 hg; have n27_ := bnl BK810 hg; have n28_ := bng BK810 hg; have n29_ := bnl BK820 hg; have n30_ := bng BK820 hg; have n31_ := bnl BK830 hg; have n32_ := bng BK830 hg; have n33_ := bnl BK840 hg; have n34_ := bng BK840 hg; have n35_ := bnl BK850 hg; have n36_ := bng BK850 hg; have n37_ := bnl BK860 hg; have n38_ := bng BK860 hg; have n39_ := bnl BK867 hg; have n40_ := bng BK867 hg; (try clear HO871); clear BK778; clear BK779; clear BK780; clear BK790; clear BK800; clear BK810; clear BK820; clear BK830; clear BK840; clear BK850; clear BK860; clear BK867; clear HB; have HO871 := n0_; have BK778 := n1_; have BK779 := n2_; have BK780 := n3_; have BK790 := n4_; have BK800 := n5_; have BK810 := n6_; have BK820 := n7_; have BK830 := n8_; have BK840 := n9_; have BK850 := n10_; have BK860 := n11_; have BK867 := n12_; have HB := n13_; have BK878 := n14_; have GW878 := n15_; have GE878 := n16_; have NB778_878 := n17_; have NB878_778 := n18_; have NB779_878 := n19_; have NB878_779 := n20_; have NB780_878 := n21_; have NB878_780 := n22_; have NB790_878 := n23_; have NB878_790 := n24_; have NB800_878 := n25_; have NB878_800 := n26_; have NB810_878 := n27_; have NB878_810 := n28_; have NB820_878 := n29_; have NB878_820 := n30_; have NB830_878 := n31_; have NB878_830 := n32_; have NB840_878 := n33_; have NB878_840 := n34_; have NB850_878 := n35_; have NB878_850 := n36_; have NB860_878 := n37_; have NB878_860 := n38_; have NB867_878 := n39_; have NB878_867 := n40_; clear n0_ n1_ n2_ n3_ n4_ n5_ n6_ n7_ n8_ n9_ n10_ n11_ n12_ n13_ n14_ n15_ n16_ n17_ n18_ n19_ n20_ n21_ n22_ n23_ n24_ n25_ n26_ n27_ n28_ n29_ n30_ n31_ n32_ n33_ n34_ n35_ n36_ n37_ n38_ n39_ n40_; clear hb hbox hg; have hnb309 := NB878_778.out; have hnc309 := NB778_878.out; have hnb310 := NB878_779.out; have hnc310 := NB779_878.out; have hnb311 := NB878_780.out; have hnc311 := NB780_878.out; have hnb312 := NB878_790.out; have hnc312 := NB790_878.out; have hnb313 := NB878_800.out; have hnc313 := NB800_878.out; have hnb314 := NB878_810.out; have hnc314 := NB810_878.out; have hnb315 := NB878_820.out; have hnc315 := NB820_878.out; have hnb316 := NB878_830.out; have hnc316 := NB830_878.out; have hnb317 := NB878_840.out; have hnc317 := NB840_878.out; have hnb318 := NB878_850.out; have hnc318 := NB850_878.out; have hnb319 := NB878_860.out; have hnc319 := NB860_878.out; have hnb320 := NB878_867.out; have hnc320 := NB867_878.out; obtain ⟨hcz321_0, hcz321_1, hcz321_2, hcz321_3, hcz321_4⟩ := cl5 BK878.out; obtain ⟨hfz321_0, hfz321_1, hfz321_2, hfz321_3, hfz321_4⟩ := fr5 BK878.out; obtain ⟨hcz322_0, hcz322_1, hcz322_2, hcz322_3, hcz322_4⟩ := cl5 BK867.out; obtain ⟨hfz322_0, hfz322_1, hfz322_2, hfz322_3, hfz322_4⟩ := fr5 BK867.out) | (go_at_call 20; (with_reducible refine (parquetlaw01_known.calls  t879 _ A260.out).mono ?_); rintro e w323 ⟨rfl, hb⟩; have n0_ := Aside0.mk (Kd.V_below (by (with_reducible repeat (first | apply Kd.V_alloc | apply Kd.V_drewN | apply Kd.V_drew)); exact (Kd.V_mono (Kd.V_far (p := ⟨gb878, 4, none⟩) (Kd.V_far (p := ⟨gb878, 3, none⟩) (Kd.V_far (p := ⟨gb878, 2, none⟩) (Kd.V_far (p := ⟨gb878, 1, none⟩) (Kd.V_far (p := ⟨gb878, 0, none⟩) (Kd.V_mono HO871.out (fun k_ hk => (⟨hk, hk.2⟩ : _ ∧ k_ ≠ gb878))) (fun _ hk => hk.2) (.bool t872)) (fun _ hk => hk.2) (.int .u64 t873)) (fun _ hk => hk.2) (.int .u64 t874)) (fun _ hk => hk.2) (.int .u64 t875)) (fun _ hk => hk.2) (.int .u64 t876)) (fun _ h_ => h_.1))) hb); have n1_ := Aside0.mk (blk_below (g := gb778) (o := .cells #[.bool a0_0, .int .u64 a0_1, .int .u64 a0_2, .int .u64 a0_3, .int .u64 a0_4] 27 (0, 0)) (by repeat (with_reducible first | exact lb BK778.out | refine blk_far ?_ NB778_878.out _ | refine cn ?_ _ | refine cd ?_ | refine ca ?_ _)) hb); have n2_ := Aside0.mk (blk_below (g := gb779) (o := .cells #[.bool a1_0, .int .u64 a1_1, .int .u64 a1_2, .int .u64 a1_3, .int .u64 a1_4] 27 (0, 0)) (by repeat (with_reducible first | exact lb BK779.out | refine blk_far ?_ NB779_878.out _ | refine cn ?_ _ | refine cd ?_ | refine ca ?_ _)) hb); have n3_ := Aside0.mk (blk_below (g := gb780) (o := .cells #[.bool a2_0, .int .u64 a2_1, .int .u64 a2_2, .int .u64 a2_3, .int .u64 a2_4] 27 (0, 0)) (by repeat (with_reducible first | exact lb BK780.out | refine blk_far ?_ NB780_878.out _ | refine cn ?_ _ | refine cd ?_ | refine ca ?_ _)) hb); have n4_ := Aside0.mk (blk_below (g := gb790) (o := .cells #[.bool t784, .int .u64 t785, .int .u64 t786, .int .u64 t787, .int .u64 t788] 27 (0, 0)) (by repeat (with_reducible first | exact lb BK790.out | refine blk_far ?_ NB790_878.out _ | refine cn ?_ _ | refine cd ?_ | refine ca ?_ _)) hb); have n5_ := Aside0.mk (blk_below (g := gb800) (o := .cells #[.bool t794, .int .u64 t795, .int .u64 t796, .int .u64 t797, .int .u64 t798] 27 (0, 0)) (by repeat (with_reducible first | exact lb BK800.out | refine blk_far ?_ NB800_878.out _ | refine cn ?_ _ | refine cd ?_ | refine ca ?_ _)) hb); have n6_ := Aside0.mk (blk_below (g := gb810) (o := .cells #[.bool t804, .int .u64 t805, .int .u64 t806, .int .u64 t807, .int .u64 t808] 27 (0, 0)) (by repeat (with_reducible first | exact lb BK810.out | refine blk_far ?_ NB810_878.out _ | refine cn ?_ _ | refine cd ?_ | refine ca ?_ _)) hb); have n7_ := Aside0.mk (blk_below (g := gb820) (o := .cells #[.bool t814, .int .u64 t815, .int .u64 t816, .int .u64 t817, .int .u64 t818] 27 (0, 0)) (by repeat (with_reducible first | exact lb BK820.out | refine blk_far ?_ NB820_878.out _ | refine cn ?_ _ | refine cd ?_ | refine ca ?_ _)) hb); have n8_ := Aside0.mk (blk_below (g := gb830) (o := .cells #[.bool t824, .int .u64 t825, .int .u64 t826, .int .u64 t827, .int .u64 t828] 27 (0, 0)) (by repeat (with_reducible first | exact lb BK830.out | refine blk_far ?_ NB830_878.out _ | refine cn ?_ _ | refine cd ?_ | refine ca ?_ _)) hb); have n9_ := Aside0.mk (blk_below (g := gb840) (o := .cells #[.bool t834, .int .u64 t835, .int .u64 t836, .int .u64 t837, .int .u64 t838] 27 (0, 0)) (by repeat (with_reducible first | exact lb BK840.out | refine blk_far ?_ NB840_878.out _ | refine cn ?_ _ | refine cd ?_ | refine ca ?_ _)) hb); have n10_ := Aside0.mk (blk_below (g := gb850) (o := .cells #[.bool t844, .int .u64 t845, .int .u64 t846, .int .u64 t847, .int .u64 t848] 27 (0, 0)) (by repeat (with_reducible first | exact lb BK850.out | refine blk_far ?_ NB850_878.out _ | refine cn ?_ _ | refine cd ?_ | refine ca ?_ _)) hb); have n11_ := Aside0.mk (blk_below (g := gb860) (o := .cells #[.bool t854, .int .u64 t855, .int .u64 t856, .int .u64 t857, .int .u64 t858] 27 (0, 0)) (by repeat (with_reducible first | exact lb BK860.out | refine blk_far ?_ NB860_878.out _ | refine cn ?_ _ | refine cd ?_ | refine ca ?_ _)) hb); have n12_ := Aside0.mk (blk_below (g := gb867) (o := .cells #[.bool t861, .int .u64 t862, .int .u64 t863, .int .u64 t864, .int .u64 t865] 27 (0, 0)) (by repeat (with_reducible first | exact lb BK867.out | refine blk_far ?_ NB867_878.out _ | refine cn ?_ _ | refine cd ?_ | refine ca ?_ _)) hb); have n13_ := Aside0.mk (blk_below (g := gb878) (o := .cells #[.bool t872, .int .u64 t873, .int .u64 t874, .int .u64 t875, .int .u64 t876] 27 (0, 0)) (by (with_reducible repeat (first | refine cn ?_ _ | refine cd ?_ | refine ca ?_ _)); exact bp5 (lb BK878.out)) hb); have n14_ := Aside0.mk (below_step (by repeat (first | (with_reducible first | exact HB.out | apply qa | apply qn | apply qd | refine qs ?_ GE778.out | refine qs ?_ GE779.out | refine qs ?_ GE780.out | refine qs ?_ GE790.out | refine qs ?_ GE800.out | refine qs ?_ GE810.out | refine qs ?_ GE820.out | refine qs ?_ GE830.out | refine qs ?_ GE840.out | refine qs ?_ GE850.out | refine qs ?_ GE860.out | refine qs ?_ GE867.out | refine qs ?_ GE878.out) | exact HB.out)) hb); clear HO871; clear BK778; clear BK779; clear BK780; clear BK790; clear BK800; clear BK810; clear BK820; clear BK830; clear BK840; clear BK850; clear BK860; clear BK867; clear BK878; clear HB; have HO871 := n0_; have BK778 := n1_; have BK779 := n2_; have BK780 := n3_; have BK790 := n4_; have BK800 := n5_; have BK810 := n6_; have BK820 := n7_; have BK830 := n8_; have BK840 := n9_; have BK850 := n10_; have BK860 := n11_; have BK867 := n12_; have BK878 := n13_; have HB := n14_; clear n0_ n1_ n2_ n3_ n4_ n5_ n6_ n7_ n8_ n9_ n10_ n11_ n12_ n13_ n14_; (try clear hb); (try clear hb2); (try clear hk); (try clear hi)))
     go_ret
     exact ⟨by first | rfl | (simp [errW_none, errW_some] <;> rfl) | (simp [*, errW_none, errW_some] <;> rfl), by repeat (first | (with_reducible first | exact HB.out | apply qa | apply qn | apply qd | refine qs ?_ GE778.out | refine qs ?_ GE779.out | refine qs ?_ GE780.out | refine qs ?_ GE790.out | refine qs ?_ GE800.out | refine qs ?_ GE810.out | refine qs ?_ GE820.out | refine qs ?_ GE830.out | refine qs ?_ GE840.out | refine qs ?_ GE850.out | refine qs ?_ GE860.out | refine qs ?_ GE867.out | refine qs ?_ GE878.out) | exact HB.out)⟩
end Go.Proofs.Ytmpbbodafenonaa.MT

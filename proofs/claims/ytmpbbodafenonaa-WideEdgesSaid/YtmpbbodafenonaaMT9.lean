/- A function of the given program told as a Lean function, its contract proved; no condition. -/
import Derived.Test.YtmpbbodafenonaaMT0
import Derived.Test.YtmpbbodafenonaaMT3
import Derived.Test.YtmpbbodafenonaaMT4
import Derived.Test.YtmpbbodafenonaaMT5
import Derived.Test.YtmpbbodafenonaaMT7
import Derived.Test.YtmpbbodafenonaaMT8
namespace Go.Proofs.Ytmpbbodafenonaa.MT
open Go.RowKit Go.Proofs.YtmpbbodafenonaaW.PrintWords Go.Proofs.YtmpbbodafenonaaW.PrintLast Go.Proofs.YtmpbbodafenonaaW.PrintMore
attribute [local go_sem] max2_int min2_int max_two min_two max_three min_three max_four min_four   -- for this text's walks alone
set_option linter.unusedVariables false
set_option linter.unusedSimpArgs false
attribute [local go_sem high] eqA27
/-! ### parquetlaw01_known: given 20 -/
def parquetlaw01_known1.f (k : Nat)  : Option (Bool) := (wide_Of.f 4611686018427387904).bind fun bt240 => ((wide_Of.f 4).bind fun bt245 => ((wide_Mul.f k (([(⟨bt240.1, (⟨bt240.2.1, bt240.2.2.1, bt240.2.2.2.1, bt240.2.2.2.2⟩ : S25)⟩ : S27), (⟨bt245.1, (⟨bt245.2.1, bt245.2.2.1, bt245.2.2.2.1, bt245.2.2.2.2⟩ : S25)⟩ : S27)] : List (S27)))).bind fun bt253 => ((wide_Of.f (-7)).bind fun bt260 => ((wide_Of.f 2).bind fun bt265 => ((wide_DivMod.f k bt260.1 bt260.2.1 bt260.2.2.1 bt260.2.2.2.1 bt260.2.2.2.2 bt265.1 bt265.2.1 bt265.2.2.1 bt265.2.2.2.1 bt265.2.2.2.2).bind fun bt270 => ((wide_Of.f (-7)).bind fun bt283 => ((wide_Of.f (-2)).bind fun bt288 => ((wide_DivMod.f k bt283.1 bt283.2.1 bt283.2.2.1 bt283.2.2.2.1 bt283.2.2.2.2 bt288.1 bt288.2.1 bt288.2.2.1 bt288.2.2.2.1 bt288.2.2.2.2).bind fun bt293 => ((wide_Parse.f (⟨#[49, 56, 52, 52, 54, 55, 52, 52, 48, 55, 51, 55, 48, 57, 53, 53, 49, 54, 49, 54]⟩ : ByteArray)).bind fun bt306 => (if bt253.2.2.2.2.2 = 0 then (if (!bt253.1 && ((bt253.2.1 == 0 && (bt253.2.2.1 == 1 && (bt253.2.2.2.1 == 0 && (bt253.2.2.2.2.1 == 0)))))) = true then ((wide_Of.f (-4)).bind fun bt313 => (if (bt270.1 == bt313.1 && ((bt270.2.1 == bt313.2.1 && (bt270.2.2.1 == bt313.2.2.1 && (bt270.2.2.2.1 == bt313.2.2.2.1 && (bt270.2.2.2.2.1 == bt313.2.2.2.2)))))) = true then ((wide_Of.f 1).bind fun bt318 => (if (bt270.2.2.2.2.2.1 == bt318.1 && ((bt270.2.2.2.2.2.2.1 == bt318.2.1 && (bt270.2.2.2.2.2.2.2.1 == bt318.2.2.1 && (bt270.2.2.2.2.2.2.2.2.1 == bt318.2.2.2.1 && (bt270.2.2.2.2.2.2.2.2.2.1 == bt318.2.2.2.2)))))) = true then (if bt270.2.2.2.2.2.2.2.2.2.2 = 0 then ((wide_Of.f 4).bind fun bt323 => (if (bt293.1 == bt323.1 && ((bt293.2.1 == bt323.2.1 && (bt293.2.2.1 == bt323.2.2.1 && (bt293.2.2.2.1 == bt323.2.2.2.1 && (bt293.2.2.2.2.1 == bt323.2.2.2.2)))))) = true then ((wide_Of.f 1).bind fun bt328 => (if (bt293.2.2.2.2.2.1 == bt328.1 && ((bt293.2.2.2.2.2.2.1 == bt328.2.1 && (bt293.2.2.2.2.2.2.2.1 == bt328.2.2.1 && (bt293.2.2.2.2.2.2.2.2.1 == bt328.2.2.2.1 && (bt293.2.2.2.2.2.2.2.2.2.1 == bt328.2.2.2.2)))))) = true then (if bt293.2.2.2.2.2.2.2.2.2.2 = 0 then ((wide_Text.f k bt253.1 bt253.2.1 bt253.2.2.1 bt253.2.2.2.1 bt253.2.2.2.2.1).bind fun t333 => (if t333.toList = ([49, 56, 52, 52, 54, 55, 52, 52, 48, 55, 51, 55, 48, 57, 53, 53, 49, 54, 49, 54] : List UInt8) then (if (bt306.1 == bt253.1 && ((bt306.2.1 == bt253.2.1 && (bt306.2.2.1 == bt253.2.2.1 && (bt306.2.2.2.1 == bt253.2.2.2.1 && (bt306.2.2.2.2.1 == bt253.2.2.2.2.1)))))) = true then (if bt306.2.2.2.2.2 = 0 then ((wide_Of.f (-4)).bind fun bt334 => (some bt334.1)) else (some false)) else (some false)) else (some false))) else (some false)) else (some false))) else (some false))) else (some false)) else (some false))) else (some false))) else (some false)) else (some false)))))))))))
theorem parquetlaw01_known1.mono : ∀ k, LeO (parquetlaw01_known1.f k ) (parquetlaw01_known1.f (k + 1) ) := by
 intro  k
 unfold parquetlaw01_known1.f
 repeat' first
   | (with_reducible exact wide_DivMod.mono _ _ _ _ _ _ _ _ _ _ _)
   | (with_reducible exact wide_Mul.mono _ _)
   | (with_reducible exact wide_Text.mono _ _ _ _ _ _)
   | (with_reducible exact LeO.refl _)
   | (with_reducible exact LeO.none _)
   | (with_reducible refine LeO.ite ?_ ?_)
   | (with_reducible refine LeO.bind ?_ (fun _ => ?_))
   | exact wide_DivMod.mono _ _ _ _ _ _ _ _ _ _ _
   | exact wide_Mul.mono _ _
   | exact wide_Text.mono _ _ _ _ _ _
   | exact LeO.none _
   | refine LeO.ite ?_ ?_
   | refine LeO.bind ?_ (fun _ => ?_)
def parquetlaw01_known1.T5 : Bool × List (List Nat × List Nat) := (true, [([], []), ([0], [0]), ([1], [1]), ([2], [2]), ([2], [2]), ([4, 2], [2, 4]), ([3, 5, 2], [2, 3, 5]), ([2, 6], [2, 6]), ([7, 2], [7]), ([8], [8]), ([8, 8], [8]), ([9, 10, 8], [8, 9, 10]), ([8, 11], [8, 11]), ([12, 10], [12]), ([13], [13]), ([13, 13], [13]), ([14, 15, 13], [13, 14, 15]), ([13, 16], [13, 16]), ([17, 15], [17]), ([18], [18]), ([19, 18], [18, 19]), ([18, 20], [18, 20]), ([21, 18], [21]), ([22], [22]), ([22, 22], [22]), ([23, 24, 22], [22, 23, 24]), ([22, 25], [22, 25]), ([26, 24], [26]), ([27], [27]), ([27, 27], [27]), ([28, 29, 27], [27, 28, 29]), ([27, 30], [27, 30]), ([31, 29], [31]), ([32], [32]), ([33, 32], [32, 33]), ([32, 34], [32, 34]), ([35, 32], [35]), ([36], [36]), ([37, 36, 36], [36, 37]), ([38, 36], [36, 38]), ([36, 39], [36, 39]), ([40, 38], [40]), ([41], [41]), ([41], [41]), ([42, 43, 41], [41, 42, 43]), ([41, 44], [41, 44]), ([45, 41], [45]), ([46], [46]), ([47, 46], [46, 47]), ([46, 48], [46, 48]), ([49, 46], [49]), ([50, 50], [50]), ([51, 50], [50, 51]), ([50, 52], [50, 52]), ([53, 51, 0, 1, 2, 3, 4, 5, 6, 7, 8, 9, 10, 11, 12, 13, 14, 15, 16, 17, 18, 19, 20, 21, 22, 23, 24, 25, 26, 27, 28, 29, 30, 31, 32, 33, 34, 35, 36, 37, 38, 39, 40, 41, 42, 43, 44, 45, 46, 47, 48, 49, 50, 51, 52, 53], [53])])
def parquetlaw01_known1.B5 : List Nat := [0, 1, 3, 7, 7, 23, 63, 127, 255, 511, 511, 2047, 4095, 8191, 16383, 16383, 65535, 131071, 262143, 524287, 1048575, 2097151, 4194303, 8388607, 8388607, 33554431, 67108863, 134217727, 268435455, 268435455, 1073741823, 2147483647, 4294967295, 8589934591, 17179869183, 34359738367, 68719476735, 137438953471, 274877906943, 549755813887, 1099511627775, 2199023255551, 4398046511103, 4398046511103, 17592186044415, 35184372088831, 70368744177663, 140737488355327, 281474976710655, 562949953421311, 1125899906842623, 2251799813685247, 4503599627370495, 9007199254740991, 18014398509481983]
theorem parquetlaw01_known1.tab5 : rtab .any (opsOf Try.f20 5) = parquetlaw01_known1.T5 := by kernel_rfl
theorem parquetlaw01_known1.bits5 : waitsOk parquetlaw01_known1.T5.2 parquetlaw01_known1.B5 = true := by kernel_rfl
set_option maxHeartbeats 8000000 in
set_option maxRecDepth 100000 in
theorem parquetlaw01_known1.calls (k : Nat)  (r : Bool) (w : World) (h : parquetlaw01_known1.f k  = some r) (hr_ : r = true) :
  Calls Try.prog 20 #[] w fun e w' => e = .returned (.bool r) ∧ Below w.heap.size w w' := by
 have hu27 := Try.underlying27
 have hu25 := Try.underlying25
 have hfd27_0 : ∀ (x0_ : Bool) (x1_ : Int) (x2_ : Int) (x3_ : Int) (x4_ : Int) (W_ : World), (Instr.field 27 (.agg #[.bool x0_, .int .u64 x1_, .int .u64 x2_, .int .u64 x3_, .int .u64 x4_]) 0).run Try.prog W_ = .ok (.bool x0_) W_ := fun _ _ _ _ _ _ => by kernel_rfl
 have HB := Aside0.mk (Below.refl w.heap.size w)
 have H : ((wide_Of.f 4611686018427387904).bind fun bt240 => ((wide_Of.f 4).bind fun bt245 => ((wide_Mul.f k (([(⟨bt240.1, (⟨bt240.2.1, bt240.2.2.1, bt240.2.2.2.1, bt240.2.2.2.2⟩ : S25)⟩ : S27), (⟨bt245.1, (⟨bt245.2.1, bt245.2.2.1, bt245.2.2.2.1, bt245.2.2.2.2⟩ : S25)⟩ : S27)] : List (S27)))).bind fun bt253 => ((wide_Of.f (-7)).bind fun bt260 => ((wide_Of.f 2).bind fun bt265 => ((wide_DivMod.f k bt260.1 bt260.2.1 bt260.2.2.1 bt260.2.2.2.1 bt260.2.2.2.2 bt265.1 bt265.2.1 bt265.2.2.1 bt265.2.2.2.1 bt265.2.2.2.2).bind fun bt270 => ((wide_Of.f (-7)).bind fun bt283 => ((wide_Of.f (-2)).bind fun bt288 => ((wide_DivMod.f k bt283.1 bt283.2.1 bt283.2.2.1 bt283.2.2.2.1 bt283.2.2.2.2 bt288.1 bt288.2.1 bt288.2.2.1 bt288.2.2.2.1 bt288.2.2.2.2).bind fun bt293 => ((wide_Parse.f (⟨#[49, 56, 52, 52, 54, 55, 52, 52, 48, 55, 51, 55, 48, 57, 53, 53, 49, 54, 49, 54]⟩ : ByteArray)).bind fun bt306 => (if bt253.2.2.2.2.2 = 0 then (if (!bt253.1 && ((bt253.2.1 == 0 && (bt253.2.2.1 == 1 && (bt253.2.2.2.1 == 0 && (bt253.2.2.2.2.1 == 0)))))) = true then ((wide_Of.f (-4)).bind fun bt313 => (if (bt270.1 == bt313.1 && ((bt270.2.1 == bt313.2.1 && (bt270.2.2.1 == bt313.2.2.1 && (bt270.2.2.2.1 == bt313.2.2.2.1 && (bt270.2.2.2.2.1 == bt313.2.2.2.2)))))) = true then ((wide_Of.f 1).bind fun bt318 => (if (bt270.2.2.2.2.2.1 == bt318.1 && ((bt270.2.2.2.2.2.2.1 == bt318.2.1 && (bt270.2.2.2.2.2.2.2.1 == bt318.2.2.1 && (bt270.2.2.2.2.2.2.2.2.1 == bt318.2.2.2.1 && (bt270.2.2.2.2.2.2.2.2.2.1 == bt318.2.2.2.2)))))) = true then (if bt270.2.2.2.2.2.2.2.2.2.2 = 0 then ((wide_Of.f 4).bind fun bt323 => (if (bt293.1 == bt323.1 && ((bt293.2.1 == bt323.2.1 && (bt293.2.2.1 == bt323.2.2.1 && (bt293.2.2.2.1 == bt323.2.2.2.1 && (bt293.2.2.2.2.1 == bt323.2.2.2.2)))))) = true then ((wide_Of.f 1).bind fun bt328 => (if (bt293.2.2.2.2.2.1 == bt328.1 && ((bt293.2.2.2.2.2.2.1 == bt328.2.1 && (bt293.2.2.2.2.2.2.2.1 == bt328.2.2.1 && (bt293.2.2.2.2.2.2.2.2.1 == bt328.2.2.2.1 && (bt293.2.2.2.2.2.2.2.2.2.1 == bt328.2.2.2.2)))))) = true then (if bt293.2.2.2.2.2.2.2.2.2.2 = 0 then ((wide_Text.f k bt253.1 bt253.2.1 bt253.2.2.1 bt253.2.2.2.1 bt253.2.2.2.2.1).bind fun t333 => (if t333.toList = ([49, 56, 52, 52, 54, 55, 52, 52, 48, 55, 51, 55, 48, 57, 53, 53, 49, 54, 49, 54] : List UInt8) then (if (bt306.1 == bt253.1 && ((bt306.2.1 == bt253.2.1 && (bt306.2.2.1 == bt253.2.2.1 && (bt306.2.2.2.1 == bt253.2.2.2.1 && (bt306.2.2.2.2.1 == bt253.2.2.2.2.1)))))) = true then (if bt306.2.2.2.2.2 = 0 then ((wide_Of.f (-4)).bind fun bt334 => (some bt334.1)) else (some false)) else (some false)) else (some false))) else (some false)) else (some false))) else (some false))) else (some false)) else (some false))) else (some false))) else (some false)) else (some false)))))))))))) = some r := h
 clear h
 replace H := Option.bind_eq_some_iff.mp H
 obtain ⟨⟨t240, t241, t242, t243, t244⟩, A10, H⟩ := H
 try dsimp only at H
 have A1 := Aside0.mk A10
 clear A10
 replace H := Option.bind_eq_some_iff.mp H
 obtain ⟨⟨t245, t246, t247, t248, t249⟩, A20, H⟩ := H
 try dsimp only at H
 have A2 := Aside0.mk A20
 clear A20
 obtain ⟨y250, hy250⟩ : ∃ y_ : List (S27), y_ = (([(⟨t240, (⟨t241, t242, t243, t244⟩ : S25)⟩ : S27), (⟨t245, (⟨t246, t247, t248, t249⟩ : S25)⟩ : S27)] : List (S27))) := ⟨_, rfl⟩
 replace H : ((wide_Mul.f k y250).bind fun bt253 => ((wide_Of.f (-7)).bind fun bt260 => ((wide_Of.f 2).bind fun bt265 => ((wide_DivMod.f k bt260.1 bt260.2.1 bt260.2.2.1 bt260.2.2.2.1 bt260.2.2.2.2 bt265.1 bt265.2.1 bt265.2.2.1 bt265.2.2.2.1 bt265.2.2.2.2).bind fun bt270 => ((wide_Of.f (-7)).bind fun bt283 => ((wide_Of.f (-2)).bind fun bt288 => ((wide_DivMod.f k bt283.1 bt283.2.1 bt283.2.2.1 bt283.2.2.2.1 bt283.2.2.2.2 bt288.1 bt288.2.1 bt288.2.2.1 bt288.2.2.2.1 bt288.2.2.2.2).bind fun bt293 => ((wide_Parse.f (⟨#[49, 56, 52, 52, 54, 55, 52, 52, 48, 55, 51, 55, 48, 57, 53, 53, 49, 54, 49, 54]⟩ : ByteArray)).bind fun bt306 => (if bt253.2.2.2.2.2 = 0 then (if (!bt253.1 && ((bt253.2.1 == 0 && (bt253.2.2.1 == 1 && (bt253.2.2.2.1 == 0 && (bt253.2.2.2.2.1 == 0)))))) = true then ((wide_Of.f (-4)).bind fun bt313 => (if (bt270.1 == bt313.1 && ((bt270.2.1 == bt313.2.1 && (bt270.2.2.1 == bt313.2.2.1 && (bt270.2.2.2.1 == bt313.2.2.2.1 && (bt270.2.2.2.2.1 == bt313.2.2.2.2)))))) = true then ((wide_Of.f 1).bind fun bt318 => (if (bt270.2.2.2.2.2.1 == bt318.1 && ((bt270.2.2.2.2.2.2.1 == bt318.2.1 && (bt270.2.2.2.2.2.2.2.1 == bt318.2.2.1 && (bt270.2.2.2.2.2.2.2.2.1 == bt318.2.2.2.1 && (bt270.2.2.2.2.2.2.2.2.2.1 == bt318.2.2.2.2)))))) = true then (if bt270.2.2.2.2.2.2.2.2.2.2 = 0 then ((wide_Of.f 4).bind fun bt323 => (if (bt293.1 == bt323.1 && ((bt293.2.1 == bt323.2.1 && (bt293.2.2.1 == bt323.2.2.1 && (bt293.2.2.2.1 == bt323.2.2.2.1 && (bt293.2.2.2.2.1 == bt323.2.2.2.2)))))) = true then ((wide_Of.f 1).bind fun bt328 => (if (bt293.2.2.2.2.2.1 == bt328.1 && ((bt293.2.2.2.2.2.2.1 == bt328.2.1 && (bt293.2.2.2.2.2.2.2.1 == bt328.2.2.1 && (bt293.2.2.2.2.2.2.2.2.1 == bt328.2.2.2.1 && (bt293.2.2.2.2.2.2.2.2.2.1 == bt328.2.2.2.2)))))) = true then (if bt293.2.2.2.2.2.2.2.2.2.2 = 0 then ((wide_Text.f k bt253.1 bt253.2.1 bt253.2.2.1 bt253.2.2.2.1 bt253.2.2.2.2.1).bind fun t333 => (if t333.toList = ([49, 56, 52, 52, 54, 55, 52, 52, 48, 55, 51, 55, 48, 57, 53, 53, 49, 54, 49, 54] : List UInt8) then (if (bt306.1 == bt253.1 && ((bt306.2.1 == bt253.2.1 && (bt306.2.2.1 == bt253.2.2.1 && (bt306.2.2.2.1 == bt253.2.2.2.1 && (bt306.2.2.2.2.1 == bt253.2.2.2.2.1)))))) = true then (if bt306.2.2.2.2.2 = 0 then ((wide_Of.f (-4)).bind fun bt334 => (some bt334.1)) else (some false)) else (some false)) else (some false))) else (some false)) else (some false))) else (some false))) else (some false)) else (some false))) else (some false))) else (some false)) else (some false)))))))))) = some r := by first | (rw [hy250]; with_reducible exact H) | (have H2_ := (Option.bind_some _ _).symm.trans H; rw [hy250]; with_reducible exact H2_) | (have H2_ := (Option.bind_some _ _).symm.trans H; with_reducible exact H2_) | with_reducible exact H | (rw [hy250]; exact H) | exact H
 have Ny250 := Aside0.mk hy250
 clear hy250
 replace H := Option.bind_eq_some_iff.mp H
 obtain ⟨⟨t253, t254, t255, t256, t257, t258⟩, A30, H⟩ := H
 try dsimp only at H
 have A3 := Aside0.mk A30
 clear A30
 replace H := Option.bind_eq_some_iff.mp H
 obtain ⟨⟨t260, t261, t262, t263, t264⟩, A40, H⟩ := H
 try dsimp only at H
 have A4 := Aside0.mk A40
 clear A40
 replace H := Option.bind_eq_some_iff.mp H
 obtain ⟨⟨t265, t266, t267, t268, t269⟩, A50, H⟩ := H
 try dsimp only at H
 have A5 := Aside0.mk A50
 clear A50
 replace H := Option.bind_eq_some_iff.mp H
 obtain ⟨⟨t270, t271, t272, t273, t274, t275, t276, t277, t278, t279, t280⟩, A60, H⟩ := H
 try dsimp only at H
 have A6 := Aside0.mk A60
 clear A60
 replace H := Option.bind_eq_some_iff.mp H
 obtain ⟨⟨t283, t284, t285, t286, t287⟩, A70, H⟩ := H
 try dsimp only at H
 have A7 := Aside0.mk A70
 clear A70
 replace H := Option.bind_eq_some_iff.mp H
 obtain ⟨⟨t288, t289, t290, t291, t292⟩, A80, H⟩ := H
 try dsimp only at H
 have A8 := Aside0.mk A80
 clear A80
 replace H := Option.bind_eq_some_iff.mp H
 obtain ⟨⟨t293, t294, t295, t296, t297, t298, t299, t300, t301, t302, t303⟩, A90, H⟩ := H
 try dsimp only at H
 have A9 := Aside0.mk A90
 clear A90
 replace H := Option.bind_eq_some_iff.mp H
 obtain ⟨⟨t306, t307, t308, t309, t310, t311⟩, A100, H⟩ := H
 try dsimp only at H
 have A10 := Aside0.mk A100
 clear A100
 by_cases c11 : t258 = 0
 rotate_left
 ·rw [if_neg c11] at H
  have c11b0 : (t258 == 0) = false := beq_eq_false_iff_ne.mpr c11
  have c11b1 : (t258 != 0) = true := bne_iff_ne.mpr c11
  exact absurd ((Option.some.inj H).trans hr_) (by decide)
 
 rw [if_pos c11] at H
 have c11b0 : (t258 == 0) = true := beq_iff_eq.mpr c11
 have c11b1 : (t258 != 0) = false := bne_eq_false_iff_eq.mpr c11
 clear c11
 by_cases c12 : (!t253 && ((t254 == 0 && (t255 == 1 && (t256 == 0 && (t257 == 0)))))) = true
 rotate_left
 ·rw [if_neg c12] at H
  have c12b0 : (!t253 && ((t254 == 0 && (t255 == 1 && (t256 == 0 && (t257 == 0)))))) = false := by simpa using c12
  clear c12
  exact absurd ((Option.some.inj H).trans hr_) (by decide)
 rw [if_pos c12] at H
 have c12b0 : (!t253 && ((t254 == 0 && (t255 == 1 && (t256 == 0 && (t257 == 0)))))) = true := c12
 clear c12
 replace H := Option.bind_eq_some_iff.mp H
 obtain ⟨⟨t313, t314, t315, t316, t317⟩, A130, H⟩ := H
 try dsimp only at H
 have A13 := Aside0.mk A130
 clear A130
 by_cases c14 : (t270 == t313 && ((t271 == t314 && (t272 == t315 && (t273 == t316 && (t274 == t317)))))) = true
 rotate_left
 ·rw [if_neg c14] at H
  have c14b0 : (t270 == t313 && ((t271 == t314 && (t272 == t315 && (t273 == t316 && (t274 == t317)))))) = false := by simpa using c14
  (try (have c14b1 : decide (t270 = t313 && ((t271 == t314 && (t272 == t315 && (t273 == t316 && (t274 == t317)))))) = false := by simpa using c14))
  (try (have c14b2 : (t270 == t313 && ((t271 == t314 && (t272 == t315 && (t273 == t316 && (t274 == t317)))))) = false := by simpa using c14))
  (try (have c14b3 : ¬ (t270 = t313 && ((t271 == t314 && (t272 == t315 && (t273 == t316 && (t274 == t317)))))) := by simpa using c14))
  clear c14
  exact absurd ((Option.some.inj H).trans hr_) (by decide)
 rw [if_pos c14] at H
 have c14b0 : (t270 == t313 && ((t271 == t314 && (t272 == t315 && (t273 == t316 && (t274 == t317)))))) = true := c14
 (try (have c14b1 : decide (t270 = t313 && ((t271 == t314 && (t272 == t315 && (t273 == t316 && (t274 == t317)))))) = true := by simpa using c14))
 (try (have c14b2 : (t270 == t313 && ((t271 == t314 && (t272 == t315 && (t273 == t316 && (t274 == t317)))))) = true := by simpa using c14))
 clear c14
 replace H := Option.bind_eq_some_iff.mp H
 obtain ⟨⟨t318, t319, t320, t321, t322⟩, A150, H⟩ := H
 try dsimp only at H
 have A15 := Aside0.mk A150
 clear A150
 by_cases c16 : (t275 == t318 && ((t276 == t319 && (t277 == t320 && (t278 == t321 && (t279 == t322)))))) = true
 rotate_left
 ·rw [if_neg c16] at H
  have c16b0 : (t275 == t318 && ((t276 == t319 && (t277 == t320 && (t278 == t321 && (t279 == t322)))))) = false := by simpa using c16
  (try (have c16b1 : decide (t275 = t318 && ((t276 == t319 && (t277 == t320 && (t278 == t321 && (t279 == t322)))))) = false := by simpa using c16))
  (try (have c16b2 : (t275 == t318 && ((t276 == t319 && (t277 == t320 && (t278 == t321 && (t279 == t322)))))) = false := by simpa using c16))
  (try (have c16b3 : ¬ (t275 = t318 && ((t276 == t319 && (t277 == t320 && (t278 == t321 && (t279 == t322)))))) := by simpa using c16))
  clear c16
  exact absurd ((Option.some.inj H).trans hr_) (by decide)
 rw [if_pos c16] at H
 have c16b0 : (t275 == t318 && ((t276 == t319 && (t277 == t320 && (t278 == t321 && (t279 == t322)))))) = true := c16
 (try (have c16b1 : decide (t275 = t318 && ((t276 == t319 && (t277 == t320 && (t278 == t321 && (t279 == t322)))))) = true := by simpa using c16))
 (try (have c16b2 : (t275 == t318 && ((t276 == t319 && (t277 == t320 && (t278 == t321 && (t279 == t322)))))) = true := by simpa using c16))
 clear c16
 by_cases c17 : t280 = 0
 rotate_left
 ·rw [if_neg c17] at H
  have c17b0 : (t280 == 0) = false := beq_eq_false_iff_ne.mpr c17
  have c17b1 : (t280 != 0) = true := bne_iff_ne.mpr c17
  exact absurd ((Option.some.inj H).trans hr_) (by decide)
 rw [if_pos c17] at H
 have c17b0 : (t280 == 0) = true := beq_iff_eq.mpr c17
 have c17b1 : (t280 != 0) = false := bne_eq_false_iff_eq.mpr c17
 clear c17
 replace H := Option.bind_eq_some_iff.mp H
 obtain ⟨⟨t323, t324, t325, t326, t327⟩, A180, H⟩ := H
 try dsimp only at H
 have A18 := Aside0.mk A180
 clear A180
 by_cases c19 : (t293 == t323 && ((t294 == t324 && (t295 == t325 && (t296 == t326 && (t297 == t327)))))) = true
 rotate_left
 ·rw [if_neg c19] at H
  have c19b0 : (t293 == t323 && ((t294 == t324 && (t295 == t325 && (t296 == t326 && (t297 == t327)))))) = false := by simpa using c19
  (try (have c19b1 : decide (t293 = t323 && ((t294 == t324 && (t295 == t325 && (t296 == t326 && (t297 == t327)))))) = false := by simpa using c19))
  (try (have c19b2 : (t293 == t323 && ((t294 == t324 && (t295 == t325 && (t296 == t326 && (t297 == t327)))))) = false := by simpa using c19))
  (try (have c19b3 : ¬ (t293 = t323 && ((t294 == t324 && (t295 == t325 && (t296 == t326 && (t297 == t327)))))) := by simpa using c19))
  clear c19
  exact absurd ((Option.some.inj H).trans hr_) (by decide)
 rw [if_pos c19] at H
 have c19b0 : (t293 == t323 && ((t294 == t324 && (t295 == t325 && (t296 == t326 && (t297 == t327)))))) = true := c19
 (try (have c19b1 : decide (t293 = t323 && ((t294 == t324 && (t295 == t325 && (t296 == t326 && (t297 == t327)))))) = true := by simpa using c19))
 (try (have c19b2 : (t293 == t323 && ((t294 == t324 && (t295 == t325 && (t296 == t326 && (t297 == t327)))))) = true := by simpa using c19))
 clear c19
 replace H := Option.bind_eq_some_iff.mp H
 obtain ⟨⟨t328, t329, t330, t331, t332⟩, A200, H⟩ := H
 try dsimp only at H
 have A20 := Aside0.mk A200
 clear A200
 by_cases c21 : (t298 == t328 && ((t299 == t329 && (t300 == t330 && (t301 == t331 && (t302 == t332)))))) = true
 rotate_left
 ·rw [if_neg c21] at H
  have c21b0 : (t298 == t328 && ((t299 == t329 && (t300 == t330 && (t301 == t331 && (t302 == t332)))))) = false := by simpa using c21
  (try (have c21b1 : decide (t298 = t328 && ((t299 == t329 && (t300 == t330 && (t301 == t331 && (t302 == t332)))))) = false := by simpa using c21))
  (try (have c21b2 : (t298 == t328 && ((t299 == t329 && (t300 == t330 && (t301 == t331 && (t302 == t332)))))) = false := by simpa using c21))
  (try (have c21b3 : ¬ (t298 = t328 && ((t299 == t329 && (t300 == t330 && (t301 == t331 && (t302 == t332)))))) := by simpa using c21))
  clear c21
  exact absurd ((Option.some.inj H).trans hr_) (by decide)
 rw [if_pos c21] at H
 have c21b0 : (t298 == t328 && ((t299 == t329 && (t300 == t330 && (t301 == t331 && (t302 == t332)))))) = true := c21
 (try (have c21b1 : decide (t298 = t328 && ((t299 == t329 && (t300 == t330 && (t301 == t331 && (t302 == t332)))))) = true := by simpa using c21))
 (try (have c21b2 : (t298 == t328 && ((t299 == t329 && (t300 == t330 && (t301 == t331 && (t302 == t332)))))) = true := by simpa using c21))
 clear c21
 by_cases c22 : t303 = 0
 rotate_left
 ·rw [if_neg c22] at H
  have c22b0 : (t303 == 0) = false := beq_eq_false_iff_ne.mpr c22
  have c22b1 : (t303 != 0) = true := bne_iff_ne.mpr c22
  exact absurd ((Option.some.inj H).trans hr_) (by decide)
 rw [if_pos c22] at H
 have c22b0 : (t303 == 0) = true := beq_iff_eq.mpr c22
 have c22b1 : (t303 != 0) = false := bne_eq_false_iff_eq.mpr c22
 clear c22
 replace H := Option.bind_eq_some_iff.mp H
 obtain ⟨t333, A230, H⟩ := H
 try dsimp only at H
 have A23 := Aside0.mk A230
 clear A230
 by_cases c24 : t333.toList = ([49, 56, 52, 52, 54, 55, 52, 52, 48, 55, 51, 55, 48, 57, 53, 53, 49, 54, 49, 54] : List UInt8)
 rotate_left
 ·rw [if_neg c24] at H
  have c24b0 : (t333.toList == ([49, 56, 52, 52, 54, 55, 52, 52, 48, 55, 51, 55, 48, 57, 53, 53, 49, 54, 49, 54] : List UInt8)) = false := beq_eq_false_iff_ne.mpr c24
  have c24b1 : (t333.toList != ([49, 56, 52, 52, 54, 55, 52, 52, 48, 55, 51, 55, 48, 57, 53, 53, 49, 54, 49, 54] : List UInt8)) = true := bne_iff_ne.mpr c24
  exact absurd ((Option.some.inj H).trans hr_) (by decide)
 rw [if_pos c24] at H
 have c24b0 : (t333.toList == ([49, 56, 52, 52, 54, 55, 52, 52, 48, 55, 51, 55, 48, 57, 53, 53, 49, 54, 49, 54] : List UInt8)) = true := beq_iff_eq.mpr c24
 have c24b1 : (t333.toList != ([49, 56, 52, 52, 54, 55, 52, 52, 48, 55, 51, 55, 48, 57, 53, 53, 49, 54, 49, 54] : List UInt8)) = false := bne_eq_false_iff_eq.mpr c24
 clear c24
 by_cases c25 : (t306 == t253 && ((t307 == t254 && (t308 == t255 && (t309 == t256 && (t310 == t257)))))) = true
 rotate_left
 ·rw [if_neg c25] at H
  have c25b0 : (t306 == t253 && ((t307 == t254 && (t308 == t255 && (t309 == t256 && (t310 == t257)))))) = false := by simpa using c25
  (try (have c25b1 : decide (t306 = t253 && ((t307 == t254 && (t308 == t255 && (t309 == t256 && (t310 == t257)))))) = false := by simpa using c25))
  (try (have c25b2 : (t306 == t253 && ((t307 == t254 && (t308 == t255 && (t309 == t256 && (t310 == t257)))))) = false := by simpa using c25))
  (try (have c25b3 : ¬ (t306 = t253 && ((t307 == t254 && (t308 == t255 && (t309 == t256 && (t310 == t257)))))) := by simpa using c25))
  clear c25
  exact absurd ((Option.some.inj H).trans hr_) (by decide)
 rw [if_pos c25] at H
 have c25b0 : (t306 == t253 && ((t307 == t254 && (t308 == t255 && (t309 == t256 && (t310 == t257)))))) = true := c25
 (try (have c25b1 : decide (t306 = t253 && ((t307 == t254 && (t308 == t255 && (t309 == t256 && (t310 == t257)))))) = true := by simpa using c25))
 (try (have c25b2 : (t306 == t253 && ((t307 == t254 && (t308 == t255 && (t309 == t256 && (t310 == t257)))))) = true := by simpa using c25))
 clear c25
 by_cases c26 : t311 = 0
 rotate_left
 ·rw [if_neg c26] at H
  have c26b0 : (t311 == 0) = false := beq_eq_false_iff_ne.mpr c26
  have c26b1 : (t311 != 0) = true := bne_iff_ne.mpr c26
  exact absurd ((Option.some.inj H).trans hr_) (by decide)
 rw [if_pos c26] at H
 have c26b0 : (t311 == 0) = true := beq_iff_eq.mpr c26
 have c26b1 : (t311 != 0) = false := bne_eq_false_iff_eq.mpr c26
 clear c26
 replace H := Option.bind_eq_some_iff.mp H
 obtain ⟨⟨t334, t335, t336, t337, t338⟩, A270, H⟩ := H
 replace H : (some t334) = some r := H
 have A27 := Aside0.mk A270
 clear A270
 obtain rfl := Option.some.inj H
 go_enter Try.func20, Try.ntmps20
 try go_wp2_with (first | ((with_reducible refine gate_callee (f := 38) rfl ?_); refine goesL_ (some 12) rfl rfl Try.func38 (by kernel_rfl) rfl #[.int .i64 4611686018427387904] rfl (by (try simp only [List.map_toArray, List.map_cons, List.map_nil]); first | done | rfl | (simp only [List.length_drop, List.length_take]; rfl)) ?_; (with_reducible refine (wide_Of.calls 4611686018427387904 t240 t241 t242 t243 t244 _ A1.out).mono ?_); rintro e w28 ⟨rfl, hb⟩; refine ⟨_, rfl, ?_⟩; have n0_ := Aside0.mk (below_step (by repeat (first | (with_reducible first | exact HB.out | apply qa | apply qn | apply qd) | exact HB.out)) hb); clear HB; have HB := n0_; clear n0_; (try clear hb); (try clear hb2); (try clear hk); (try clear hi)) | ((with_reducible refine gate_callee (f := 38) rfl ?_); refine goesL_ (some 13) rfl rfl Try.func38 (by kernel_rfl) rfl #[.int .i64 4] rfl (by (try simp only [List.map_toArray, List.map_cons, List.map_nil]); first | done | rfl | (simp only [List.length_drop, List.length_take]; rfl)) ?_; (with_reducible refine (wide_Of.calls 4 t245 t246 t247 t248 t249 _ A2.out).mono ?_); rintro e w29 ⟨rfl, hb⟩; refine ⟨_, rfl, ?_⟩; have n0_ := Aside0.mk (below_step (by repeat (first | (with_reducible first | exact HB.out | apply qa | apply qn | apply qd) | exact HB.out)) hb); clear HB; have HB := n0_; clear n0_; (try clear hb); (try clear hb2); (try clear hk); (try clear hi)) | ((with_reducible refine gate_dst (N := 14) rfl ?_); refine Kd.R_lit k27 _ 27 ?hg (N := 14) ?hd (xs := ([(⟨t240, (⟨t241, t242, t243, t244⟩ : S25)⟩ : S27), (⟨t245, (⟨t246, t247, t248, t249⟩ : S25)⟩ : S27)] : List (S27))) (inner := [.bool t240, .int .u64 t241, .int .u64 t242, .int .u64 t243, .int .u64 t244, .bool t245, .int .u64 t246, .int .u64 t247, .int .u64 t248, .int .u64 t249]) (ok := fun _ => True) (okp := fun _ => True) ?hr ?hp (fun _ hk => hk) trivial (Below.refl _ _) (Nat.le_refl _) (by simp) ?_; (case hd => rfl); (case hg => rfl); (case hr => first | (go_simp; done) | (go_simp; rfl)); (case hp => exact (Reps.c5 (show Kd.M k27 _ _ _ (⟨t240, (⟨t241, t242, t243, t244⟩ : S25)⟩ : S27) [.bool t240, .int .u64 t241, .int .u64 t242, .int .u64 t243, .int .u64 t244] from (k27_mkM _ _ _ (⟨t240, (⟨t241, t242, t243, t244⟩ : S25)⟩ : S27) )) (Reps.c5 (show Kd.M k27 _ _ _ (⟨t245, (⟨t246, t247, t248, t249⟩ : S25)⟩ : S27) [.bool t245, .int .u64 t246, .int .u64 t247, .int .u64 t248, .int .u64 t249] from (k27_mkM _ _ _ (⟨t245, (⟨t246, t247, t248, t249⟩ : S25)⟩ : S27) )) (Reps.none _ _)))); intro v251 w30 ho31 hb hg_ hnew_; clear hg_ hnew_; (first | rw [← Ny250.out] at ho31 | (simp only [Int.reduceToNat] at ho31; rw [← Ny250.out] at ho31)); have n0_ := Aside0.mk (Kd.R_lower ho31 (below_size (by repeat (first | (with_reducible first | exact HB.out | apply qa | apply qn | apply qd) | exact HB.out)))); have n1_ := Aside0.mk (below_step (by repeat (first | (with_reducible first | exact HB.out | apply qa | apply qn | apply qd) | exact HB.out)) hb); clear HB; have HO252 := n0_; have HB := n1_; clear n0_ n1_; clear hb ho31; obtain ⟨Ao32, co32, eo32⟩ := Kd.R_slice HO252.out; subst eo32) | ((with_reducible refine gate_callee (f := 21) rfl ?_); refine goesL_ (some 15) rfl rfl Try.func21 (by kernel_rfl) rfl #[.slice Ao32 y250.length co32] rfl (by (try simp only [List.map_toArray, List.map_cons, List.map_nil]); first | done | rfl | (simp only [List.length_drop, List.length_take]; rfl)) ?_; (with_reducible refine (wide_Mul.calls k _ _ y250 t253 t254 t255 t256 t257 t258 _ ?side1 ?side2 A3.out).mono ?_); (case side1 => repeat (first | exact (Kd.R_reads' HO252.out).2.2 | (with_reducible refine Kd.C_alloc ?_ _) | (with_reducible refine Kd.C_drewN ?_ _) | (with_reducible refine Kd.C_drew ?_))); (case side2 => exact (Kd.R_reads' HO252.out).2.1); rintro e w33 ⟨rfl, hb⟩; refine ⟨_, rfl, ?_⟩; have n0_ := Aside0.mk (Kd.R_below (by (with_reducible repeat (first | apply Kd.R_alloc | apply Kd.R_drewN | apply Kd.R_drew)); exact HO252.out) hb); have n1_ := Aside0.mk (below_step (by repeat (first | (with_reducible first | exact HB.out | apply qa | apply qn | apply qd) | exact HB.out)) hb); clear HO252; clear HB; have HO252 := n0_; have HB := n1_; clear n0_ n1_; (try clear hb); (try clear hb2); (try clear hk); (try clear hi)) | ((with_reducible refine gate_dst (N := 1) rfl ?_); refine box_event ?hg (N := 1) ?hd (cs := #[.bool false, .int .u64 0, .int .u64 0, .int .u64 0, .int .u64 0]) (t := 27) ?hr ?_; (case hd => rfl); (case hg => rfl); (case hr => first | (go_simp; done) | (go_simp; rfl)); intro gb259 hg w34 hbox hb; have n0_ := Aside0.mk (Kd.R_below (Kd.R_elderB (by (with_reducible repeat (first | apply Kd.R_alloc | apply Kd.R_drewN | apply Kd.R_drew)); exact HO252.out) gb259 (Nat.le_of_eq hg.symm)) hb); have n1_ := Aside0.mk (below_step (by repeat (first | (with_reducible first | exact HB.out | apply qa | apply qn | apply qd) | exact HB.out)) hb); have n2_ := Aside0.mk (hbox); have n3_ := bgw HB hg; have n4_ := bgw HB hg; clear HO252; clear HB; have HO252 := n0_; have HB := n1_; have BK259 := n2_; have GW259 := n3_; have GE259 := n4_; clear n0_ n1_ n2_ n3_ n4_; clear hb hbox hg; obtain ⟨hcz35_0, hcz35_1, hcz35_2, hcz35_3, hcz35_4⟩ := cl5 BK259.out; obtain ⟨hfz35_0, hfz35_1, hfz35_2, hfz35_3, hfz35_4⟩ := fr5 BK259.out) | ((with_reducible refine gate_callee (f := 38) rfl ?_); refine goesL_ (some 19) rfl rfl Try.func38 (by kernel_rfl) rfl #[.int .i64 (-7)] rfl (by (try simp only [List.map_toArray, List.map_cons, List.map_nil]); first | done | rfl | (simp only [List.length_drop, List.length_take]; rfl)) ?_; (with_reducible refine (wide_Of.calls (-7) t260 t261 t262 t263 t264 _ A4.out).mono ?_); rintro e w36 ⟨rfl, hb⟩; refine ⟨_, rfl, ?_⟩; have n0_ := Aside0.mk (Kd.R_below (by (with_reducible repeat (first | apply Kd.R_alloc | apply Kd.R_drewN | apply Kd.R_drew)); exact (Kd.R_mono (Kd.R_far (p := ⟨gb259, 4, none⟩) (Kd.R_far (p := ⟨gb259, 3, none⟩) (Kd.R_far (p := ⟨gb259, 2, none⟩) (Kd.R_far (p := ⟨gb259, 1, none⟩) (Kd.R_far (p := ⟨gb259, 0, none⟩) (Kd.R_mono HO252.out (fun k_ hk => (⟨hk, hk.2⟩ : _ ∧ k_ ≠ gb259))) (fun _ hk => hk.2) (.bool t253)) (fun _ hk => hk.2) (.int .u64 t254)) (fun _ hk => hk.2) (.int .u64 t255)) (fun _ hk => hk.2) (.int .u64 t256)) (fun _ hk => hk.2) (.int .u64 t257)) (fun _ h_ => h_.1))) hb); have n1_ := Aside0.mk (blk_below (g := gb259) (o := .cells #[.bool t253, .int .u64 t254, .int .u64 t255, .int .u64 t256, .int .u64 t257] 27 (0, 0)) (by (with_reducible repeat (first | refine cn ?_ _ | refine cd ?_ | refine ca ?_ _)); exact bp5 (lb BK259.out)) hb); have n2_ := Aside0.mk (below_step (by repeat (first | (with_reducible first | exact HB.out | apply qa | apply qn | apply qd | refine qs ?_ GE259.out) | exact HB.out)) hb); clear HO252; clear BK259; clear HB; have HO252 := n0_; have BK259 := n1_; have HB := n2_; clear n0_ n1_ n2_; (try clear hb); (try clear hb2); (try clear hk); (try clear hi)) | ((with_reducible refine gate_callee (f := 38) rfl ?_); refine goesL_ (some 20) rfl rfl Try.func38 (by kernel_rfl) rfl #[.int .i64 2] rfl (by (try simp only [List.map_toArray, List.map_cons, List.map_nil]); first | done | rfl | (simp only [List.length_drop, List.length_take]; rfl)) ?_; (with_reducible refine (wide_Of.calls 2 t265 t266 t267 t268 t269 _ A5.out).mono ?_); rintro e w37 ⟨rfl, hb⟩; refine ⟨_, rfl, ?_⟩; have n0_ := Aside0.mk (Kd.R_below (by (with_reducible repeat (first | apply Kd.R_alloc | apply Kd.R_drewN | apply Kd.R_drew)); exact HO252.out) hb); have n1_ := bb BK259 hb; have n2_ := Aside0.mk (below_step (by repeat (first | (with_reducible first | exact HB.out | apply qa | apply qn | apply qd | refine qs ?_ GE259.out) | exact HB.out)) hb); clear HO252; clear BK259; clear HB; have HO252 := n0_; have BK259 := n1_; have HB := n2_; clear n0_ n1_ n2_; (try clear hb); (try clear hb2); (try clear hk); (try clear hi)) | ((with_reducible refine gate_callee (f := 23) rfl ?_); refine goesL_ (some 21) rfl rfl Try.func23 (by kernel_rfl) rfl #[.agg #[.bool t260, .int .u64 t261, .int .u64 t262, .int .u64 t263, .int .u64 t264], .agg #[.bool t265, .int .u64 t266, .int .u64 t267, .int .u64 t268, .int .u64 t269]] rfl (by (try simp only [List.map_toArray, List.map_cons, List.map_nil]); first | done | rfl | (simp only [List.length_drop, List.length_take]; rfl)) ?_; (with_reducible refine (wide_DivMod.calls k t260 t261 t262 t263 t264 t265 t266 t267 t268 t269 t270 t271 t272 t273 t274 t275 t276 t277 t278 t279 t280 _ A6.out).mono ?_); rintro e w38 ⟨rfl, hb⟩; refine ⟨_, rfl, ?_⟩; have n0_ := Aside0.mk (Kd.R_below (by (with_reducible repeat (first | apply Kd.R_alloc | apply Kd.R_drewN | apply Kd.R_drew)); exact HO252.out) hb); have n1_ := bb BK259 hb; have n2_ := Aside0.mk (below_step (by repeat (first | (with_reducible first | exact HB.out | apply qa | apply qn | apply qd | refine qs ?_ GE259.out) | exact HB.out)) hb); clear HO252; clear BK259; clear HB; have HO252 := n0_; have BK259 := n1_; have HB := n2_; clear n0_ n1_ n2_; (try clear hb); (try clear hb2); (try clear hk); (try clear hi)) | ((with_reducible refine gate_dst (N := 3) rfl ?_); refine box_event ?hg (N := 3) ?hd (cs := #[.bool false, .int .u64 0, .int .u64 0, .int .u64 0, .int .u64 0]) (t := 27) ?hr ?_; (case hd => rfl); (case hg => rfl); (case hr => first | (go_simp; done) | (go_simp; rfl)); intro gb281 hg w39 hbox hb; have n0_ := Aside0.mk (Kd.R_below (Kd.R_elderB (by (with_reducible repeat (first | apply Kd.R_alloc | apply Kd.R_drewN | apply Kd.R_drew)); exact HO252.out) gb281 (Nat.le_of_eq hg.symm)) hb); have n1_ := bb BK259 hb; have n2_ := Aside0.mk (below_step (by repeat (first | (with_reducible first | exact HB.out | apply qa | apply qn | apply qd | refine qs ?_ GE259.out) | exact HB.out)) hb); have n3_ := Aside0.mk (hbox); have n4_ := bgw HB hg; have n5_ := bgw HB hg; have n6_ := bnl BK259 hg; have n7_ := bng BK259 hg; clear HO252; clear BK259; clear HB; have HO252 := n0_; have BK259 := n1_; have HB := n2_; have BK281 := n3_; have GW281 := n4_; have GE281 := n5_; have NB259_281 := n6_; have NB281_259 := n7_; clear n0_ n1_ n2_ n3_ n4_ n5_ n6_ n7_; clear hb hbox hg) | ((with_reducible refine gate_dst (N := 4) rfl ?_); refine box_event ?hg (N := 4) ?hd (cs := #[.bool false, .int .u64 0, .int .u64 0, .int .u64 0, .int .u64 0]) (t := 27) ?hr ?_; (case hd => rfl); (case hg => rfl); (case hr => first | (go_simp; done) | (go_simp; rfl)); intro gb282 hg w40 hbox hb; have n0_ := Aside0.mk (Kd.R_below (Kd.R_elderB (by (with_reducible repeat (first | apply Kd.R_alloc | apply Kd.R_drewN | apply Kd.R_drew)); exact HO252.out) gb282 (Nat.le_of_eq hg.symm)) hb); have n1_ := bb BK259 hb; have n2_ := bb BK281 hb; have n3_ := Aside0.mk (below_step (by repeat (first | (with_reducible first | exact HB.out | apply qa | apply qn | apply qd | refine qs ?_ GE259.out | refine qs ?_ GE281.out) | exact HB.out)) hb); have n4_ := Aside0.mk (hbox); have n5_ := bgw HB hg; have n6_ := bgw HB hg; have n7_ := bnl BK259 hg; have n8_ := bng BK259 hg; have n9_ := bnl BK281 hg; have n10_ := bng BK281 hg; clear HO252; clear BK259; clear BK281; clear HB; have HO252 := n0_; have BK259 := n1_; have BK281 := n2_; have HB := n3_; have BK282 := n4_; have GW282 := n5_; have GE282 := n6_; have NB259_282 := n7_; have NB282_259 := n8_; have NB281_282 := n9_; have NB282_281 := n10_; clear n0_ n1_ n2_ n3_ n4_ n5_ n6_ n7_ n8_ n9_ n10_; clear hb hbox hg; have hnb41 := NB281_259.out; have hnc41 := NB259_281.out; have hnb42 := NB281_282.out; have hnc42 := NB282_281.out; obtain ⟨hcz43_0, hcz43_1, hcz43_2, hcz43_3, hcz43_4⟩ := cl5 BK281.out; obtain ⟨hfz43_0, hfz43_1, hfz43_2, hfz43_3, hfz43_4⟩ := fr5 BK281.out; have hnb44 := NB282_259.out; have hnc44 := NB259_282.out; obtain ⟨hcz45_0, hcz45_1, hcz45_2, hcz45_3, hcz45_4⟩ := cl5 BK282.out; obtain ⟨hfz45_0, hfz45_1, hfz45_2, hfz45_3, hfz45_4⟩ := fr5 BK282.out) | ((with_reducible refine gate_callee (f := 38) rfl ?_); refine goesL_ (some 26) rfl rfl Try.func38 (by kernel_rfl) rfl #[.int .i64 (-7)] rfl (by (try simp only [List.map_toArray, List.map_cons, List.map_nil]); first | done | rfl | (simp only [List.length_drop, List.length_take]; rfl)) ?_; (with_reducible refine (wide_Of.calls (-7) t283 t284 t285 t286 t287 _ A7.out).mono ?_); rintro e w46 ⟨rfl, hb⟩; refine ⟨_, rfl, ?_⟩; have n0_ := Aside0.mk (Kd.R_below (by (with_reducible repeat (first | apply Kd.R_alloc | apply Kd.R_drewN | apply Kd.R_drew)); exact (Kd.R_mono (Kd.R_mono (Kd.R_far (p := ⟨gb282, 4, none⟩) (Kd.R_far (p := ⟨gb282, 3, none⟩) (Kd.R_far (p := ⟨gb282, 2, none⟩) (Kd.R_far (p := ⟨gb282, 1, none⟩) (Kd.R_far (p := ⟨gb282, 0, none⟩) (Kd.R_far (p := ⟨gb281, 4, none⟩) (Kd.R_far (p := ⟨gb281, 3, none⟩) (Kd.R_far (p := ⟨gb281, 2, none⟩) (Kd.R_far (p := ⟨gb281, 1, none⟩) (Kd.R_far (p := ⟨gb281, 0, none⟩) (Kd.R_mono (Kd.R_mono HO252.out (fun k_ hk => (⟨hk, hk.1.2⟩ : _ ∧ k_ ≠ gb281))) (fun k_ hk => (⟨hk, hk.1.2⟩ : _ ∧ k_ ≠ gb282))) (fun _ hk => hk.1.2) (.bool t270)) (fun _ hk => hk.1.2) (.int .u64 t271)) (fun _ hk => hk.1.2) (.int .u64 t272)) (fun _ hk => hk.1.2) (.int .u64 t273)) (fun _ hk => hk.1.2) (.int .u64 t274)) (fun _ hk => hk.2) (.bool t275)) (fun _ hk => hk.2) (.int .u64 t276)) (fun _ hk => hk.2) (.int .u64 t277)) (fun _ hk => hk.2) (.int .u64 t278)) (fun _ hk => hk.2) (.int .u64 t279)) (fun _ h_ => h_.1)) (fun _ h_ => h_.1))) hb); have n1_ := Aside0.mk (blk_below (g := gb259) (o := .cells #[.bool t253, .int .u64 t254, .int .u64 t255, .int .u64 t256, .int .u64 t257] 27 (0, 0)) (by repeat (with_reducible first | exact lb BK259.out | refine blk_far ?_ NB259_282.out _ | refine blk_far ?_ NB259_281.out _ | refine cn ?_ _ | refine cd ?_ | refine ca ?_ _)) hb); have n2_ := Aside0.mk (blk_below (g := gb281) (o := .cells #[.bool t270, .int .u64 t271, .int .u64 t272, .int .u64 t273, .int .u64 t274] 27 (0, 0)) (by repeat (with_reducible first | exact bp5 (lb BK281.out) | refine blk_far ?_ NB281_282.out _ | refine cn ?_ _ | refine cd ?_ | refine ca ?_ _)) hb); have n3_ := Aside0.mk (blk_below (g := gb282) (o := .cells #[.bool t275, .int .u64 t276, .int .u64 t277, .int .u64 t278, .int .u64 t279] 27 (0, 0)) (by (with_reducible repeat (first | refine cn ?_ _ | refine cd ?_ | refine ca ?_ _)); refine blk_put (cs := #[.bool t275, .int .u64 t276, .int .u64 t277, .int .u64 t278, .int .u64 0]) ?_ 4 _ rfl; (with_reducible repeat (first | refine cn ?_ _ | refine cd ?_ | refine ca ?_ _)); refine blk_put (cs := #[.bool t275, .int .u64 t276, .int .u64 t277, .int .u64 0, .int .u64 0]) ?_ 3 _ rfl; (with_reducible repeat (first | refine cn ?_ _ | refine cd ?_ | refine ca ?_ _)); refine blk_put (cs := #[.bool t275, .int .u64 t276, .int .u64 0, .int .u64 0, .int .u64 0]) ?_ 2 _ rfl; (with_reducible repeat (first | refine cn ?_ _ | refine cd ?_ | refine ca ?_ _)); refine blk_put (cs := #[.bool t275, .int .u64 0, .int .u64 0, .int .u64 0, .int .u64 0]) ?_ 1 _ rfl; (with_reducible repeat (first | refine cn ?_ _ | refine cd ?_ | refine ca ?_ _)); refine blk_put (cs := #[.bool false, .int .u64 0, .int .u64 0, .int .u64 0, .int .u64 0]) ?_ 0 _ rfl; (with_reducible repeat (first | refine cn ?_ _ | refine cd ?_ | refine ca ?_ _)); refine blk_far ?_ NB282_281.out _; (with_reducible repeat (first | refine cn ?_ _ | refine cd ?_ | refine ca ?_ _)); refine blk_far ?_ NB282_281.out _; (with_reducible repeat (first | refine cn ?_ _ | refine cd ?_ | refine ca ?_ _)); refine blk_far ?_ NB282_281.out _; (with_reducible repeat (first | refine cn ?_ _ | refine cd ?_ | refine ca ?_ _)); refine blk_far ?_ NB282_281.out _; (with_reducible repeat (first | refine cn ?_ _ | refine cd ?_ | refine ca ?_ _)); refine blk_far ?_ NB282_281.out _; (with_reducible repeat (first | refine cn ?_ _ | refine cd ?_ | refine ca ?_ _)); exact BK282.out) hb); have n4_ := Aside0.mk (below_step (by repeat (first | (with_reducible first | exact HB.out | apply qa | apply qn | apply qd | refine qs ?_ GE259.out | refine qs ?_ GE281.out | refine qs ?_ GE282.out) | exact HB.out)) hb); clear HO252; clear BK259; clear BK281; clear BK282; clear HB; have HO252 := n0_; have BK259 := n1_; have BK281 := n2_; have BK282 := n3_; have HB := n4_; clear n0_ n1_ n2_ n3_ n4_; (try clear hb); (try clear hb2); (try clear hk); (try clear hi)) | ((with_reducible refine gate_callee (f := 38) rfl ?_); refine goesL_ (some 27) rfl rfl Try.func38 (by kernel_rfl) rfl #[.int .i64 (-2)] rfl (by (try simp only [List.map_toArray, List.map_cons, List.map_nil]); first | done | rfl | (simp only [List.length_drop, List.length_take]; rfl)) ?_; (with_reducible refine (wide_Of.calls (-2) t288 t289 t290 t291 t292 _ A8.out).mono ?_); rintro e w47 ⟨rfl, hb⟩; refine ⟨_, rfl, ?_⟩; have n0_ := Aside0.mk (Kd.R_below (by (with_reducible repeat (first | apply Kd.R_alloc | apply Kd.R_drewN | apply Kd.R_drew)); exact HO252.out) hb); have n1_ := bb BK259 hb; have n2_ := bb BK281 hb; have n3_ := bb BK282 hb; have n4_ := Aside0.mk (below_step (by repeat (first | (with_reducible first | exact HB.out | apply qa | apply qn | apply qd | refine qs ?_ GE259.out | refine qs ?_ GE281.out | refine qs ?_ GE282.out) | exact HB.out)) hb); clear HO252; clear BK259; clear BK281; clear BK282; clear HB; have HO252 := n0_; have BK259 := n1_; have BK281 := n2_; have BK282 := n3_; have HB := n4_; clear n0_ n1_ n2_ n3_ n4_; (try clear hb); (try clear hb2); (try clear hk); (try clear hi)) | ((with_reducible refine gate_callee (f := 23) rfl ?_); refine goesL_ (some 28) rfl rfl Try.func23 (by kernel_rfl) rfl #[.agg #[.bool t283, .int .u64 t284, .int .u64 t285, .int .u64 t286, .int .u64 t287], .agg #[.bool t288, .int .u64 t289, .int .u64 t290, .int .u64 t291, .int .u64 t292]] rfl (by (try simp only [List.map_toArray, List.map_cons, List.map_nil]); first | done | rfl | (simp only [List.length_drop, List.length_take]; rfl)) ?_; (with_reducible refine (wide_DivMod.calls k t283 t284 t285 t286 t287 t288 t289 t290 t291 t292 t293 t294 t295 t296 t297 t298 t299 t300 t301 t302 t303 _ A9.out).mono ?_); rintro e w48 ⟨rfl, hb⟩; refine ⟨_, rfl, ?_⟩; have n0_ := Aside0.mk (Kd.R_below (by (with_reducible repeat (first | apply Kd.R_alloc | apply Kd.R_drewN | apply Kd.R_drew)); exact HO252.out) hb); have n1_ := bb BK259 hb; have n2_ := bb BK281 hb; have n3_ := bb BK282 hb; have n4_ := Aside0.mk (below_step (by repeat (first | (with_reducible first | exact HB.out | apply qa | apply qn | apply qd | refine qs ?_ GE259.out | refine qs ?_ GE281.out | refine qs ?_ GE282.out) | exact HB.out)) hb); clear HO252; clear BK259; clear BK281; clear BK282; clear HB; have HO252 := n0_; have BK259 := n1_; have BK281 := n2_; have BK282 := n3_; have HB := n4_; clear n0_ n1_ n2_ n3_ n4_; (try clear hb); (try clear hb2); (try clear hk); (try clear hi)) | ((with_reducible refine gate_dst (N := 6) rfl ?_); refine box_event ?hg (N := 6) ?hd (cs := #[.bool false, .int .u64 0, .int .u64 0, .int .u64 0, .int .u64 0]) (t := 27) ?hr ?_; (case hd => rfl); (case hg => rfl); (case hr => first | (go_simp; done) | (go_simp; rfl)); intro gb304 hg w49 hbox hb; have n0_ := Aside0.mk (Kd.R_below (Kd.R_elderB (by (with_reducible repeat (first | apply Kd.R_alloc | apply Kd.R_drewN | apply Kd.R_drew)); exact HO252.out) gb304 (Nat.le_of_eq hg.symm)) hb); have n1_ := bb BK259 hb; have n2_ := bb BK281 hb; have n3_ := bb BK282 hb; have n4_ := Aside0.mk (below_step (by repeat (first | (with_reducible first | exact HB.out | apply qa | apply qn | apply qd | refine qs ?_ GE259.out | refine qs ?_ GE281.out | refine qs ?_ GE282.out) | exact HB.out)) hb); have n5_ := Aside0.mk (hbox); have n6_ := bgw HB hg; have n7_ := bgw HB hg; have n8_ := bnl BK259 hg; have n9_ := bng BK259 hg; have n10_ := bnl BK281 hg; have n11_ := bng BK281 hg; have n12_ := bnl BK282 hg; have n13_ := bng BK282 hg; clear HO252; clear BK259; clear BK281; clear BK282; clear HB; have HO252 := n0_; have BK259 := n1_; have BK281 := n2_; have BK282 := n3_; have HB := n4_; have BK304 := n5_; have GW304 := n6_; have GE304 := n7_; have NB259_304 := n8_; have NB304_259 := n9_; have NB281_304 := n10_; have NB304_281 := n11_; have NB282_304 := n12_; have NB304_282 := n13_; clear n0_ n1_ n2_ n3_ n4_ n5_ n6_ n7_ n8_ n9_ n10_ n11_ n12_ n13_; clear hb hbox hg) | ((with_reducible refine gate_dst (N := 7) rfl ?_); refine box_event ?hg (N := 7) ?hd (cs := #[.bool false, .int .u64 0, .int .u64 0, .int .u64 0, .int .u64 0]) (t := 27) ?hr ?_; (case hd => rfl); (case hg => rfl); (case hr => first | (go_simp; done) | (go_simp; rfl)); intro gb305 hg w50 hbox hb; have n0_ := Aside0.mk (Kd.R_below (Kd.R_elderB (by (with_reducible repeat (first | apply Kd.R_alloc | apply Kd.R_drewN | apply Kd.R_drew)); exact HO252.out) gb305 (Nat.le_of_eq hg.symm)) hb); have n1_ := bb BK259 hb; have n2_ := bb BK281 hb; have n3_ := bb BK282 hb; have n4_ := bb BK304 hb; have n5_ := Aside0.mk (below_step (by repeat (first | (with_reducible first | exact HB.out | apply qa | apply qn | apply qd | refine qs ?_ GE259.out | refine qs ?_ GE281.out | refine qs ?_ GE282.out | refine qs ?_ GE304.out) | exact HB.out)) hb); have n6_ := Aside0.mk (hbox); have n7_ := bgw HB hg; have n8_ := bgw HB hg; have n9_ := bnl BK259 hg; have n10_ := bng BK259 hg; have n11_ := bnl BK281 hg; have n12_ := bng BK281 hg; have n13_ := bnl BK282 hg; have n14_ := bng BK282 hg; have n15_ := bnl BK304 hg; have n16_ := bng BK304 hg; clear HO252; clear BK259; clear BK281; clear BK282; clear BK304; clear HB; have HO252 := n0_; have BK259 := n1_; have BK281 := n2_; have BK282 := n3_; have BK304 := n4_; have HB := n5_; have BK305 := n6_; have GW305 := n7_; have GE305 := n8_; have NB259_305 := n9_; have NB305_259 := n10_; have NB281_305 := n11_; have NB305_281 := n12_; have NB282_305 := n13_; have NB305_282 := n14_; have NB304_305 := n15_; have NB305_304 := n16_; clear n0_ n1_ n2_ n3_ n4_ n5_ n6_ n7_ n8_ n9_ n10_ n11_ n12_ n13_ n14_ n15_ n16_; clear hb hbox hg; have hnb51 := NB304_259.out; have hnc51 := NB259_304.out; have hnb52 := NB304_281.out; have hnc52 := NB281_304.out; have hnb53 := NB304_282.out; have hnc53 := NB282_304.out; have hnb54 := NB304_305.out; have hnc54 := NB305_304.out; obtain ⟨hcz55_0, hcz55_1, hcz55_2, hcz55_3, hcz55_4⟩ := cl5 BK304.out; obtain ⟨hfz55_0, hfz55_1, hfz55_2, hfz55_3, hfz55_4⟩ := fr5 BK304.out; have hnb56 := NB305_259.out; have hnc56 := NB259_305.out; have hnb57 := NB305_281.out; have hnc57 := NB281_305.out; have hnb58 := NB305_282.out; have hnc58 := NB282_305.out; obtain ⟨hcz59_0, hcz59_1, hcz59_2, hcz59_3, hcz59_4⟩ := cl5 BK305.out; obtain ⟨hfz59_0, hfz59_1, hfz59_2, hfz59_3, hfz59_4⟩ := fr5 BK305.out) | ((with_reducible refine gate_callee (f := 31) rfl ?_); refine goesL_ (some 33) rfl rfl Try.func31 (by kernel_rfl) rfl #[.string (⟨#[49, 56, 52, 52, 54, 55, 52, 52, 48, 55, 51, 55, 48, 57, 53, 53, 49, 54, 49, 54]⟩ : ByteArray)] rfl (by (try simp only [List.map_toArray, List.map_cons, List.map_nil]); first | done | rfl | (simp only [List.length_drop, List.length_take]; rfl)) ?_; (with_reducible refine (wide_Parse.calls (⟨#[49, 56, 52, 52, 54, 55, 52, 52, 48, 55, 51, 55, 48, 57, 53, 53, 49, 54, 49, 54]⟩ : ByteArray) t306 t307 t308 t309 t310 t311 _ A10.out).mono ?_); rintro e w60 ⟨rfl, hb⟩; refine ⟨_, rfl, ?_⟩; have n0_ := Aside0.mk (Kd.R_below (by (with_reducible repeat (first | apply Kd.R_alloc | apply Kd.R_drewN | apply Kd.R_drew)); exact (Kd.R_mono (Kd.R_mono (Kd.R_far (p := ⟨gb305, 4, none⟩) (Kd.R_far (p := ⟨gb305, 3, none⟩) (Kd.R_far (p := ⟨gb305, 2, none⟩) (Kd.R_far (p := ⟨gb305, 1, none⟩) (Kd.R_far (p := ⟨gb305, 0, none⟩) (Kd.R_far (p := ⟨gb304, 4, none⟩) (Kd.R_far (p := ⟨gb304, 3, none⟩) (Kd.R_far (p := ⟨gb304, 2, none⟩) (Kd.R_far (p := ⟨gb304, 1, none⟩) (Kd.R_far (p := ⟨gb304, 0, none⟩) (Kd.R_mono (Kd.R_mono HO252.out (fun k_ hk => (⟨hk, hk.1.2⟩ : _ ∧ k_ ≠ gb304))) (fun k_ hk => (⟨hk, hk.1.2⟩ : _ ∧ k_ ≠ gb305))) (fun _ hk => hk.1.2) (.bool t293)) (fun _ hk => hk.1.2) (.int .u64 t294)) (fun _ hk => hk.1.2) (.int .u64 t295)) (fun _ hk => hk.1.2) (.int .u64 t296)) (fun _ hk => hk.1.2) (.int .u64 t297)) (fun _ hk => hk.2) (.bool t298)) (fun _ hk => hk.2) (.int .u64 t299)) (fun _ hk => hk.2) (.int .u64 t300)) (fun _ hk => hk.2) (.int .u64 t301)) (fun _ hk => hk.2) (.int .u64 t302)) (fun _ h_ => h_.1)) (fun _ h_ => h_.1))) hb); have n1_ := Aside0.mk (blk_below (g := gb259) (o := .cells #[.bool t253, .int .u64 t254, .int .u64 t255, .int .u64 t256, .int .u64 t257] 27 (0, 0)) (by repeat (with_reducible first | exact lb BK259.out | refine blk_far ?_ NB259_305.out _ | refine blk_far ?_ NB259_304.out _ | refine cn ?_ _ | refine cd ?_ | refine ca ?_ _)) hb); have n2_ := Aside0.mk (blk_below (g := gb281) (o := .cells #[.bool t270, .int .u64 t271, .int .u64 t272, .int .u64 t273, .int .u64 t274] 27 (0, 0)) (by repeat (with_reducible first | exact lb BK281.out | refine blk_far ?_ NB281_305.out _ | refine blk_far ?_ NB281_304.out _ | refine cn ?_ _ | refine cd ?_ | refine ca ?_ _)) hb); have n3_ := Aside0.mk (blk_below (g := gb282) (o := .cells #[.bool t275, .int .u64 t276, .int .u64 t277, .int .u64 t278, .int .u64 t279] 27 (0, 0)) (by repeat (with_reducible first | exact lb BK282.out | refine blk_far ?_ NB282_305.out _ | refine blk_far ?_ NB282_304.out _ | refine cn ?_ _ | refine cd ?_ | refine ca ?_ _)) hb); have n4_ := Aside0.mk (blk_below (g := gb304) (o := .cells #[.bool t293, .int .u64 t294, .int .u64 t295, .int .u64 t296, .int .u64 t297] 27 (0, 0)) (by repeat (with_reducible first | exact bp5 (lb BK304.out) | refine blk_far ?_ NB304_305.out _ | refine cn ?_ _ | refine cd ?_ | refine ca ?_ _)) hb); have n5_ := Aside0.mk (blk_below (g := gb305) (o := .cells #[.bool t298, .int .u64 t299, .int .u64 t300, .int .u64 t301, .int .u64 t302] 27 (0, 0)) (by (with_reducible repeat (first | refine cn ?_ _ | refine cd ?_ | refine ca ?_ _)); refine blk_put (cs := #[.bool t298, .int .u64 t299, .int .u64 t300, .int .u64 t301, .int .u64 0]) ?_ 4 _ rfl; (with_reducible repeat (first | refine cn ?_ _ | refine cd ?_ | refine ca ?_ _)); refine blk_put (cs := #[.bool t298, .int .u64 t299, .int .u64 t300, .int .u64 0, .int .u64 0]) ?_ 3 _ rfl; (with_reducible repeat (first | refine cn ?_ _ | refine cd ?_ | refine ca ?_ _)); refine blk_put (cs := #[.bool t298, .int .u64 t299, .int .u64 0, .int .u64 0, .int .u64 0]) ?_ 2 _ rfl; (with_reducible repeat (first | refine cn ?_ _ | refine cd ?_ | refine ca ?_ _)); refine blk_put (cs := #[.bool t298, .int .u64 0, .int .u64 0, .int .u64 0, .int .u64 0]) ?_ 1 _ rfl; (with_reducible repeat (first | refine cn ?_ _ | refine cd ?_ | refine ca ?_ _)); refine blk_put (cs := #[.bool false, .int .u64 0, .int .u64 0, .int .u64 0, .int .u64 0]) ?_ 0 _ rfl; (with_reducible repeat (first | refine cn ?_ _ | refine cd ?_ | refine ca ?_ _)); refine blk_far ?_ NB305_304.out _; (with_reducible repeat (first | refine cn ?_ _ | refine cd ?_ | refine ca ?_ _)); refine blk_far ?_ NB305_304.out _; (with_reducible repeat (first | refine cn ?_ _ | refine cd ?_ | refine ca ?_ _)); refine blk_far ?_ NB305_304.out _; (with_reducible repeat (first | refine cn ?_ _ | refine cd ?_ | refine ca ?_ _)); refine blk_far ?_ NB305_304.out _; (with_reducible repeat (first | refine cn ?_ _ | refine cd ?_ | refine ca ?_ _)); refine blk_far ?_ NB305_304.out _; (with_reducible repeat (first | refine cn ?_ _ | refine cd ?_ | refine ca ?_ _)); exact BK305.out) hb); have n6_ := Aside0.mk (below_step (by repeat (first | (with_reducible first | exact HB.out | apply qa | apply qn | apply qd | refine qs ?_ GE259.out | refine qs ?_ GE281.out | refine qs ?_ GE282.out | refine qs ?_ GE304.out | refine qs ?_ GE305.out) | exact HB.out)) hb); clear HO252; clear BK259; clear BK281; clear BK282; clear BK304; clear BK305; clear HB; have HO252 := n0_; have BK259 := n1_; have BK281 := n2_; have BK282 := n3_; have BK304 := n4_; have BK305 := n5_; have HB := n6_; clear n0_ n1_ n2_ n3_ n4_ n5_ n6_; (try clear hb); (try clear hb2); (try clear hk); (try clear hi)) | ((with_reducible refine gate_dst (N := 9) rfl ?_); refine box_event ?hg (N := 9) ?hd (cs := #[.bool false, .int .u64 0, .int .u64 0, .int .u64 0, .int .u64 0]) (t := 27) ?hr ?_; (case hd => rfl); (case hg => rfl); (case hr => first | (go_simp; done) | (go_simp; rfl)); intro gb312 hg w61 hbox hb; have n0_ := Aside0.mk (Kd.R_below (Kd.R_elderB (by (with_reducible repeat (first | apply Kd.R_alloc | apply Kd.R_drewN | apply Kd.R_drew)); exact HO252.out) gb312 (Nat.le_of_eq hg.symm)) hb); have n1_ := bb BK259 hb; have n2_ := bb BK281 hb; have n3_ := bb BK282 hb; have n4_ := bb BK304 hb; have n5_ := bb BK305 hb; have n6_ := Aside0.mk (below_step (by repeat (first | (with_reducible first | exact HB.out | apply qa | apply qn | apply qd | refine qs ?_ GE259.out | refine qs ?_ GE281.out | refine qs ?_ GE282.out | refine qs ?_ GE304.out | refine qs ?_ GE305.out) | exact HB.out)) hb); have n7_ := Aside0.mk (hbox); have n8_ := bgw HB hg; have n9_ := bgw HB hg; have n10_ := bnl BK259 hg; have n11_ := bng BK259 hg; have n12_ := bnl BK281 hg; have n13_ := bng BK281 hg; have n14_ := bnl BK282 hg; have n15_ := bng BK282 hg; have n16_ := bnl BK304 hg; have n17_ := bng BK304 hg; have n18_ := bnl BK305 hg; have n19_ := bng BK305 hg; clear HO252; clear BK259; clear BK281; clear BK282; clear BK304; clear BK305; clear HB; have HO252 := n0_; have BK259 := n1_; have BK281 := n2_; have BK282 := n3_; have BK304 := n4_; have BK305 := n5_; have HB := n6_; have BK312 := n7_; have GW312 := n8_; have GE312 := n9_; have NB259_312 := n10_; have NB312_259 := n11_; have NB281_312 := n12_; have NB312_281 := n13_; have NB282_312 := n14_; have NB312_282 := n15_; have NB304_312 := n16_; have NB312_304 := n17_; have NB305_312 := n18_; have NB312_305 := n19_; clear n0_ n1_ n2_ n3_ n4_ n5_ n6_ n7_ n8_ n9_ n10_ n11_ n12_ n13_ n14_ n15_ n16_ n17_ n18_ n19_; clear hb hbox hg; have hnb62 := NB312_259.out; have hnc62 := NB259_312.out; have hnb63 := NB312_281.out; have hnc63 := NB281_312.out; have hnb64 := NB312_282.out; have hnc64 := NB282_312.out; have hnb65 := NB312_304.out; have hnc65 := NB304_312.out; have hnb66 := NB312_305.out; have hnc66 := NB305_312.out; obtain ⟨hcz67_0, hcz67_1, hcz67_2, hcz67_3, hcz67_4⟩ := cl5 BK312.out; obtain ⟨hfz67_0, hfz67_1, hfz67_2, hfz67_3, hfz67_4⟩ := fr5 BK312.out))
 have n0_ : Aside0 (Kd.R k27 27 (((((w61.setCell ⟨gb312, 0, none⟩ (.bool t306)).setCell ⟨gb312, 1, none⟩ (.int .u64 t307)).setCell ⟨gb312, 2, none⟩ (.int .u64 t308)).setCell ⟨gb312, 3, none⟩ (.int .u64 t309)).setCell ⟨gb312, 4, none⟩ (.int .u64 t310)) w.heap.size (fun k_ => k_ ≠ gb259 ∧ k_ ≠ gb281 ∧ k_ ≠ gb282 ∧ k_ ≠ gb304 ∧ k_ ≠ gb305 ∧ k_ ≠ gb312) (.slice Ao32 y250.length co32) y250) := ⟨by (with_reducible repeat (first | apply Kd.R_alloc | apply Kd.R_drewN | apply Kd.R_drew)); exact Kd.R_mono (Kd.R_far (p := ⟨gb312, 4, none⟩) (Kd.R_far (p := ⟨gb312, 3, none⟩) (Kd.R_far (p := ⟨gb312, 2, none⟩) (Kd.R_far (p := ⟨gb312, 1, none⟩) (Kd.R_far (p := ⟨gb312, 0, none⟩) (Kd.R_mono HO252.out (fun k_ hk => (⟨hk, hk.2⟩ : _ ∧ k_ ≠ gb312))) (fun _ hk => hk.2) (.bool t306)) (fun _ hk => hk.2) (.int .u64 t307)) (fun _ hk => hk.2) (.int .u64 t308)) (fun _ hk => hk.2) (.int .u64 t309)) (fun _ hk => hk.2) (.int .u64 t310)) (fun _ hk => ⟨hk.1.1.1.1.1.1.2, ⟨hk.1.1.1.1.1.2, ⟨hk.1.1.1.1.2, ⟨hk.1.1.1.2, ⟨hk.1.1.2, hk.1.2⟩⟩⟩⟩⟩)⟩
 have n1_ : Aside0 ((((((w61.setCell ⟨gb312, 0, none⟩ (.bool t306)).setCell ⟨gb312, 1, none⟩ (.int .u64 t307)).setCell ⟨gb312, 2, none⟩ (.int .u64 t308)).setCell ⟨gb312, 3, none⟩ (.int .u64 t309)).setCell ⟨gb312, 4, none⟩ (.int .u64 t310)).heap[gb259]? = some (.cells #[.bool t253, .int .u64 t254, .int .u64 t255, .int .u64 t256, .int .u64 t257] 27 (0, 0))) := ⟨by repeat (with_reducible first | exact lb BK259.out | refine blk_far ?_ NB259_312.out _ | refine cn ?_ _ | refine cd ?_ | refine ca ?_ _)⟩
 have n2_ : Aside0 ((((((w61.setCell ⟨gb312, 0, none⟩ (.bool t306)).setCell ⟨gb312, 1, none⟩ (.int .u64 t307)).setCell ⟨gb312, 2, none⟩ (.int .u64 t308)).setCell ⟨gb312, 3, none⟩ (.int .u64 t309)).setCell ⟨gb312, 4, none⟩ (.int .u64 t310)).heap[gb281]? = some (.cells #[.bool t270, .int .u64 t271, .int .u64 t272, .int .u64 t273, .int .u64 t274] 27 (0, 0))) := ⟨by repeat (with_reducible first | exact lb BK281.out | refine blk_far ?_ NB281_312.out _ | refine cn ?_ _ | refine cd ?_ | refine ca ?_ _)⟩
 have n3_ : Aside0 ((((((w61.setCell ⟨gb312, 0, none⟩ (.bool t306)).setCell ⟨gb312, 1, none⟩ (.int .u64 t307)).setCell ⟨gb312, 2, none⟩ (.int .u64 t308)).setCell ⟨gb312, 3, none⟩ (.int .u64 t309)).setCell ⟨gb312, 4, none⟩ (.int .u64 t310)).heap[gb282]? = some (.cells #[.bool t275, .int .u64 t276, .int .u64 t277, .int .u64 t278, .int .u64 t279] 27 (0, 0))) := ⟨by repeat (with_reducible first | exact lb BK282.out | refine blk_far ?_ NB282_312.out _ | refine cn ?_ _ | refine cd ?_ | refine ca ?_ _)⟩
 have n4_ : Aside0 ((((((w61.setCell ⟨gb312, 0, none⟩ (.bool t306)).setCell ⟨gb312, 1, none⟩ (.int .u64 t307)).setCell ⟨gb312, 2, none⟩ (.int .u64 t308)).setCell ⟨gb312, 3, none⟩ (.int .u64 t309)).setCell ⟨gb312, 4, none⟩ (.int .u64 t310)).heap[gb304]? = some (.cells #[.bool t293, .int .u64 t294, .int .u64 t295, .int .u64 t296, .int .u64 t297] 27 (0, 0))) := ⟨by repeat (with_reducible first | exact lb BK304.out | refine blk_far ?_ NB304_312.out _ | refine cn ?_ _ | refine cd ?_ | refine ca ?_ _)⟩
 have n5_ : Aside0 ((((((w61.setCell ⟨gb312, 0, none⟩ (.bool t306)).setCell ⟨gb312, 1, none⟩ (.int .u64 t307)).setCell ⟨gb312, 2, none⟩ (.int .u64 t308)).setCell ⟨gb312, 3, none⟩ (.int .u64 t309)).setCell ⟨gb312, 4, none⟩ (.int .u64 t310)).heap[gb305]? = some (.cells #[.bool t298, .int .u64 t299, .int .u64 t300, .int .u64 t301, .int .u64 t302] 27 (0, 0))) := ⟨by repeat (with_reducible first | exact lb BK305.out | refine blk_far ?_ NB305_312.out _ | refine cn ?_ _ | refine cd ?_ | refine ca ?_ _)⟩
 have n6_ : Aside0 ((((((w61.setCell ⟨gb312, 0, none⟩ (.bool t306)).setCell ⟨gb312, 1, none⟩ (.int .u64 t307)).setCell ⟨gb312, 2, none⟩ (.int .u64 t308)).setCell ⟨gb312, 3, none⟩ (.int .u64 t309)).setCell ⟨gb312, 4, none⟩ (.int .u64 t310)).heap[gb312]? = some (.cells #[.bool t306, .int .u64 t307, .int .u64 t308, .int .u64 t309, .int .u64 t310] 27 (0, 0))) := ⟨by repeat (with_reducible first | exact bp5 (lb BK312.out) | refine cn ?_ _ | refine cd ?_ | refine ca ?_ _)⟩
 have n7_ : Aside0 (Below w.heap.size w (((((w61.setCell ⟨gb312, 0, none⟩ (.bool t306)).setCell ⟨gb312, 1, none⟩ (.int .u64 t307)).setCell ⟨gb312, 2, none⟩ (.int .u64 t308)).setCell ⟨gb312, 3, none⟩ (.int .u64 t309)).setCell ⟨gb312, 4, none⟩ (.int .u64 t310))) := ⟨by repeat (first | (with_reducible first | exact HB.out | apply qa | apply qn | apply qd | refine qs ?_ GE259.out | refine qs ?_ GE281.out | refine qs ?_ GE282.out | refine qs ?_ GE304.out | refine qs ?_ GE305.out | refine qs ?_ GE312.out) | exact HB.out)⟩
 (try clear HO252)
 (try clear BK259)
 (try clear BK281)
 (try clear BK282)
 (try clear BK304)
 (try clear BK305)
 (try clear BK312)
 (try clear HB)
 generalize (((((w61.setCell ⟨gb312, 0, none⟩ (.bool t306)).setCell ⟨gb312, 1, none⟩ (.int .u64 t307)).setCell ⟨gb312, 2, none⟩ (.int .u64 t308)).setCell ⟨gb312, 3, none⟩ (.int .u64 t309)).setCell ⟨gb312, 4, none⟩ (.int .u64 t310)) = w68 at n0_ n1_ n2_ n3_ n4_ n5_ n6_ n7_ ⊢
 have HO252 := n0_
 have BK259 := n1_
 have BK281 := n2_
 have BK282 := n3_
 have BK304 := n4_
 have BK305 := n5_
 have BK312 := n6_
 have HB := n7_
 clear n0_ n1_ n2_ n3_ n4_ n5_ n6_ n7_
 have n0_ := Aside0.mk (Kd.R_drew HO252.out)
 have n1_ := Aside0.mk (blk_drew BK259.out)
 have n2_ := Aside0.mk (blk_drew BK281.out)
 have n3_ := Aside0.mk (blk_drew BK282.out)
 have n4_ := Aside0.mk (blk_drew BK304.out)
 have n5_ := Aside0.mk (blk_drew BK305.out)
 have n6_ := Aside0.mk (blk_drew BK312.out)
 have n7_ := Aside0.mk (below_drew1 HB.out)
 clear HO252
 clear BK259
 clear BK281
 clear BK282
 clear BK304
 clear BK305
 clear BK312
 clear HB
 have HO252 := n0_
 have BK259 := n1_
 have BK281 := n2_
 have BK282 := n3_
 have BK304 := n4_
 have BK305 := n5_
 have BK312 := n6_
 have HB := n7_
 clear n0_ n1_ n2_ n3_ n4_ n5_ n6_ n7_
 refine start_ (n := 55) (S := fun w' => w'.cell? ⟨gb259, 0, none⟩ = some (.bool t253) ∧ w'.cell? ⟨gb259, 1, none⟩ = some (.int .u64 t254) ∧ w'.cell? ⟨gb259, 2, none⟩ = some (.int .u64 t255) ∧ w'.cell? ⟨gb259, 3, none⟩ = some (.int .u64 t256) ∧ w'.cell? ⟨gb259, 4, none⟩ = some (.int .u64 t257) ∧ w'.cell? ⟨gb281, 0, none⟩ = some (.bool t270) ∧ w'.cell? ⟨gb281, 1, none⟩ = some (.int .u64 t271) ∧ w'.cell? ⟨gb281, 2, none⟩ = some (.int .u64 t272) ∧ w'.cell? ⟨gb281, 3, none⟩ = some (.int .u64 t273) ∧ w'.cell? ⟨gb281, 4, none⟩ = some (.int .u64 t274) ∧ w'.cell? ⟨gb282, 0, none⟩ = some (.bool t275) ∧ w'.cell? ⟨gb282, 1, none⟩ = some (.int .u64 t276) ∧ w'.cell? ⟨gb282, 2, none⟩ = some (.int .u64 t277) ∧ w'.cell? ⟨gb282, 3, none⟩ = some (.int .u64 t278) ∧ w'.cell? ⟨gb282, 4, none⟩ = some (.int .u64 t279) ∧ w'.cell? ⟨gb304, 0, none⟩ = some (.bool t293) ∧ w'.cell? ⟨gb304, 1, none⟩ = some (.int .u64 t294) ∧ w'.cell? ⟨gb304, 2, none⟩ = some (.int .u64 t295) ∧ w'.cell? ⟨gb304, 3, none⟩ = some (.int .u64 t296) ∧ w'.cell? ⟨gb304, 4, none⟩ = some (.int .u64 t297) ∧ w'.cell? ⟨gb305, 0, none⟩ = some (.bool t298) ∧ w'.cell? ⟨gb305, 1, none⟩ = some (.int .u64 t299) ∧ w'.cell? ⟨gb305, 2, none⟩ = some (.int .u64 t300) ∧ w'.cell? ⟨gb305, 3, none⟩ = some (.int .u64 t301) ∧ w'.cell? ⟨gb305, 4, none⟩ = some (.int .u64 t302) ∧ w'.cell? ⟨gb312, 0, none⟩ = some (.bool t306) ∧ w'.cell? ⟨gb312, 1, none⟩ = some (.int .u64 t307) ∧ w'.cell? ⟨gb312, 2, none⟩ = some (.int .u64 t308) ∧ w'.cell? ⟨gb312, 3, none⟩ = some (.int .u64 t309) ∧ w'.cell? ⟨gb312, 4, none⟩ = some (.int .u64 t310)) (ds := []) #[Ff, Ff, Ff, Ff, Ff, Ff, Ff, Ff, Ff, Ff, Ff, Ff, Ff, Ff, Ff, Ff, Ff, Ff, Ff, Ff, Ff, Ff, Ff, Ff, Ff, Ff, Ff, Ff, Ff, Ff, Ff, Ff, Ff, Ff, Ff, Ff, Ff, Ff, Ff, Ff, Ff, Ff, Ff, Ff, Ff, Ff, Ff, Ff, Ff, Ff, Ff, Ff, Ff, Ff, Ff] (by kernel_rfl) rfl rfl ⟨(blk_cell BK259.out 0).trans rfl, (blk_cell BK259.out 1).trans rfl, (blk_cell BK259.out 2).trans rfl, (blk_cell BK259.out 3).trans rfl, (blk_cell BK259.out 4).trans rfl, (blk_cell BK281.out 0).trans rfl, (blk_cell BK281.out 1).trans rfl, (blk_cell BK281.out 2).trans rfl, (blk_cell BK281.out 3).trans rfl, (blk_cell BK281.out 4).trans rfl, (blk_cell BK282.out 0).trans rfl, (blk_cell BK282.out 1).trans rfl, (blk_cell BK282.out 2).trans rfl, (blk_cell BK282.out 3).trans rfl, (blk_cell BK282.out 4).trans rfl, (blk_cell BK304.out 0).trans rfl, (blk_cell BK304.out 1).trans rfl, (blk_cell BK304.out 2).trans rfl, (blk_cell BK304.out 3).trans rfl, (blk_cell BK304.out 4).trans rfl, (blk_cell BK305.out 0).trans rfl, (blk_cell BK305.out 1).trans rfl, (blk_cell BK305.out 2).trans rfl, (blk_cell BK305.out 3).trans rfl, (blk_cell BK305.out 4).trans rfl, (blk_cell BK312.out 0).trans rfl, (blk_cell BK312.out 1).trans rfl, (blk_cell BK312.out 2).trans rfl, (blk_cell BK312.out 3).trans rfl, (blk_cell BK312.out 4).trans rfl⟩ (fun hHeld => ?_); refine with_tabW parquetlaw01_known1.tab5 parquetlaw01_known1.bits5 (fun HT_ HW_ => ?_)
 generalize w68.drew = w69 at HO252 BK259 BK281 BK282 BK304 BK305 BK312 HB hHeld ⊢
 refine pure_ (i := 0) (N := some 36) (v := ?_) (a' := ?_) #[Tt, Ff, Ff, Ff, Ff, Ff, Ff, Ff, Ff, Ff, Ff, Ff, Ff, Ff, Ff, Ff, Ff, Ff, Ff, Ff, Ff, Ff, Ff, Ff, Ff, Ff, Ff, Ff, Ff, Ff, Ff, Ff, Ff, Ff, Ff, Ff, Ff, Ff, Ff, Ff, Ff, Ff, Ff, Ff, Ff, Ff, Ff, Ff, Ff, Ff, Ff, Ff, Ff, Ff, Ff] rfl rfl (any_of HT_.out (by kernel_rfl)) (fun _ _ _ h => h) (Or.inl ⟨by rfl, ?_⟩) ?_ ?_
 rotate_left
 ·intro w'
  go_simp
  with_reducible rfl
 rotate_left
 ·simp only [Act.put, List.setIfInBounds_toArray, List.set_cons_zero, List.set_cons_succ, i64_w, i32_w]
  rfl
 refine pure_ (i := 1) (N := some 37) (v := ?_) (a' := ?_) #[Tt, Tt, Ff, Ff, Ff, Ff, Ff, Ff, Ff, Ff, Ff, Ff, Ff, Ff, Ff, Ff, Ff, Ff, Ff, Ff, Ff, Ff, Ff, Ff, Ff, Ff, Ff, Ff, Ff, Ff, Ff, Ff, Ff, Ff, Ff, Ff, Ff, Ff, Ff, Ff, Ff, Ff, Ff, Ff, Ff, Ff, Ff, Ff, Ff, Ff, Ff, Ff, Ff, Ff, Ff] rfl rfl (any_of HT_.out (by kernel_rfl)) (fun _ _ _ h => h) (Or.inl ⟨by rfl, ?_⟩) ?_ ?_
 rotate_left
 ·intro w'
  go_simp
  with_reducible rfl
 rotate_left
 ·simp only [Act.put, List.setIfInBounds_toArray, List.set_cons_zero, List.set_cons_succ, i64_w, i32_w]
  rfl
 refine pure_ (i := 2) (N := some 38) (v := ?_) (a' := ?_) #[Tt, Tt, Tt, Ff, Ff, Ff, Ff, Ff, Ff, Ff, Ff, Ff, Ff, Ff, Ff, Ff, Ff, Ff, Ff, Ff, Ff, Ff, Ff, Ff, Ff, Ff, Ff, Ff, Ff, Ff, Ff, Ff, Ff, Ff, Ff, Ff, Ff, Ff, Ff, Ff, Ff, Ff, Ff, Ff, Ff, Ff, Ff, Ff, Ff, Ff, Ff, Ff, Ff, Ff, Ff] rfl rfl (any_of HT_.out (by kernel_rfl)) (fun _ _ _ h => h) (Or.inl ⟨by rfl, ?_⟩) ?_ ?_
 rotate_left
 ·intro w'
  go_simp
  with_reducible rfl
 rotate_left
 ·simp only [Act.put, List.setIfInBounds_toArray, List.set_cons_zero, List.set_cons_succ, i64_w, i32_w]
  rfl
 refine pure_ (i := 4) (N := some 40) (v := ?_) (a' := ?_) #[Tt, Tt, Tt, Ff, Tt, Ff, Ff, Ff, Ff, Ff, Ff, Ff, Ff, Ff, Ff, Ff, Ff, Ff, Ff, Ff, Ff, Ff, Ff, Ff, Ff, Ff, Ff, Ff, Ff, Ff, Ff, Ff, Ff, Ff, Ff, Ff, Ff, Ff, Ff, Ff, Ff, Ff, Ff, Ff, Ff, Ff, Ff, Ff, Ff, Ff, Ff, Ff, Ff, Ff, Ff] rfl rfl (any_of HT_.out (by kernel_rfl)) (fun _ _ _ h => h) (Or.inl ⟨by rfl, ?_⟩) ?_ ?_
 rotate_left
 ·intro w'
  go_simp
  with_reducible rfl
 rotate_left
 ·simp only [Act.put, List.setIfInBounds_toArray, List.set_cons_zero, List.set_cons_succ, i64_w, i32_w]
  rfl
 refine pure_ (i := 5) (N := some 41) (v := ?_) (a' := ?_) #[Tt, Tt, Tt, Ff, Tt, Tt, Ff, Ff, Ff, Ff, Ff, Ff, Ff, Ff, Ff, Ff, Ff, Ff, Ff, Ff, Ff, Ff, Ff, Ff, Ff, Ff, Ff, Ff, Ff, Ff, Ff, Ff, Ff, Ff, Ff, Ff, Ff, Ff, Ff, Ff, Ff, Ff, Ff, Ff, Ff, Ff, Ff, Ff, Ff, Ff, Ff, Ff, Ff, Ff, Ff] rfl rfl (any_of HT_.out (by kernel_rfl)) (fun _ _ _ h => h) (Or.inl ⟨by rfl, ?_⟩) ?_ ?_
 rotate_left
 ·intro w'
  go_simp
  with_reducible rfl
 rotate_left
 ·simp only [Act.put, List.setIfInBounds_toArray, List.set_cons_zero, List.set_cons_succ, i64_w, i32_w]
  rfl
 refine take_ (i := 3) (N := some 39) (v := ?_) (a' := ?_) #[Tt, Tt, Tt, Tt, Tt, Tt, Ff, Ff, Ff, Ff, Ff, Ff, Ff, Ff, Ff, Ff, Ff, Ff, Ff, Ff, Ff, Ff, Ff, Ff, Ff, Ff, Ff, Ff, Ff, Ff, Ff, Ff, Ff, Ff, Ff, Ff, Ff, Ff, Ff, Ff, Ff, Ff, Ff, Ff, Ff, Ff, Ff, Ff, Ff, Ff, Ff, Ff, Ff, Ff, Ff] rfl rfl (take_ofW HT_.out HW_.out (by kernel_rfl)) (fun _ _ _ h => h) (Or.inl ⟨by rfl, ?_⟩) hHeld ?_ ?_
 rotate_left
 ·rintro w' ⟨s0, s1, s2, s3, s4, s5, s6, s7, s8, s9, s10, s11, s12, s13, s14, s15, s16, s17, s18, s19, s20, s21, s22, s23, s24, s25, s26, s27, s28, s29⟩
  go_simp
  with_reducible rfl
 rotate_left
 ·simp only [Act.put, List.setIfInBounds_toArray, List.set_cons_zero, List.set_cons_succ, i64_w, i32_w]
  rfl
 refine pure_ (i := 6) (N := some 42) (v := ?_) (a' := ?_) #[Tt, Tt, Tt, Tt, Tt, Tt, Tt, Ff, Ff, Ff, Ff, Ff, Ff, Ff, Ff, Ff, Ff, Ff, Ff, Ff, Ff, Ff, Ff, Ff, Ff, Ff, Ff, Ff, Ff, Ff, Ff, Ff, Ff, Ff, Ff, Ff, Ff, Ff, Ff, Ff, Ff, Ff, Ff, Ff, Ff, Ff, Ff, Ff, Ff, Ff, Ff, Ff, Ff, Ff, Ff] rfl rfl (any_of HT_.out (by kernel_rfl)) (fun _ _ _ h => h) (Or.inl ⟨by rfl, ?_⟩) ?_ ?_
 rotate_left
 ·intro w'
  go_simp
  with_reducible rfl
 rotate_left
 ·simp only [Act.put, List.setIfInBounds_toArray, List.set_cons_zero, List.set_cons_succ, i64_w, i32_w]
  rfl
 refine pure_ (i := 7) (N := some 43) (v := ?_) (a' := ?_) #[Tt, Tt, Tt, Tt, Tt, Tt, Tt, Tt, Ff, Ff, Ff, Ff, Ff, Ff, Ff, Ff, Ff, Ff, Ff, Ff, Ff, Ff, Ff, Ff, Ff, Ff, Ff, Ff, Ff, Ff, Ff, Ff, Ff, Ff, Ff, Ff, Ff, Ff, Ff, Ff, Ff, Ff, Ff, Ff, Ff, Ff, Ff, Ff, Ff, Ff, Ff, Ff, Ff, Ff, Ff] rfl rfl (any_of HT_.out (by kernel_rfl)) (fun _ _ _ h => h) (Or.inl ⟨by rfl, ?_⟩) ?_ ?_
 rotate_left
 ·intro w'
  go_simp
  with_reducible rfl
 rotate_left
 ·simp only [Act.put, List.setIfInBounds_toArray, List.set_cons_zero, List.set_cons_succ, i64_w, i32_w]
  rfl
 refine pure_ (i := 8) (N := some 44) (v := ?_) (a' := ?_) #[Tt, Tt, Tt, Tt, Tt, Tt, Tt, Tt, Tt, Ff, Ff, Ff, Ff, Ff, Ff, Ff, Ff, Ff, Ff, Ff, Ff, Ff, Ff, Ff, Ff, Ff, Ff, Ff, Ff, Ff, Ff, Ff, Ff, Ff, Ff, Ff, Ff, Ff, Ff, Ff, Ff, Ff, Ff, Ff, Ff, Ff, Ff, Ff, Ff, Ff, Ff, Ff, Ff, Ff, Ff] rfl rfl (any_of HT_.out (by kernel_rfl)) (fun _ _ _ h => h) (Or.inl ⟨by rfl, ?_⟩) ?_ ?_
 rotate_left
 ·intro w'
  go_simp
  with_reducible rfl
 rotate_left
 ·simp only [Act.put, List.setIfInBounds_toArray, List.set_cons_zero, List.set_cons_succ, i64_w, i32_w]
  rfl
 refine take_ (i := 9) (N := some 45) (v := ?_) (a' := ?_) #[Tt, Tt, Tt, Tt, Tt, Tt, Tt, Tt, Tt, Tt, Ff, Ff, Ff, Ff, Ff, Ff, Ff, Ff, Ff, Ff, Ff, Ff, Ff, Ff, Ff, Ff, Ff, Ff, Ff, Ff, Ff, Ff, Ff, Ff, Ff, Ff, Ff, Ff, Ff, Ff, Ff, Ff, Ff, Ff, Ff, Ff, Ff, Ff, Ff, Ff, Ff, Ff, Ff, Ff, Ff] rfl rfl (take_ofW HT_.out HW_.out (by kernel_rfl)) (fun _ _ _ h => h) (Or.inl ⟨by rfl, ?_⟩) hHeld ?_ ?_
 rotate_left
 ·rintro w' ⟨s0, s1, s2, s3, s4, s5, s6, s7, s8, s9, s10, s11, s12, s13, s14, s15, s16, s17, s18, s19, s20, s21, s22, s23, s24, s25, s26, s27, s28, s29⟩
  go_simp
  with_reducible rfl
 rotate_left
 ·simp only [Act.put, List.setIfInBounds_toArray, List.set_cons_zero, List.set_cons_succ, i64_w, i32_w]
  rfl
 refine one_ (i := 10) (N := some 46) #[Tt, Tt, Tt, Tt, Tt, Tt, Tt, Tt, Tt, Tt, Tt, Ff, Ff, Ff, Ff, Ff, Ff, Ff, Ff, Ff, Ff, Ff, Ff, Ff, Ff, Ff, Ff, Ff, Ff, Ff, Ff, Ff, Ff, Ff, Ff, Ff, Ff, Ff, Ff, Ff, Ff, Ff, Ff, Ff, Ff, Ff, Ff, Ff, Ff, Ff, Ff, Ff, Ff, Ff, Ff] rfl rfl (one_of HT_.out (by kernel_rfl)) (by decide) (fun K hK => ?_)
 refine goes_ Try.func38 (by kernel_rfl) rfl #[.int .i64 (-4)] (by rfl) rfl rfl (by (try simp only [List.map_toArray, List.map_cons, List.map_nil]); first | done | rfl | (simp only [List.length_drop, List.length_take]; rfl)) ?_
 with_reducible refine (wide_Of.calls (-4) t313 t314 t315 t316 t317 _ A13.out).mono ?_
 rintro e w70 ⟨rfl, hb⟩
 refine ⟨_, rfl, ?_⟩
 have n0_ := Aside0.mk (Kd.R_below (by (with_reducible repeat (first | apply Kd.R_alloc | apply Kd.R_drewN | apply Kd.R_drew)); exact HO252.out) hb)
 have n1_ := bb BK259 hb
 have n2_ := bb BK281 hb
 have n3_ := bb BK282 hb
 have n4_ := bb BK304 hb
 have n5_ := bb BK305 hb
 have n6_ := bb BK312 hb
 have n7_ := Aside0.mk (below_step (by repeat (first | (with_reducible first | exact HB.out | apply qa | apply qn | apply qd | refine qs ?_ GE259.out | refine qs ?_ GE281.out | refine qs ?_ GE282.out | refine qs ?_ GE304.out | refine qs ?_ GE305.out | refine qs ?_ GE312.out) | exact HB.out)) hb)
 clear HO252
 clear BK259
 clear BK281
 clear BK282
 clear BK304
 clear BK305
 clear BK312
 clear HB
 have HO252 := n0_
 have BK259 := n1_
 have BK281 := n2_
 have BK282 := n3_
 have BK304 := n4_
 have BK305 := n5_
 have BK312 := n6_
 have HB := n7_
 clear n0_ n1_ n2_ n3_ n4_ n5_ n6_ n7_
 (try clear hb)
 (try clear hb2)
 (try clear hk)
 (try clear hi)
 refine hK.out _ _ ⟨(blk_cell BK259.out 0).trans rfl, (blk_cell BK259.out 1).trans rfl, (blk_cell BK259.out 2).trans rfl, (blk_cell BK259.out 3).trans rfl, (blk_cell BK259.out 4).trans rfl, (blk_cell BK281.out 0).trans rfl, (blk_cell BK281.out 1).trans rfl, (blk_cell BK281.out 2).trans rfl, (blk_cell BK281.out 3).trans rfl, (blk_cell BK281.out 4).trans rfl, (blk_cell BK282.out 0).trans rfl, (blk_cell BK282.out 1).trans rfl, (blk_cell BK282.out 2).trans rfl, (blk_cell BK282.out 3).trans rfl, (blk_cell BK282.out 4).trans rfl, (blk_cell BK304.out 0).trans rfl, (blk_cell BK304.out 1).trans rfl, (blk_cell BK304.out 2).trans rfl, (blk_cell BK304.out 3).trans rfl, (blk_cell BK304.out 4).trans rfl, (blk_cell BK305.out 0).trans rfl, (blk_cell BK305.out 1).trans rfl, (blk_cell BK305.out 2).trans rfl, (blk_cell BK305.out 3).trans rfl, (blk_cell BK305.out 4).trans rfl, (blk_cell BK312.out 0).trans rfl, (blk_cell BK312.out 1).trans rfl, (blk_cell BK312.out 2).trans rfl, (blk_cell BK312.out 3).trans rfl, (blk_cell BK312.out 4).trans rfl⟩ (fun hHeld => ?_)
 clear hK K
 refine norm_ (a' := ?_) ?_ ?_
 rotate_left
 ·show Act.put _ (some 46) _ = _
  simp only [Act.put, List.setIfInBounds_toArray, List.set_cons_zero, List.set_cons_succ, i64_w, i32_w]
  rfl
 refine pure_ (i := 11) (N := some 47) (v := ?_) (a' := ?_) #[Tt, Tt, Tt, Tt, Tt, Tt, Tt, Tt, Tt, Tt, Tt, Tt, Ff, Ff, Ff, Ff, Ff, Ff, Ff, Ff, Ff, Ff, Ff, Ff, Ff, Ff, Ff, Ff, Ff, Ff, Ff, Ff, Ff, Ff, Ff, Ff, Ff, Ff, Ff, Ff, Ff, Ff, Ff, Ff, Ff, Ff, Ff, Ff, Ff, Ff, Ff, Ff, Ff, Ff, Ff] rfl rfl (any_of HT_.out (by kernel_rfl)) (fun _ _ _ h => h) (Or.inl ⟨by rfl, ?_⟩) ?_ ?_
 rotate_left
 ·intro w'
  go_simp
  with_reducible rfl
 rotate_left
 ·simp only [Act.put, List.setIfInBounds_toArray, List.set_cons_zero, List.set_cons_succ, i64_w, i32_w]
  rfl
 refine pure_ (i := 12) (N := some 48) (v := ?_) (a' := ?_) #[Tt, Tt, Tt, Tt, Tt, Tt, Tt, Tt, Tt, Tt, Tt, Tt, Tt, Ff, Ff, Ff, Ff, Ff, Ff, Ff, Ff, Ff, Ff, Ff, Ff, Ff, Ff, Ff, Ff, Ff, Ff, Ff, Ff, Ff, Ff, Ff, Ff, Ff, Ff, Ff, Ff, Ff, Ff, Ff, Ff, Ff, Ff, Ff, Ff, Ff, Ff, Ff, Ff, Ff, Ff] rfl rfl (any_of HT_.out (by kernel_rfl)) (fun _ _ _ h => h) (Or.inl ⟨by rfl, ?_⟩) ?_ ?_
 rotate_left
 ·intro w'
  go_simp
  with_reducible rfl
 rotate_left
 ·simp only [Act.put, List.setIfInBounds_toArray, List.set_cons_zero, List.set_cons_succ, i64_w, i32_w]
  rfl
 refine pure_ (i := 13) (N := some 49) (v := ?_) (a' := ?_) #[Tt, Tt, Tt, Tt, Tt, Tt, Tt, Tt, Tt, Tt, Tt, Tt, Tt, Tt, Ff, Ff, Ff, Ff, Ff, Ff, Ff, Ff, Ff, Ff, Ff, Ff, Ff, Ff, Ff, Ff, Ff, Ff, Ff, Ff, Ff, Ff, Ff, Ff, Ff, Ff, Ff, Ff, Ff, Ff, Ff, Ff, Ff, Ff, Ff, Ff, Ff, Ff, Ff, Ff, Ff] rfl rfl (any_of HT_.out (by kernel_rfl)) (fun _ _ _ h => h) (Or.inl ⟨by rfl, ?_⟩) ?_ ?_
 rotate_left
 ·intro w'
  go_simp
  with_reducible rfl
 rotate_left
 ·simp only [Act.put, List.setIfInBounds_toArray, List.set_cons_zero, List.set_cons_succ, i64_w, i32_w]
  rfl
 refine take_ (i := 14) (N := some 50) (v := ?_) (a' := ?_) #[Tt, Tt, Tt, Tt, Tt, Tt, Tt, Tt, Tt, Tt, Tt, Tt, Tt, Tt, Tt, Ff, Ff, Ff, Ff, Ff, Ff, Ff, Ff, Ff, Ff, Ff, Ff, Ff, Ff, Ff, Ff, Ff, Ff, Ff, Ff, Ff, Ff, Ff, Ff, Ff, Ff, Ff, Ff, Ff, Ff, Ff, Ff, Ff, Ff, Ff, Ff, Ff, Ff, Ff, Ff] rfl rfl (take_ofW HT_.out HW_.out (by kernel_rfl)) (fun _ _ _ h => h) (Or.inl ⟨by rfl, ?_⟩) hHeld ?_ ?_
 rotate_left
 ·rintro w' ⟨s0, s1, s2, s3, s4, s5, s6, s7, s8, s9, s10, s11, s12, s13, s14, s15, s16, s17, s18, s19, s20, s21, s22, s23, s24, s25, s26, s27, s28, s29⟩
  go_simp
  with_reducible rfl
 rotate_left
 ·simp only [Act.put, List.setIfInBounds_toArray, List.set_cons_zero, List.set_cons_succ, i64_w, i32_w]
  rfl
 refine one_ (i := 15) (N := some 51) #[Tt, Tt, Tt, Tt, Tt, Tt, Tt, Tt, Tt, Tt, Tt, Tt, Tt, Tt, Tt, Tt, Ff, Ff, Ff, Ff, Ff, Ff, Ff, Ff, Ff, Ff, Ff, Ff, Ff, Ff, Ff, Ff, Ff, Ff, Ff, Ff, Ff, Ff, Ff, Ff, Ff, Ff, Ff, Ff, Ff, Ff, Ff, Ff, Ff, Ff, Ff, Ff, Ff, Ff, Ff] rfl rfl (one_of HT_.out (by kernel_rfl)) (by decide) (fun K hK => ?_)
 refine goes_ Try.func38 (by kernel_rfl) rfl #[.int .i64 1] (by rfl) rfl rfl (by (try simp only [List.map_toArray, List.map_cons, List.map_nil]); first | done | rfl | (simp only [List.length_drop, List.length_take]; rfl)) ?_
 with_reducible refine (wide_Of.calls 1 t318 t319 t320 t321 t322 _ A15.out).mono ?_
 rintro e w71 ⟨rfl, hb⟩
 refine ⟨_, rfl, ?_⟩
 have n0_ := Aside0.mk (Kd.R_below (by (with_reducible repeat (first | apply Kd.R_alloc | apply Kd.R_drewN | apply Kd.R_drew)); exact HO252.out) hb)
 have n1_ := bb BK259 hb
 have n2_ := bb BK281 hb
 have n3_ := bb BK282 hb
 have n4_ := bb BK304 hb
 have n5_ := bb BK305 hb
 have n6_ := bb BK312 hb
 have n7_ := Aside0.mk (below_step (by repeat (first | (with_reducible first | exact HB.out | apply qa | apply qn | apply qd | refine qs ?_ GE259.out | refine qs ?_ GE281.out | refine qs ?_ GE282.out | refine qs ?_ GE304.out | refine qs ?_ GE305.out | refine qs ?_ GE312.out) | exact HB.out)) hb)
 clear HO252
 clear BK259
 clear BK281
 clear BK282
 clear BK304
 clear BK305
 clear BK312
 clear HB
 have HO252 := n0_
 have BK259 := n1_
 have BK281 := n2_
 have BK282 := n3_
 have BK304 := n4_
 have BK305 := n5_
 have BK312 := n6_
 have HB := n7_
 clear n0_ n1_ n2_ n3_ n4_ n5_ n6_ n7_
 (try clear hb)
 (try clear hb2)
 (try clear hk)
 (try clear hi)
 refine hK.out _ _ ⟨(blk_cell BK259.out 0).trans rfl, (blk_cell BK259.out 1).trans rfl, (blk_cell BK259.out 2).trans rfl, (blk_cell BK259.out 3).trans rfl, (blk_cell BK259.out 4).trans rfl, (blk_cell BK281.out 0).trans rfl, (blk_cell BK281.out 1).trans rfl, (blk_cell BK281.out 2).trans rfl, (blk_cell BK281.out 3).trans rfl, (blk_cell BK281.out 4).trans rfl, (blk_cell BK282.out 0).trans rfl, (blk_cell BK282.out 1).trans rfl, (blk_cell BK282.out 2).trans rfl, (blk_cell BK282.out 3).trans rfl, (blk_cell BK282.out 4).trans rfl, (blk_cell BK304.out 0).trans rfl, (blk_cell BK304.out 1).trans rfl, (blk_cell BK304.out 2).trans rfl, (blk_cell BK304.out 3).trans rfl, (blk_cell BK304.out 4).trans rfl, (blk_cell BK305.out 0).trans rfl, (blk_cell BK305.out 1).trans rfl, (blk_cell BK305.out 2).trans rfl, (blk_cell BK305.out 3).trans rfl, (blk_cell BK305.out 4).trans rfl, (blk_cell BK312.out 0).trans rfl, (blk_cell BK312.out 1).trans rfl, (blk_cell BK312.out 2).trans rfl, (blk_cell BK312.out 3).trans rfl, (blk_cell BK312.out 4).trans rfl⟩ (fun hHeld => ?_)
 clear hK K
 refine norm_ (a' := ?_) ?_ ?_
 rotate_left
 ·show Act.put _ (some 51) _ = _
  simp only [Act.put, List.setIfInBounds_toArray, List.set_cons_zero, List.set_cons_succ, i64_w, i32_w]
  rfl
 refine pure_ (i := 16) (N := some 52) (v := ?_) (a' := ?_) #[Tt, Tt, Tt, Tt, Tt, Tt, Tt, Tt, Tt, Tt, Tt, Tt, Tt, Tt, Tt, Tt, Tt, Ff, Ff, Ff, Ff, Ff, Ff, Ff, Ff, Ff, Ff, Ff, Ff, Ff, Ff, Ff, Ff, Ff, Ff, Ff, Ff, Ff, Ff, Ff, Ff, Ff, Ff, Ff, Ff, Ff, Ff, Ff, Ff, Ff, Ff, Ff, Ff, Ff, Ff] rfl rfl (any_of HT_.out (by kernel_rfl)) (fun _ _ _ h => h) (Or.inl ⟨by rfl, ?_⟩) ?_ ?_
 rotate_left
 ·intro w'
  go_simp
  with_reducible rfl
 rotate_left
 ·simp only [Act.put, List.setIfInBounds_toArray, List.set_cons_zero, List.set_cons_succ, i64_w, i32_w]
  rfl
 refine pure_ (i := 17) (N := some 53) (v := ?_) (a' := ?_) #[Tt, Tt, Tt, Tt, Tt, Tt, Tt, Tt, Tt, Tt, Tt, Tt, Tt, Tt, Tt, Tt, Tt, Tt, Ff, Ff, Ff, Ff, Ff, Ff, Ff, Ff, Ff, Ff, Ff, Ff, Ff, Ff, Ff, Ff, Ff, Ff, Ff, Ff, Ff, Ff, Ff, Ff, Ff, Ff, Ff, Ff, Ff, Ff, Ff, Ff, Ff, Ff, Ff, Ff, Ff] rfl rfl (any_of HT_.out (by kernel_rfl)) (fun _ _ _ h => h) (Or.inl ⟨by rfl, ?_⟩) ?_ ?_
 rotate_left
 ·intro w'
  go_simp
  with_reducible rfl
 rotate_left
 ·simp only [Act.put, List.setIfInBounds_toArray, List.set_cons_zero, List.set_cons_succ, i64_w, i32_w]
  rfl
 refine pure_ (i := 18) (N := some 54) (v := ?_) (a' := ?_) #[Tt, Tt, Tt, Tt, Tt, Tt, Tt, Tt, Tt, Tt, Tt, Tt, Tt, Tt, Tt, Tt, Tt, Tt, Tt, Ff, Ff, Ff, Ff, Ff, Ff, Ff, Ff, Ff, Ff, Ff, Ff, Ff, Ff, Ff, Ff, Ff, Ff, Ff, Ff, Ff, Ff, Ff, Ff, Ff, Ff, Ff, Ff, Ff, Ff, Ff, Ff, Ff, Ff, Ff, Ff] rfl rfl (any_of HT_.out (by kernel_rfl)) (fun _ _ _ h => h) (Or.inl ⟨by rfl, ?_⟩) ?_ ?_
 rotate_left
 ·intro w'
  go_simp
  with_reducible rfl
 rotate_left
 ·simp only [Act.put, List.setIfInBounds_toArray, List.set_cons_zero, List.set_cons_succ, i64_w, i32_w]
  rfl
 refine pure_ (i := 19) (N := some 55) (v := ?_) (a' := ?_) #[Tt, Tt, Tt, Tt, Tt, Tt, Tt, Tt, Tt, Tt, Tt, Tt, Tt, Tt, Tt, Tt, Tt, Tt, Tt, Tt, Ff, Ff, Ff, Ff, Ff, Ff, Ff, Ff, Ff, Ff, Ff, Ff, Ff, Ff, Ff, Ff, Ff, Ff, Ff, Ff, Ff, Ff, Ff, Ff, Ff, Ff, Ff, Ff, Ff, Ff, Ff, Ff, Ff, Ff, Ff] rfl rfl (any_of HT_.out (by kernel_rfl)) (fun _ _ _ h => h) (Or.inl ⟨by rfl, ?_⟩) ?_ ?_
 rotate_left
 ·intro w'
  go_simp
  with_reducible rfl
 rotate_left
 ·simp only [Act.put, List.setIfInBounds_toArray, List.set_cons_zero, List.set_cons_succ, i64_w, i32_w]
  rfl
 refine pure_ (i := 20) (N := some 56) (v := ?_) (a' := ?_) #[Tt, Tt, Tt, Tt, Tt, Tt, Tt, Tt, Tt, Tt, Tt, Tt, Tt, Tt, Tt, Tt, Tt, Tt, Tt, Tt, Tt, Ff, Ff, Ff, Ff, Ff, Ff, Ff, Ff, Ff, Ff, Ff, Ff, Ff, Ff, Ff, Ff, Ff, Ff, Ff, Ff, Ff, Ff, Ff, Ff, Ff, Ff, Ff, Ff, Ff, Ff, Ff, Ff, Ff, Ff] rfl rfl (any_of HT_.out (by kernel_rfl)) (fun _ _ _ h => h) (Or.inl ⟨by rfl, ?_⟩) ?_ ?_
 rotate_left
 ·intro w'
  go_simp
  with_reducible rfl
 rotate_left
 ·simp only [Act.put, List.setIfInBounds_toArray, List.set_cons_zero, List.set_cons_succ, i64_w, i32_w]
  rfl
 refine pure_ (i := 21) (N := some 57) (v := ?_) (a' := ?_) #[Tt, Tt, Tt, Tt, Tt, Tt, Tt, Tt, Tt, Tt, Tt, Tt, Tt, Tt, Tt, Tt, Tt, Tt, Tt, Tt, Tt, Tt, Ff, Ff, Ff, Ff, Ff, Ff, Ff, Ff, Ff, Ff, Ff, Ff, Ff, Ff, Ff, Ff, Ff, Ff, Ff, Ff, Ff, Ff, Ff, Ff, Ff, Ff, Ff, Ff, Ff, Ff, Ff, Ff, Ff] rfl rfl (any_of HT_.out (by kernel_rfl)) (fun _ _ _ h => h) (Or.inl ⟨by rfl, ?_⟩) ?_ ?_
 rotate_left
 ·intro w'
  go_simp
  with_reducible rfl
 rotate_left
 ·simp only [Act.put, List.setIfInBounds_toArray, List.set_cons_zero, List.set_cons_succ, i64_w, i32_w]
  rfl
 refine pure_ (i := 22) (N := some 58) (v := ?_) (a' := ?_) #[Tt, Tt, Tt, Tt, Tt, Tt, Tt, Tt, Tt, Tt, Tt, Tt, Tt, Tt, Tt, Tt, Tt, Tt, Tt, Tt, Tt, Tt, Tt, Ff, Ff, Ff, Ff, Ff, Ff, Ff, Ff, Ff, Ff, Ff, Ff, Ff, Ff, Ff, Ff, Ff, Ff, Ff, Ff, Ff, Ff, Ff, Ff, Ff, Ff, Ff, Ff, Ff, Ff, Ff, Ff] rfl rfl (any_of HT_.out (by kernel_rfl)) (fun _ _ _ h => h) (Or.inl ⟨by rfl, ?_⟩) ?_ ?_
 rotate_left
 ·intro w'
  go_simp
  with_reducible rfl
 rotate_left
 ·simp only [Act.put, List.setIfInBounds_toArray, List.set_cons_zero, List.set_cons_succ, i64_w, i32_w]
  rfl
 refine take_ (i := 23) (N := some 59) (v := ?_) (a' := ?_) #[Tt, Tt, Tt, Tt, Tt, Tt, Tt, Tt, Tt, Tt, Tt, Tt, Tt, Tt, Tt, Tt, Tt, Tt, Tt, Tt, Tt, Tt, Tt, Tt, Ff, Ff, Ff, Ff, Ff, Ff, Ff, Ff, Ff, Ff, Ff, Ff, Ff, Ff, Ff, Ff, Ff, Ff, Ff, Ff, Ff, Ff, Ff, Ff, Ff, Ff, Ff, Ff, Ff, Ff, Ff] rfl rfl (take_ofW HT_.out HW_.out (by kernel_rfl)) (fun _ _ _ h => h) (Or.inl ⟨by rfl, ?_⟩) hHeld ?_ ?_
 rotate_left
 ·rintro w' ⟨s0, s1, s2, s3, s4, s5, s6, s7, s8, s9, s10, s11, s12, s13, s14, s15, s16, s17, s18, s19, s20, s21, s22, s23, s24, s25, s26, s27, s28, s29⟩
  go_simp
  with_reducible rfl
 rotate_left
 ·simp only [Act.put, List.setIfInBounds_toArray, List.set_cons_zero, List.set_cons_succ, i64_w, i32_w]
  rfl
 refine one_ (i := 24) (N := some 60) #[Tt, Tt, Tt, Tt, Tt, Tt, Tt, Tt, Tt, Tt, Tt, Tt, Tt, Tt, Tt, Tt, Tt, Tt, Tt, Tt, Tt, Tt, Tt, Tt, Tt, Ff, Ff, Ff, Ff, Ff, Ff, Ff, Ff, Ff, Ff, Ff, Ff, Ff, Ff, Ff, Ff, Ff, Ff, Ff, Ff, Ff, Ff, Ff, Ff, Ff, Ff, Ff, Ff, Ff, Ff] rfl rfl (one_of HT_.out (by kernel_rfl)) (by decide) (fun K hK => ?_)
 refine goes_ Try.func38 (by kernel_rfl) rfl #[.int .i64 4] (by rfl) rfl rfl (by (try simp only [List.map_toArray, List.map_cons, List.map_nil]); first | done | rfl | (simp only [List.length_drop, List.length_take]; rfl)) ?_
 with_reducible refine (wide_Of.calls 4 t323 t324 t325 t326 t327 _ A18.out).mono ?_
 rintro e w72 ⟨rfl, hb⟩
 refine ⟨_, rfl, ?_⟩
 have n0_ := Aside0.mk (Kd.R_below (by (with_reducible repeat (first | apply Kd.R_alloc | apply Kd.R_drewN | apply Kd.R_drew)); exact HO252.out) hb)
 have n1_ := bb BK259 hb
 have n2_ := bb BK281 hb
 have n3_ := bb BK282 hb
 have n4_ := bb BK304 hb
 have n5_ := bb BK305 hb
 have n6_ := bb BK312 hb
 have n7_ := Aside0.mk (below_step (by repeat (first | (with_reducible first | exact HB.out | apply qa | apply qn | apply qd | refine qs ?_ GE259.out | refine qs ?_ GE281.out | refine qs ?_ GE282.out | refine qs ?_ GE304.out | refine qs ?_ GE305.out | refine qs ?_ GE312.out) | exact HB.out)) hb)
 clear HO252
 clear BK259
 clear BK281
 clear BK282
 clear BK304
 clear BK305
 clear BK312
 clear HB
 have HO252 := n0_
 have BK259 := n1_
 have BK281 := n2_
 have BK282 := n3_
 have BK304 := n4_
 have BK305 := n5_
 have BK312 := n6_
 have HB := n7_
 clear n0_ n1_ n2_ n3_ n4_ n5_ n6_ n7_
 (try clear hb)
 (try clear hb2)
 (try clear hk)
 (try clear hi)
 refine hK.out _ _ ⟨(blk_cell BK259.out 0).trans rfl, (blk_cell BK259.out 1).trans rfl, (blk_cell BK259.out 2).trans rfl, (blk_cell BK259.out 3).trans rfl, (blk_cell BK259.out 4).trans rfl, (blk_cell BK281.out 0).trans rfl, (blk_cell BK281.out 1).trans rfl, (blk_cell BK281.out 2).trans rfl, (blk_cell BK281.out 3).trans rfl, (blk_cell BK281.out 4).trans rfl, (blk_cell BK282.out 0).trans rfl, (blk_cell BK282.out 1).trans rfl, (blk_cell BK282.out 2).trans rfl, (blk_cell BK282.out 3).trans rfl, (blk_cell BK282.out 4).trans rfl, (blk_cell BK304.out 0).trans rfl, (blk_cell BK304.out 1).trans rfl, (blk_cell BK304.out 2).trans rfl, (blk_cell BK304.out 3).trans rfl, (blk_cell BK304.out 4).trans rfl, (blk_cell BK305.out 0).trans rfl, (blk_cell BK305.out 1).trans rfl, (blk_cell BK305.out 2).trans rfl, (blk_cell BK305.out 3).trans rfl, (blk_cell BK305.out 4).trans rfl, (blk_cell BK312.out 0).trans rfl, (blk_cell BK312.out 1).trans rfl, (blk_cell BK312.out 2).trans rfl, (blk_cell BK312.out 3).trans rfl, (blk_cell BK312.out 4).trans rfl⟩ (fun hHeld => ?_)
 clear hK K
 refine norm_ (a' := ?_) ?_ ?_
 rotate_left
 ·show Act.put _ (some 60) _ = _
  simp only [Act.put, List.setIfInBounds_toArray, List.set_cons_zero, List.set_cons_succ, i64_w, i32_w]
  rfl
 refine pure_ (i := 25) (N := some 61) (v := ?_) (a' := ?_) #[Tt, Tt, Tt, Tt, Tt, Tt, Tt, Tt, Tt, Tt, Tt, Tt, Tt, Tt, Tt, Tt, Tt, Tt, Tt, Tt, Tt, Tt, Tt, Tt, Tt, Tt, Ff, Ff, Ff, Ff, Ff, Ff, Ff, Ff, Ff, Ff, Ff, Ff, Ff, Ff, Ff, Ff, Ff, Ff, Ff, Ff, Ff, Ff, Ff, Ff, Ff, Ff, Ff, Ff, Ff] rfl rfl (any_of HT_.out (by kernel_rfl)) (fun _ _ _ h => h) (Or.inl ⟨by rfl, ?_⟩) ?_ ?_
 rotate_left
 ·intro w'
  go_simp
  with_reducible rfl
 rotate_left
 ·simp only [Act.put, List.setIfInBounds_toArray, List.set_cons_zero, List.set_cons_succ, i64_w, i32_w]
  rfl
 refine pure_ (i := 26) (N := some 62) (v := ?_) (a' := ?_) #[Tt, Tt, Tt, Tt, Tt, Tt, Tt, Tt, Tt, Tt, Tt, Tt, Tt, Tt, Tt, Tt, Tt, Tt, Tt, Tt, Tt, Tt, Tt, Tt, Tt, Tt, Tt, Ff, Ff, Ff, Ff, Ff, Ff, Ff, Ff, Ff, Ff, Ff, Ff, Ff, Ff, Ff, Ff, Ff, Ff, Ff, Ff, Ff, Ff, Ff, Ff, Ff, Ff, Ff, Ff] rfl rfl (any_of HT_.out (by kernel_rfl)) (fun _ _ _ h => h) (Or.inl ⟨by rfl, ?_⟩) ?_ ?_
 rotate_left
 ·intro w'
  go_simp
  with_reducible rfl
 rotate_left
 ·simp only [Act.put, List.setIfInBounds_toArray, List.set_cons_zero, List.set_cons_succ, i64_w, i32_w]
  rfl
 refine pure_ (i := 27) (N := some 63) (v := ?_) (a' := ?_) #[Tt, Tt, Tt, Tt, Tt, Tt, Tt, Tt, Tt, Tt, Tt, Tt, Tt, Tt, Tt, Tt, Tt, Tt, Tt, Tt, Tt, Tt, Tt, Tt, Tt, Tt, Tt, Tt, Ff, Ff, Ff, Ff, Ff, Ff, Ff, Ff, Ff, Ff, Ff, Ff, Ff, Ff, Ff, Ff, Ff, Ff, Ff, Ff, Ff, Ff, Ff, Ff, Ff, Ff, Ff] rfl rfl (any_of HT_.out (by kernel_rfl)) (fun _ _ _ h => h) (Or.inl ⟨by rfl, ?_⟩) ?_ ?_
 rotate_left
 ·intro w'
  go_simp
  with_reducible rfl
 rotate_left
 ·simp only [Act.put, List.setIfInBounds_toArray, List.set_cons_zero, List.set_cons_succ, i64_w, i32_w]
  rfl
 refine take_ (i := 28) (N := some 64) (v := ?_) (a' := ?_) #[Tt, Tt, Tt, Tt, Tt, Tt, Tt, Tt, Tt, Tt, Tt, Tt, Tt, Tt, Tt, Tt, Tt, Tt, Tt, Tt, Tt, Tt, Tt, Tt, Tt, Tt, Tt, Tt, Tt, Ff, Ff, Ff, Ff, Ff, Ff, Ff, Ff, Ff, Ff, Ff, Ff, Ff, Ff, Ff, Ff, Ff, Ff, Ff, Ff, Ff, Ff, Ff, Ff, Ff, Ff] rfl rfl (take_ofW HT_.out HW_.out (by kernel_rfl)) (fun _ _ _ h => h) (Or.inl ⟨by rfl, ?_⟩) hHeld ?_ ?_
 rotate_left
 ·rintro w' ⟨s0, s1, s2, s3, s4, s5, s6, s7, s8, s9, s10, s11, s12, s13, s14, s15, s16, s17, s18, s19, s20, s21, s22, s23, s24, s25, s26, s27, s28, s29⟩
  go_simp
  with_reducible rfl
 rotate_left
 ·simp only [Act.put, List.setIfInBounds_toArray, List.set_cons_zero, List.set_cons_succ, i64_w, i32_w]
  rfl
 refine one_ (i := 29) (N := some 65) #[Tt, Tt, Tt, Tt, Tt, Tt, Tt, Tt, Tt, Tt, Tt, Tt, Tt, Tt, Tt, Tt, Tt, Tt, Tt, Tt, Tt, Tt, Tt, Tt, Tt, Tt, Tt, Tt, Tt, Tt, Ff, Ff, Ff, Ff, Ff, Ff, Ff, Ff, Ff, Ff, Ff, Ff, Ff, Ff, Ff, Ff, Ff, Ff, Ff, Ff, Ff, Ff, Ff, Ff, Ff] rfl rfl (one_of HT_.out (by kernel_rfl)) (by decide) (fun K hK => ?_)
 refine goes_ Try.func38 (by kernel_rfl) rfl #[.int .i64 1] (by rfl) rfl rfl (by (try simp only [List.map_toArray, List.map_cons, List.map_nil]); first | done | rfl | (simp only [List.length_drop, List.length_take]; rfl)) ?_
 with_reducible refine (wide_Of.calls 1 t328 t329 t330 t331 t332 _ A20.out).mono ?_
 rintro e w73 ⟨rfl, hb⟩
 refine ⟨_, rfl, ?_⟩
 have n0_ := Aside0.mk (Kd.R_below (by (with_reducible repeat (first | apply Kd.R_alloc | apply Kd.R_drewN | apply Kd.R_drew)); exact HO252.out) hb)
 have n1_ := bb BK259 hb
 have n2_ := bb BK281 hb
 have n3_ := bb BK282 hb
 have n4_ := bb BK304 hb
 have n5_ := bb BK305 hb
 have n6_ := bb BK312 hb
 have n7_ := Aside0.mk (below_step (by repeat (first | (with_reducible first | exact HB.out | apply qa | apply qn | apply qd | refine qs ?_ GE259.out | refine qs ?_ GE281.out | refine qs ?_ GE282.out | refine qs ?_ GE304.out | refine qs ?_ GE305.out | refine qs ?_ GE312.out) | exact HB.out)) hb)
 clear HO252
 clear BK259
 clear BK281
 clear BK282
 clear BK304
 clear BK305
 clear BK312
 clear HB
 have HO252 := n0_
 have BK259 := n1_
 have BK281 := n2_
 have BK282 := n3_
 have BK304 := n4_
 have BK305 := n5_
 have BK312 := n6_
 have HB := n7_
 clear n0_ n1_ n2_ n3_ n4_ n5_ n6_ n7_
 (try clear hb)
 (try clear hb2)
 (try clear hk)
 (try clear hi)
 refine hK.out _ _ ⟨(blk_cell BK259.out 0).trans rfl, (blk_cell BK259.out 1).trans rfl, (blk_cell BK259.out 2).trans rfl, (blk_cell BK259.out 3).trans rfl, (blk_cell BK259.out 4).trans rfl, (blk_cell BK281.out 0).trans rfl, (blk_cell BK281.out 1).trans rfl, (blk_cell BK281.out 2).trans rfl, (blk_cell BK281.out 3).trans rfl, (blk_cell BK281.out 4).trans rfl, (blk_cell BK282.out 0).trans rfl, (blk_cell BK282.out 1).trans rfl, (blk_cell BK282.out 2).trans rfl, (blk_cell BK282.out 3).trans rfl, (blk_cell BK282.out 4).trans rfl, (blk_cell BK304.out 0).trans rfl, (blk_cell BK304.out 1).trans rfl, (blk_cell BK304.out 2).trans rfl, (blk_cell BK304.out 3).trans rfl, (blk_cell BK304.out 4).trans rfl, (blk_cell BK305.out 0).trans rfl, (blk_cell BK305.out 1).trans rfl, (blk_cell BK305.out 2).trans rfl, (blk_cell BK305.out 3).trans rfl, (blk_cell BK305.out 4).trans rfl, (blk_cell BK312.out 0).trans rfl, (blk_cell BK312.out 1).trans rfl, (blk_cell BK312.out 2).trans rfl, (blk_cell BK312.out 3).trans rfl, (blk_cell BK312.out 4).trans rfl⟩ (fun hHeld => ?_)
 clear hK K
 refine norm_ (a' := ?_) ?_ ?_
 rotate_left
 ·show Act.put _ (some 65) _ = _
  simp only [Act.put, List.setIfInBounds_toArray, List.set_cons_zero, List.set_cons_succ, i64_w, i32_w]
  rfl
 refine pure_ (i := 30) (N := some 66) (v := ?_) (a' := ?_) #[Tt, Tt, Tt, Tt, Tt, Tt, Tt, Tt, Tt, Tt, Tt, Tt, Tt, Tt, Tt, Tt, Tt, Tt, Tt, Tt, Tt, Tt, Tt, Tt, Tt, Tt, Tt, Tt, Tt, Tt, Tt, Ff, Ff, Ff, Ff, Ff, Ff, Ff, Ff, Ff, Ff, Ff, Ff, Ff, Ff, Ff, Ff, Ff, Ff, Ff, Ff, Ff, Ff, Ff, Ff] rfl rfl (any_of HT_.out (by kernel_rfl)) (fun _ _ _ h => h) (Or.inl ⟨by rfl, ?_⟩) ?_ ?_
 rotate_left
 ·intro w'
  go_simp
  with_reducible rfl
 rotate_left
 ·simp only [Act.put, List.setIfInBounds_toArray, List.set_cons_zero, List.set_cons_succ, i64_w, i32_w]
  rfl
 refine pure_ (i := 31) (N := some 67) (v := ?_) (a' := ?_) #[Tt, Tt, Tt, Tt, Tt, Tt, Tt, Tt, Tt, Tt, Tt, Tt, Tt, Tt, Tt, Tt, Tt, Tt, Tt, Tt, Tt, Tt, Tt, Tt, Tt, Tt, Tt, Tt, Tt, Tt, Tt, Tt, Ff, Ff, Ff, Ff, Ff, Ff, Ff, Ff, Ff, Ff, Ff, Ff, Ff, Ff, Ff, Ff, Ff, Ff, Ff, Ff, Ff, Ff, Ff] rfl rfl (any_of HT_.out (by kernel_rfl)) (fun _ _ _ h => h) (Or.inl ⟨by rfl, ?_⟩) ?_ ?_
 rotate_left
 ·intro w'
  go_simp
  with_reducible rfl
 rotate_left
 ·simp only [Act.put, List.setIfInBounds_toArray, List.set_cons_zero, List.set_cons_succ, i64_w, i32_w]
  rfl
 refine pure_ (i := 32) (N := some 68) (v := ?_) (a' := ?_) #[Tt, Tt, Tt, Tt, Tt, Tt, Tt, Tt, Tt, Tt, Tt, Tt, Tt, Tt, Tt, Tt, Tt, Tt, Tt, Tt, Tt, Tt, Tt, Tt, Tt, Tt, Tt, Tt, Tt, Tt, Tt, Tt, Tt, Ff, Ff, Ff, Ff, Ff, Ff, Ff, Ff, Ff, Ff, Ff, Ff, Ff, Ff, Ff, Ff, Ff, Ff, Ff, Ff, Ff, Ff] rfl rfl (any_of HT_.out (by kernel_rfl)) (fun _ _ _ h => h) (Or.inl ⟨by rfl, ?_⟩) ?_ ?_
 rotate_left
 ·intro w'
  go_simp
  with_reducible rfl
 rotate_left
 ·simp only [Act.put, List.setIfInBounds_toArray, List.set_cons_zero, List.set_cons_succ, i64_w, i32_w]
  rfl
 refine pure_ (i := 33) (N := some 69) (v := ?_) (a' := ?_) #[Tt, Tt, Tt, Tt, Tt, Tt, Tt, Tt, Tt, Tt, Tt, Tt, Tt, Tt, Tt, Tt, Tt, Tt, Tt, Tt, Tt, Tt, Tt, Tt, Tt, Tt, Tt, Tt, Tt, Tt, Tt, Tt, Tt, Tt, Ff, Ff, Ff, Ff, Ff, Ff, Ff, Ff, Ff, Ff, Ff, Ff, Ff, Ff, Ff, Ff, Ff, Ff, Ff, Ff, Ff] rfl rfl (any_of HT_.out (by kernel_rfl)) (fun _ _ _ h => h) (Or.inl ⟨by rfl, ?_⟩) ?_ ?_
 rotate_left
 ·intro w'
  go_simp
  with_reducible rfl
 rotate_left
 ·simp only [Act.put, List.setIfInBounds_toArray, List.set_cons_zero, List.set_cons_succ, i64_w, i32_w]
  rfl
 refine pure_ (i := 34) (N := some 70) (v := ?_) (a' := ?_) #[Tt, Tt, Tt, Tt, Tt, Tt, Tt, Tt, Tt, Tt, Tt, Tt, Tt, Tt, Tt, Tt, Tt, Tt, Tt, Tt, Tt, Tt, Tt, Tt, Tt, Tt, Tt, Tt, Tt, Tt, Tt, Tt, Tt, Tt, Tt, Ff, Ff, Ff, Ff, Ff, Ff, Ff, Ff, Ff, Ff, Ff, Ff, Ff, Ff, Ff, Ff, Ff, Ff, Ff, Ff] rfl rfl (any_of HT_.out (by kernel_rfl)) (fun _ _ _ h => h) (Or.inl ⟨by rfl, ?_⟩) ?_ ?_
 rotate_left
 ·intro w'
  go_simp
  with_reducible rfl
 rotate_left
 ·simp only [Act.put, List.setIfInBounds_toArray, List.set_cons_zero, List.set_cons_succ, i64_w, i32_w]
  rfl
 refine pure_ (i := 35) (N := some 71) (v := ?_) (a' := ?_) #[Tt, Tt, Tt, Tt, Tt, Tt, Tt, Tt, Tt, Tt, Tt, Tt, Tt, Tt, Tt, Tt, Tt, Tt, Tt, Tt, Tt, Tt, Tt, Tt, Tt, Tt, Tt, Tt, Tt, Tt, Tt, Tt, Tt, Tt, Tt, Tt, Ff, Ff, Ff, Ff, Ff, Ff, Ff, Ff, Ff, Ff, Ff, Ff, Ff, Ff, Ff, Ff, Ff, Ff, Ff] rfl rfl (any_of HT_.out (by kernel_rfl)) (fun _ _ _ h => h) (Or.inl ⟨by rfl, ?_⟩) ?_ ?_
 rotate_left
 ·intro w'
  go_simp
  with_reducible rfl
 rotate_left
 ·simp only [Act.put, List.setIfInBounds_toArray, List.set_cons_zero, List.set_cons_succ, i64_w, i32_w]
  rfl
 refine pure_ (i := 36) (N := some 72) (v := ?_) (a' := ?_) #[Tt, Tt, Tt, Tt, Tt, Tt, Tt, Tt, Tt, Tt, Tt, Tt, Tt, Tt, Tt, Tt, Tt, Tt, Tt, Tt, Tt, Tt, Tt, Tt, Tt, Tt, Tt, Tt, Tt, Tt, Tt, Tt, Tt, Tt, Tt, Tt, Tt, Ff, Ff, Ff, Ff, Ff, Ff, Ff, Ff, Ff, Ff, Ff, Ff, Ff, Ff, Ff, Ff, Ff, Ff] rfl rfl (any_of HT_.out (by kernel_rfl)) (fun _ _ _ h => h) (Or.inl ⟨by rfl, ?_⟩) ?_ ?_
 rotate_left
 ·intro w'
  go_simp
  with_reducible rfl
 rotate_left
 ·simp only [Act.put, List.setIfInBounds_toArray, List.set_cons_zero, List.set_cons_succ, i64_w, i32_w]
  rfl
 refine take_ (i := 37) (N := some 73) (v := ?_) (a' := ?_) #[Tt, Tt, Tt, Tt, Tt, Tt, Tt, Tt, Tt, Tt, Tt, Tt, Tt, Tt, Tt, Tt, Tt, Tt, Tt, Tt, Tt, Tt, Tt, Tt, Tt, Tt, Tt, Tt, Tt, Tt, Tt, Tt, Tt, Tt, Tt, Tt, Tt, Tt, Ff, Ff, Ff, Ff, Ff, Ff, Ff, Ff, Ff, Ff, Ff, Ff, Ff, Ff, Ff, Ff, Ff] rfl rfl (take_ofW HT_.out HW_.out (by kernel_rfl)) (fun _ _ _ h => h) (Or.inl ⟨by rfl, ?_⟩) hHeld ?_ ?_
 rotate_left
 ·rintro w' ⟨s0, s1, s2, s3, s4, s5, s6, s7, s8, s9, s10, s11, s12, s13, s14, s15, s16, s17, s18, s19, s20, s21, s22, s23, s24, s25, s26, s27, s28, s29⟩
  go_simp
  with_reducible rfl
 rotate_left
 ·simp only [Act.put, List.setIfInBounds_toArray, List.set_cons_zero, List.set_cons_succ, i64_w, i32_w]
  rfl
 refine one_ (i := 38) (N := some 74) #[Tt, Tt, Tt, Tt, Tt, Tt, Tt, Tt, Tt, Tt, Tt, Tt, Tt, Tt, Tt, Tt, Tt, Tt, Tt, Tt, Tt, Tt, Tt, Tt, Tt, Tt, Tt, Tt, Tt, Tt, Tt, Tt, Tt, Tt, Tt, Tt, Tt, Tt, Tt, Ff, Ff, Ff, Ff, Ff, Ff, Ff, Ff, Ff, Ff, Ff, Ff, Ff, Ff, Ff, Ff] rfl rfl (one_of HT_.out (by kernel_rfl)) (by decide) (fun K hK => ?_)
 refine goes_ Try.func33 (by kernel_rfl) rfl #[.agg #[.bool t253, .int .u64 t254, .int .u64 t255, .int .u64 t256, .int .u64 t257]] (by rfl) rfl rfl (by (try simp only [List.map_toArray, List.map_cons, List.map_nil]); first | done | rfl | (simp only [List.length_drop, List.length_take]; rfl)) ?_
 with_reducible refine (wide_Text.calls k t253 t254 t255 t256 t257 t333 _ A23.out).mono ?_
 rintro e w74 ⟨rfl, hb⟩
 refine ⟨_, rfl, ?_⟩
 have n0_ := Aside0.mk (Kd.R_below (by (with_reducible repeat (first | apply Kd.R_alloc | apply Kd.R_drewN | apply Kd.R_drew)); exact HO252.out) hb)
 have n1_ := bb BK259 hb
 have n2_ := bb BK281 hb
 have n3_ := bb BK282 hb
 have n4_ := bb BK304 hb
 have n5_ := bb BK305 hb
 have n6_ := bb BK312 hb
 have n7_ := Aside0.mk (below_step (by repeat (first | (with_reducible first | exact HB.out | apply qa | apply qn | apply qd | refine qs ?_ GE259.out | refine qs ?_ GE281.out | refine qs ?_ GE282.out | refine qs ?_ GE304.out | refine qs ?_ GE305.out | refine qs ?_ GE312.out) | exact HB.out)) hb)
 clear HO252
 clear BK259
 clear BK281
 clear BK282
 clear BK304
 clear BK305
 clear BK312
 clear HB
 have HO252 := n0_
 have BK259 := n1_
 have BK281 := n2_
 have BK282 := n3_
 have BK304 := n4_
 have BK305 := n5_
 have BK312 := n6_
 have HB := n7_
 clear n0_ n1_ n2_ n3_ n4_ n5_ n6_ n7_
 (try clear hb)
 (try clear hb2)
 (try clear hk)
 (try clear hi)
 refine hK.out _ _ ⟨(blk_cell BK259.out 0).trans rfl, (blk_cell BK259.out 1).trans rfl, (blk_cell BK259.out 2).trans rfl, (blk_cell BK259.out 3).trans rfl, (blk_cell BK259.out 4).trans rfl, (blk_cell BK281.out 0).trans rfl, (blk_cell BK281.out 1).trans rfl, (blk_cell BK281.out 2).trans rfl, (blk_cell BK281.out 3).trans rfl, (blk_cell BK281.out 4).trans rfl, (blk_cell BK282.out 0).trans rfl, (blk_cell BK282.out 1).trans rfl, (blk_cell BK282.out 2).trans rfl, (blk_cell BK282.out 3).trans rfl, (blk_cell BK282.out 4).trans rfl, (blk_cell BK304.out 0).trans rfl, (blk_cell BK304.out 1).trans rfl, (blk_cell BK304.out 2).trans rfl, (blk_cell BK304.out 3).trans rfl, (blk_cell BK304.out 4).trans rfl, (blk_cell BK305.out 0).trans rfl, (blk_cell BK305.out 1).trans rfl, (blk_cell BK305.out 2).trans rfl, (blk_cell BK305.out 3).trans rfl, (blk_cell BK305.out 4).trans rfl, (blk_cell BK312.out 0).trans rfl, (blk_cell BK312.out 1).trans rfl, (blk_cell BK312.out 2).trans rfl, (blk_cell BK312.out 3).trans rfl, (blk_cell BK312.out 4).trans rfl⟩ (fun hHeld => ?_)
 clear hK K
 refine norm_ (a' := ?_) ?_ ?_
 rotate_left
 ·show Act.put _ (some 74) _ = _
  simp only [Act.put, List.setIfInBounds_toArray, List.set_cons_zero, List.set_cons_succ, i64_w, i32_w]
  rfl
 refine pure_ (i := 39) (N := some 75) (v := ?_) (a' := ?_) #[Tt, Tt, Tt, Tt, Tt, Tt, Tt, Tt, Tt, Tt, Tt, Tt, Tt, Tt, Tt, Tt, Tt, Tt, Tt, Tt, Tt, Tt, Tt, Tt, Tt, Tt, Tt, Tt, Tt, Tt, Tt, Tt, Tt, Tt, Tt, Tt, Tt, Tt, Tt, Tt, Ff, Ff, Ff, Ff, Ff, Ff, Ff, Ff, Ff, Ff, Ff, Ff, Ff, Ff, Ff] rfl rfl (any_of HT_.out (by kernel_rfl)) (fun _ _ _ h => h) (Or.inl ⟨by rfl, ?_⟩) ?_ ?_
 rotate_left
 ·intro w'
  go_simp
  with_reducible rfl
 rotate_left
 ·simp only [Act.put, List.setIfInBounds_toArray, List.set_cons_zero, List.set_cons_succ, i64_w, i32_w]
  rfl
 refine pure_ (i := 40) (N := some 76) (v := ?_) (a' := ?_) #[Tt, Tt, Tt, Tt, Tt, Tt, Tt, Tt, Tt, Tt, Tt, Tt, Tt, Tt, Tt, Tt, Tt, Tt, Tt, Tt, Tt, Tt, Tt, Tt, Tt, Tt, Tt, Tt, Tt, Tt, Tt, Tt, Tt, Tt, Tt, Tt, Tt, Tt, Tt, Tt, Tt, Ff, Ff, Ff, Ff, Ff, Ff, Ff, Ff, Ff, Ff, Ff, Ff, Ff, Ff] rfl rfl (any_of HT_.out (by kernel_rfl)) (fun _ _ _ h => h) (Or.inl ⟨by rfl, ?_⟩) ?_ ?_
 rotate_left
 ·intro w'
  go_simp
  with_reducible rfl
 rotate_left
 ·simp only [Act.put, List.setIfInBounds_toArray, List.set_cons_zero, List.set_cons_succ, i64_w, i32_w]
  rfl
 refine pure_ (i := 41) (N := some 77) (v := ?_) (a' := ?_) #[Tt, Tt, Tt, Tt, Tt, Tt, Tt, Tt, Tt, Tt, Tt, Tt, Tt, Tt, Tt, Tt, Tt, Tt, Tt, Tt, Tt, Tt, Tt, Tt, Tt, Tt, Tt, Tt, Tt, Tt, Tt, Tt, Tt, Tt, Tt, Tt, Tt, Tt, Tt, Tt, Tt, Tt, Ff, Ff, Ff, Ff, Ff, Ff, Ff, Ff, Ff, Ff, Ff, Ff, Ff] rfl rfl (any_of HT_.out (by kernel_rfl)) (fun _ _ _ h => h) (Or.inl ⟨by rfl, ?_⟩) ?_ ?_
 rotate_left
 ·intro w'
  go_simp
  with_reducible rfl
 rotate_left
 ·simp only [Act.put, List.setIfInBounds_toArray, List.set_cons_zero, List.set_cons_succ, i64_w, i32_w]
  rfl
 refine take_ (i := 42) (N := some 78) (v := ?_) (a' := ?_) #[Tt, Tt, Tt, Tt, Tt, Tt, Tt, Tt, Tt, Tt, Tt, Tt, Tt, Tt, Tt, Tt, Tt, Tt, Tt, Tt, Tt, Tt, Tt, Tt, Tt, Tt, Tt, Tt, Tt, Tt, Tt, Tt, Tt, Tt, Tt, Tt, Tt, Tt, Tt, Tt, Tt, Tt, Tt, Ff, Ff, Ff, Ff, Ff, Ff, Ff, Ff, Ff, Ff, Ff, Ff] rfl rfl (take_ofW HT_.out HW_.out (by kernel_rfl)) (fun _ _ _ h => h) (Or.inl ⟨by rfl, ?_⟩) hHeld ?_ ?_
 rotate_left
 ·rintro w' ⟨s0, s1, s2, s3, s4, s5, s6, s7, s8, s9, s10, s11, s12, s13, s14, s15, s16, s17, s18, s19, s20, s21, s22, s23, s24, s25, s26, s27, s28, s29⟩
  go_simp
  with_reducible rfl
 rotate_left
 ·simp only [Act.put, List.setIfInBounds_toArray, List.set_cons_zero, List.set_cons_succ, i64_w, i32_w]
  rfl
 refine take_ (i := 43) (N := some 79) (v := ?_) (a' := ?_) #[Tt, Tt, Tt, Tt, Tt, Tt, Tt, Tt, Tt, Tt, Tt, Tt, Tt, Tt, Tt, Tt, Tt, Tt, Tt, Tt, Tt, Tt, Tt, Tt, Tt, Tt, Tt, Tt, Tt, Tt, Tt, Tt, Tt, Tt, Tt, Tt, Tt, Tt, Tt, Tt, Tt, Tt, Tt, Tt, Ff, Ff, Ff, Ff, Ff, Ff, Ff, Ff, Ff, Ff, Ff] rfl rfl (take_ofW HT_.out HW_.out (by kernel_rfl)) (fun _ _ _ h => h) (Or.inl ⟨by rfl, ?_⟩) hHeld ?_ ?_
 rotate_left
 ·rintro w' ⟨s0, s1, s2, s3, s4, s5, s6, s7, s8, s9, s10, s11, s12, s13, s14, s15, s16, s17, s18, s19, s20, s21, s22, s23, s24, s25, s26, s27, s28, s29⟩
  go_simp
  with_reducible rfl
 rotate_left
 ·simp only [Act.put, List.setIfInBounds_toArray, List.set_cons_zero, List.set_cons_succ, i64_w, i32_w]
  rfl
 refine pure_ (i := 44) (N := some 80) (v := ?_) (a' := ?_) #[Tt, Tt, Tt, Tt, Tt, Tt, Tt, Tt, Tt, Tt, Tt, Tt, Tt, Tt, Tt, Tt, Tt, Tt, Tt, Tt, Tt, Tt, Tt, Tt, Tt, Tt, Tt, Tt, Tt, Tt, Tt, Tt, Tt, Tt, Tt, Tt, Tt, Tt, Tt, Tt, Tt, Tt, Tt, Tt, Tt, Ff, Ff, Ff, Ff, Ff, Ff, Ff, Ff, Ff, Ff] rfl rfl (any_of HT_.out (by kernel_rfl)) (fun _ _ _ h => h) (Or.inl ⟨by rfl, ?_⟩) ?_ ?_
 rotate_left
 ·intro w'
  go_simp
  with_reducible rfl
 rotate_left
 ·simp only [Act.put, List.setIfInBounds_toArray, List.set_cons_zero, List.set_cons_succ, i64_w, i32_w]
  rfl
 refine pure_ (i := 45) (N := some 81) (v := ?_) (a' := ?_) #[Tt, Tt, Tt, Tt, Tt, Tt, Tt, Tt, Tt, Tt, Tt, Tt, Tt, Tt, Tt, Tt, Tt, Tt, Tt, Tt, Tt, Tt, Tt, Tt, Tt, Tt, Tt, Tt, Tt, Tt, Tt, Tt, Tt, Tt, Tt, Tt, Tt, Tt, Tt, Tt, Tt, Tt, Tt, Tt, Tt, Tt, Ff, Ff, Ff, Ff, Ff, Ff, Ff, Ff, Ff] rfl rfl (any_of HT_.out (by kernel_rfl)) (fun _ _ _ h => h) (Or.inl ⟨by rfl, ?_⟩) ?_ ?_
 rotate_left
 ·intro w'
  go_simp
  with_reducible rfl
 rotate_left
 ·simp only [Act.put, List.setIfInBounds_toArray, List.set_cons_zero, List.set_cons_succ, i64_w, i32_w]
  rfl
 refine pure_ (i := 46) (N := some 82) (v := ?_) (a' := ?_) #[Tt, Tt, Tt, Tt, Tt, Tt, Tt, Tt, Tt, Tt, Tt, Tt, Tt, Tt, Tt, Tt, Tt, Tt, Tt, Tt, Tt, Tt, Tt, Tt, Tt, Tt, Tt, Tt, Tt, Tt, Tt, Tt, Tt, Tt, Tt, Tt, Tt, Tt, Tt, Tt, Tt, Tt, Tt, Tt, Tt, Tt, Tt, Ff, Ff, Ff, Ff, Ff, Ff, Ff, Ff] rfl rfl (any_of HT_.out (by kernel_rfl)) (fun _ _ _ h => h) (Or.inl ⟨by rfl, ?_⟩) ?_ ?_
 rotate_left
 ·intro w'
  go_simp
  with_reducible rfl
 rotate_left
 ·simp only [Act.put, List.setIfInBounds_toArray, List.set_cons_zero, List.set_cons_succ, i64_w, i32_w]
  rfl
 refine pure_ (i := 47) (N := some 83) (v := ?_) (a' := ?_) #[Tt, Tt, Tt, Tt, Tt, Tt, Tt, Tt, Tt, Tt, Tt, Tt, Tt, Tt, Tt, Tt, Tt, Tt, Tt, Tt, Tt, Tt, Tt, Tt, Tt, Tt, Tt, Tt, Tt, Tt, Tt, Tt, Tt, Tt, Tt, Tt, Tt, Tt, Tt, Tt, Tt, Tt, Tt, Tt, Tt, Tt, Tt, Tt, Ff, Ff, Ff, Ff, Ff, Ff, Ff] rfl rfl (any_of HT_.out (by kernel_rfl)) (fun _ _ _ h => h) (Or.inl ⟨by rfl, ?_⟩) ?_ ?_
 rotate_left
 ·intro w'
  go_simp
  with_reducible rfl
 rotate_left
 ·simp only [Act.put, List.setIfInBounds_toArray, List.set_cons_zero, List.set_cons_succ, i64_w, i32_w]
  rfl
 refine pure_ (i := 48) (N := some 84) (v := ?_) (a' := ?_) #[Tt, Tt, Tt, Tt, Tt, Tt, Tt, Tt, Tt, Tt, Tt, Tt, Tt, Tt, Tt, Tt, Tt, Tt, Tt, Tt, Tt, Tt, Tt, Tt, Tt, Tt, Tt, Tt, Tt, Tt, Tt, Tt, Tt, Tt, Tt, Tt, Tt, Tt, Tt, Tt, Tt, Tt, Tt, Tt, Tt, Tt, Tt, Tt, Tt, Ff, Ff, Ff, Ff, Ff, Ff] rfl rfl (any_of HT_.out (by kernel_rfl)) (fun _ _ _ h => h) (Or.inl ⟨by rfl, ?_⟩) ?_ ?_
 rotate_left
 ·intro w'
  go_simp
  with_reducible rfl
 rotate_left
 ·simp only [Act.put, List.setIfInBounds_toArray, List.set_cons_zero, List.set_cons_succ, i64_w, i32_w]
  rfl
 refine pure_ (i := 49) (N := some 85) (v := ?_) (a' := ?_) #[Tt, Tt, Tt, Tt, Tt, Tt, Tt, Tt, Tt, Tt, Tt, Tt, Tt, Tt, Tt, Tt, Tt, Tt, Tt, Tt, Tt, Tt, Tt, Tt, Tt, Tt, Tt, Tt, Tt, Tt, Tt, Tt, Tt, Tt, Tt, Tt, Tt, Tt, Tt, Tt, Tt, Tt, Tt, Tt, Tt, Tt, Tt, Tt, Tt, Tt, Ff, Ff, Ff, Ff, Ff] rfl rfl (any_of HT_.out (by kernel_rfl)) (fun _ _ _ h => h) (Or.inl ⟨by rfl, ?_⟩) ?_ ?_
 rotate_left
 ·intro w'
  go_simp
  with_reducible rfl
 rotate_left
 ·simp only [Act.put, List.setIfInBounds_toArray, List.set_cons_zero, List.set_cons_succ, i64_w, i32_w]
  rfl
 refine pure_ (i := 50) (N := some 86) (v := ?_) (a' := ?_) #[Tt, Tt, Tt, Tt, Tt, Tt, Tt, Tt, Tt, Tt, Tt, Tt, Tt, Tt, Tt, Tt, Tt, Tt, Tt, Tt, Tt, Tt, Tt, Tt, Tt, Tt, Tt, Tt, Tt, Tt, Tt, Tt, Tt, Tt, Tt, Tt, Tt, Tt, Tt, Tt, Tt, Tt, Tt, Tt, Tt, Tt, Tt, Tt, Tt, Tt, Tt, Ff, Ff, Ff, Ff] rfl rfl (any_of HT_.out (by kernel_rfl)) (fun _ _ _ h => h) (Or.inl ⟨by rfl, ?_⟩) ?_ ?_
 rotate_left
 ·intro w'
  go_simp
  with_reducible rfl
 rotate_left
 ·simp only [Act.put, List.setIfInBounds_toArray, List.set_cons_zero, List.set_cons_succ, i64_w, i32_w]
  rfl
 refine one_ (i := 51) (N := some 87) #[Tt, Tt, Tt, Tt, Tt, Tt, Tt, Tt, Tt, Tt, Tt, Tt, Tt, Tt, Tt, Tt, Tt, Tt, Tt, Tt, Tt, Tt, Tt, Tt, Tt, Tt, Tt, Tt, Tt, Tt, Tt, Tt, Tt, Tt, Tt, Tt, Tt, Tt, Tt, Tt, Tt, Tt, Tt, Tt, Tt, Tt, Tt, Tt, Tt, Tt, Tt, Tt, Ff, Ff, Ff] rfl rfl (one_of HT_.out (by kernel_rfl)) (by decide) (fun K hK => ?_)
 refine goes_ Try.func38 (by kernel_rfl) rfl #[.int .i64 (-4)] (by rfl) rfl rfl (by (try simp only [List.map_toArray, List.map_cons, List.map_nil]); first | done | rfl | (simp only [List.length_drop, List.length_take]; rfl)) ?_
 with_reducible refine (wide_Of.calls (-4) t334 t335 t336 t337 t338 _ A27.out).mono ?_
 rintro e w75 ⟨rfl, hb⟩
 refine ⟨_, rfl, ?_⟩
 have n0_ := Aside0.mk (Kd.R_below (by (with_reducible repeat (first | apply Kd.R_alloc | apply Kd.R_drewN | apply Kd.R_drew)); exact HO252.out) hb)
 have n1_ := bb BK259 hb
 have n2_ := bb BK281 hb
 have n3_ := bb BK282 hb
 have n4_ := bb BK304 hb
 have n5_ := bb BK305 hb
 have n6_ := bb BK312 hb
 have n7_ := Aside0.mk (below_step (by repeat (first | (with_reducible first | exact HB.out | apply qa | apply qn | apply qd | refine qs ?_ GE259.out | refine qs ?_ GE281.out | refine qs ?_ GE282.out | refine qs ?_ GE304.out | refine qs ?_ GE305.out | refine qs ?_ GE312.out) | exact HB.out)) hb)
 clear HO252
 clear BK259
 clear BK281
 clear BK282
 clear BK304
 clear BK305
 clear BK312
 clear HB
 have HO252 := n0_
 have BK259 := n1_
 have BK281 := n2_
 have BK282 := n3_
 have BK304 := n4_
 have BK305 := n5_
 have BK312 := n6_
 have HB := n7_
 clear n0_ n1_ n2_ n3_ n4_ n5_ n6_ n7_
 (try clear hb)
 (try clear hb2)
 (try clear hk)
 (try clear hi)
 refine hK.out _ _ ⟨(blk_cell BK259.out 0).trans rfl, (blk_cell BK259.out 1).trans rfl, (blk_cell BK259.out 2).trans rfl, (blk_cell BK259.out 3).trans rfl, (blk_cell BK259.out 4).trans rfl, (blk_cell BK281.out 0).trans rfl, (blk_cell BK281.out 1).trans rfl, (blk_cell BK281.out 2).trans rfl, (blk_cell BK281.out 3).trans rfl, (blk_cell BK281.out 4).trans rfl, (blk_cell BK282.out 0).trans rfl, (blk_cell BK282.out 1).trans rfl, (blk_cell BK282.out 2).trans rfl, (blk_cell BK282.out 3).trans rfl, (blk_cell BK282.out 4).trans rfl, (blk_cell BK304.out 0).trans rfl, (blk_cell BK304.out 1).trans rfl, (blk_cell BK304.out 2).trans rfl, (blk_cell BK304.out 3).trans rfl, (blk_cell BK304.out 4).trans rfl, (blk_cell BK305.out 0).trans rfl, (blk_cell BK305.out 1).trans rfl, (blk_cell BK305.out 2).trans rfl, (blk_cell BK305.out 3).trans rfl, (blk_cell BK305.out 4).trans rfl, (blk_cell BK312.out 0).trans rfl, (blk_cell BK312.out 1).trans rfl, (blk_cell BK312.out 2).trans rfl, (blk_cell BK312.out 3).trans rfl, (blk_cell BK312.out 4).trans rfl⟩ (fun hHeld => ?_)
 clear hK K
 refine norm_ (a' := ?_) ?_ ?_
 rotate_left
 ·show Act.put _ (some 87) _ = _
  simp only [Act.put, List.setIfInBounds_toArray, List.set_cons_zero, List.set_cons_succ, i64_w, i32_w]
  rfl
 refine pure_ (i := 52) (N := some 88) (v := ?_) (a' := ?_) #[Tt, Tt, Tt, Tt, Tt, Tt, Tt, Tt, Tt, Tt, Tt, Tt, Tt, Tt, Tt, Tt, Tt, Tt, Tt, Tt, Tt, Tt, Tt, Tt, Tt, Tt, Tt, Tt, Tt, Tt, Tt, Tt, Tt, Tt, Tt, Tt, Tt, Tt, Tt, Tt, Tt, Tt, Tt, Tt, Tt, Tt, Tt, Tt, Tt, Tt, Tt, Tt, Tt, Ff, Ff] rfl rfl (any_of HT_.out (by kernel_rfl)) (fun _ _ _ h => h) (Or.inl ⟨by rfl, ?_⟩) ?_ ?_
 rotate_left
 ·intro w'
  go_simp
  with_reducible rfl
 rotate_left
 ·simp only [Act.put, List.setIfInBounds_toArray, List.set_cons_zero, List.set_cons_succ, i64_w, i32_w]
  rfl
 refine pure_ (i := 53) (N := some 89) (v := ?_) (a' := ?_) #[Tt, Tt, Tt, Tt, Tt, Tt, Tt, Tt, Tt, Tt, Tt, Tt, Tt, Tt, Tt, Tt, Tt, Tt, Tt, Tt, Tt, Tt, Tt, Tt, Tt, Tt, Tt, Tt, Tt, Tt, Tt, Tt, Tt, Tt, Tt, Tt, Tt, Tt, Tt, Tt, Tt, Tt, Tt, Tt, Tt, Tt, Tt, Tt, Tt, Tt, Tt, Tt, Tt, Tt, Ff] rfl rfl (any_of HT_.out (by kernel_rfl)) (fun _ _ _ h => h) (Or.inl ⟨by rfl, ?_⟩) ?_ ?_
 rotate_left
 ·intro w'
  go_simp
  with_reducible rfl
 rotate_left
 ·simp only [Act.put, List.setIfInBounds_toArray, List.set_cons_zero, List.set_cons_succ, i64_w, i32_w]
  rfl
 refine pure_ (i := 54) (N := some 0) (v := ?_) (a' := ?_) #[Tt, Tt, Tt, Tt, Tt, Tt, Tt, Tt, Tt, Tt, Tt, Tt, Tt, Tt, Tt, Tt, Tt, Tt, Tt, Tt, Tt, Tt, Tt, Tt, Tt, Tt, Tt, Tt, Tt, Tt, Tt, Tt, Tt, Tt, Tt, Tt, Tt, Tt, Tt, Tt, Tt, Tt, Tt, Tt, Tt, Tt, Tt, Tt, Tt, Tt, Tt, Tt, Tt, Tt, Tt] rfl rfl (any_of HT_.out (by kernel_rfl)) (fun _ _ _ h => h) (Or.inl ⟨by rfl, ?_⟩) ?_ ?_
 rotate_left
 ·intro w'
  go_simp
  with_reducible rfl
 rotate_left
 ·simp only [Act.put, List.setIfInBounds_toArray, List.set_cons_zero, List.set_cons_succ, i64_w, i32_w]
  rfl
 refine done_ (done_of HT_.out (by kernel_rfl)) ?_
 try go_wp2
 go_ret
 exact ⟨by first | rfl | (simp [errW_none, errW_some] <;> rfl) | (simp [*, errW_none, errW_some] <;> rfl), by repeat (first | (with_reducible first | exact HB.out | apply qa | apply qn | apply qd | refine qs ?_ GE259.out | refine qs ?_ GE281.out | refine qs ?_ GE282.out | refine qs ?_ GE304.out | refine qs ?_ GE305.out | refine qs ?_ GE312.out) | exact HB.out)⟩
def parquetlaw01_known.f : Option (Bool) := some true
set_option maxRecDepth 100000 in
set_option maxHeartbeats 8000000 in
theorem parquetlaw01_known1.true_ : parquetlaw01_known1.f 100 = some true := by decide +kernel
theorem parquetlaw01_known.calls (r : Bool) (w : World) (h : parquetlaw01_known.f = some r) :
  Calls Try.prog 20 #[] w fun e w' => e = .returned (.bool r) ∧ Below w.heap.size w w' := by
 cases h
 exact parquetlaw01_known1.calls 100 true w parquetlaw01_known1.true_ rfl
end Go.Proofs.Ytmpbbodafenonaa.MT

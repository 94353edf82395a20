/- The functions of the given program told as Lean functions, each with its contract proved; no condition. -/
import Derived.Test.YtbiafpklgkkoaaaMT0
import Derived.Test.YtbiafpklgkkoaaaMT2
import Derived.Test.YtbiafpklgkkoaaaMT7
namespace Go.Proofs.Ytbiafpklgkkoaaa.MT
open Go.RowKit Go.Proofs.YtbiafpklgkkoaaaW.PrintWords Go.Proofs.YtbiafpklgkkoaaaW.PrintLast Go.Proofs.YtbiafpklgkkoaaaW.PrintMore
attribute [local go_sem] max2_int min2_int max_two min_two max_three min_three max_four min_four   -- for this text's walks alone
set_option linter.unusedVariables false
set_option linter.unusedSimpArgs false

/-! ### parquetref06_Parse: function 11 -/
mutual
def parquetref06_Parse.l0 : Nat → List Int → List (S60) → Bool → Int → Int → Int → Bool → Int → Int → Bool → Option (Int × Int × Bool × Int × Int)
 | 0, _, _, _, _, _, _, _, _, _, _ => none
 | k + 1, x0, x6, x9, x10, x227000, x227001, x227002, x234000, x234001, x234002 => if x10 < (x6.length : Int) then (if 0 ≤ x10 then (if ((rd_T60 x6 x10).f1).toList = ([114, 101, 102, 105, 110, 101] : List UInt8) then (parquetref06_Parse.j1 k x0 x6 x9 (wrap64 (x10 + 1)) (!x234002) x227000 x227001 x227002 x234000 x234001 x234002 ((rd_T60 x6 x10).f0) ((rd_T60 x6 x10).f1)) else (parquetref06_Parse.j1 k x0 x6 x9 (wrap64 (x10 + 1)) false x227000 x227001 x227002 x234000 x234001 x234002 ((rd_T60 x6 x10).f0) ((rd_T60 x6 x10).f1))) else (none)) else (some (x234000, x234001, x234002, 0, 0))
def parquetref06_Parse.j1 : Nat → List Int → List (S60) → Bool → Int → Bool → Int → Int → Bool → Int → Int → Bool → Int → ByteArray → Option (Int × Int × Bool × Int × Int)
 | 0, _, _, _, _, _, _, _, _, _, _, _, _, _ => none
 | k + 1, x0, x6, x9, x10, x61, x227000, x227001, x227002, x234000, x234001, x234002, x237000, x237001 => if x61 = true then (parquetref06_Parse.l0 k x0 x6 x9 x10 x227000 x227001 x227002 x234000 x234001 true) else (if x237001.toList = ([98, 117, 100, 103, 101, 116] : List UInt8) then (parquetref06_Parse.j2 k x0 x6 x10 x9 x227000 x227001 x227002 x234000 x234001 x234002 x237000 x237001) else (parquetref06_Parse.j2 k x0 x6 x10 true x227000 x227001 x227002 x234000 x234001 x234002 x237000 x237001))
def parquetref06_Parse.j2 : Nat → List Int → List (S60) → Int → Bool → Int → Int → Bool → Int → Int → Bool → Int → ByteArray → Option (Int × Int × Bool × Int × Int)
 | 0, _, _, _, _, _, _, _, _, _, _, _, _ => none
 | k + 1, x0, x6, x10, x68, x227000, x227001, x227002, x234000, x234001, x234002, x237000, x237001 => if x68 = true then (some (x227000, x227001, x227002, x237000, 11)) else (if x10 = (x6.length : Int) then (some (x227000, x227001, x227002, (x0.length : Int), 11)) else (if 0 ≤ x10 then (if x10 < (x6.length : Int) then ((parquetref02_Number.f k ((rd_T60 x6 x10).f1) 9223372036854775807).bind fun bt238 => (if bt238.2 = 0 then (if bt238.1 < 0 then (parquetref06_Parse.j3 k x0 x6 true x10 bt238.1 bt238.2 true x227000 x227001 x227002 x234000 x234001 x234002) else (parquetref06_Parse.j3 k x0 x6 true x10 bt238.1 bt238.2 (decide (bt238.1 > 100)) x227000 x227001 x227002 x234000 x234001 x234002)) else (parquetref06_Parse.j3 k x0 x6 true x10 bt238.1 bt238.2 false x227000 x227001 x227002 x234000 x234001 x234002))) else (none)) else (none)))
def parquetref06_Parse.j3 : Nat → List Int → List (S60) → Bool → Int → Int → Int → Bool → Int → Int → Bool → Int → Int → Bool → Option (Int × Int × Bool × Int × Int)
 | 0, _, _, _, _, _, _, _, _, _, _, _, _, _ => none
 | k + 1, x0, x6, x9, x10, x12, x13, x97, x227000, x227001, x227002, x234000, x234001, x234002 => if x97 = true then (if 0 ≤ x10 then (if x10 < (x6.length : Int) then (some (x227000, x227001, x227002, (rd_T60 x6 x10).f0, 10)) else (none)) else (none)) else (if x13 = 0 then (parquetref06_Parse.l0 k x0 x6 x9 (wrap64 (x10 + 1)) x227000 x227001 x227002 x234000 x12 x234002) else (if 0 ≤ x10 then (if x10 < (x6.length : Int) then (some (x227000, x227001, x227002, (rd_T60 x6 x10).f0, x13)) else (none)) else (none)))
end
def parquetref06_Parse.f (k : Nat) (l0 : List Int) : Option (Int × Int × Bool × Int × Int) := (parquetref02_All.f k l0).bind fun bt227 => (if bt227.2 = 0 then (if (bt227.1.length : Int) = 0 then (some (0, 0, false, (l0.length : Int), 11)) else (if 0 < (bt227.1.length : Int) then ((parquetref06_mode.f ((rd_T60 bt227.1 0).f1)).bind fun t232 => (if t232 = 0 then (some (0, 0, false, (rd_T60 bt227.1 0).f0, 11)) else (parquetref06_Parse.l0 k l0 bt227.1 false 1 0 0 false t232 0 false))) else (none))) else (some (0, 0, false, 0, bt227.2)))
theorem parquetref06_Parse.mono_l : ∀ k, (∀ y0 y1 y2 y3 y4 y5 y6 y7 y8 y9, LeO (parquetref06_Parse.l0 k y0 y1 y2 y3 y4 y5 y6 y7 y8 y9) (parquetref06_Parse.l0 (k + 1) y0 y1 y2 y3 y4 y5 y6 y7 y8 y9)) ∧ (∀ y0 y1 y2 y3 y4 y5 y6 y7 y8 y9 y10 y11 y12, LeO (parquetref06_Parse.j1 k y0 y1 y2 y3 y4 y5 y6 y7 y8 y9 y10 y11 y12) (parquetref06_Parse.j1 (k + 1) y0 y1 y2 y3 y4 y5 y6 y7 y8 y9 y10 y11 y12)) ∧ (∀ y0 y1 y2 y3 y4 y5 y6 y7 y8 y9 y10 y11, LeO (parquetref06_Parse.j2 k y0 y1 y2 y3 y4 y5 y6 y7 y8 y9 y10 y11) (parquetref06_Parse.j2 (k + 1) y0 y1 y2 y3 y4 y5 y6 y7 y8 y9 y10 y11)) ∧ (∀ y0 y1 y2 y3 y4 y5 y6 y7 y8 y9 y10 y11 y12, LeO (parquetref06_Parse.j3 k y0 y1 y2 y3 y4 y5 y6 y7 y8 y9 y10 y11 y12) (parquetref06_Parse.j3 (k + 1) y0 y1 y2 y3 y4 y5 y6 y7 y8 y9 y10 y11 y12))
 | 0 => ⟨fun _ _ _ _ _ _ _ _ _ _ r h => by simp [parquetref06_Parse.l0] at h, fun _ _ _ _ _ _ _ _ _ _ _ _ _ r h => by simp [parquetref06_Parse.j1] at h, fun _ _ _ _ _ _ _ _ _ _ _ _ r h => by simp [parquetref06_Parse.j2] at h, fun _ _ _ _ _ _ _ _ _ _ _ _ _ r h => by simp [parquetref06_Parse.j3] at h⟩
 | k + 1 => by
  obtain ⟨ih0, ih1, ih2, ih3⟩ := parquetref06_Parse.mono_l k
  refine ⟨?_, ?_, ?_, ?_⟩
  ·intro y0 y1 y2 y3 y4 y5 y6 y7 y8 y9
   unfold parquetref06_Parse.l0
   repeat' first
   | (with_reducible exact ih0 _ _ _ _ _ _ _ _ _ _)
   | (with_reducible exact ih1 _ _ _ _ _ _ _ _ _ _ _ _ _)
   | (with_reducible exact ih2 _ _ _ _ _ _ _ _ _ _ _ _)
   | (with_reducible exact ih3 _ _ _ _ _ _ _ _ _ _ _ _ _)
   | (with_reducible exact parquetref02_All.mono _ _)
   | (with_reducible exact parquetref02_Number.mono _ _ _)
   | (with_reducible exact LeO.refl _)
   | (with_reducible exact LeO.none _)
   | (with_reducible refine LeO.ite ?_ ?_)
   | (with_reducible refine LeO.bind ?_ (fun _ => ?_))
   | exact ih0 _ _ _ _ _ _ _ _ _ _
   | exact ih1 _ _ _ _ _ _ _ _ _ _ _ _ _
   | exact ih2 _ _ _ _ _ _ _ _ _ _ _ _
   | exact ih3 _ _ _ _ _ _ _ _ _ _ _ _ _
   | exact parquetref02_All.mono _ _
   | exact parquetref02_Number.mono _ _ _
   | exact LeO.none _
   | refine LeO.ite ?_ ?_
   | refine LeO.bind ?_ (fun _ => ?_)
  ·intro y0 y1 y2 y3 y4 y5 y6 y7 y8 y9 y10 y11 y12
   unfold parquetref06_Parse.j1
   repeat' first
   | (with_reducible exact ih0 _ _ _ _ _ _ _ _ _ _)
   | (with_reducible exact ih1 _ _ _ _ _ _ _ _ _ _ _ _ _)
   | (with_reducible exact ih2 _ _ _ _ _ _ _ _ _ _ _ _)
   | (with_reducible exact ih3 _ _ _ _ _ _ _ _ _ _ _ _ _)
   | (with_reducible exact parquetref02_All.mono _ _)
   | (with_reducible exact parquetref02_Number.mono _ _ _)
   | (with_reducible exact LeO.refl _)
   | (with_reducible exact LeO.none _)
   | (with_reducible refine LeO.ite ?_ ?_)
   | (with_reducible refine LeO.bind ?_ (fun _ => ?_))
   | exact ih0 _ _ _ _ _ _ _ _ _ _
   | exact ih1 _ _ _ _ _ _ _ _ _ _ _ _ _
   | exact ih2 _ _ _ _ _ _ _ _ _ _ _ _
   | exact ih3 _ _ _ _ _ _ _ _ _ _ _ _ _
   | exact parquetref02_All.mono _ _
   | exact parquetref02_Number.mono _ _ _
   | exact LeO.none _
   | refine LeO.ite ?_ ?_
   | refine LeO.bind ?_ (fun _ => ?_)
  ·intro y0 y1 y2 y3 y4 y5 y6 y7 y8 y9 y10 y11
   unfold parquetref06_Parse.j2
   repeat' first
   | (with_reducible exact ih0 _ _ _ _ _ _ _ _ _ _)
   | (with_reducible exact ih1 _ _ _ _ _ _ _ _ _ _ _ _ _)
   | (with_reducible exact ih2 _ _ _ _ _ _ _ _ _ _ _ _)
   | (with_reducible exact ih3 _ _ _ _ _ _ _ _ _ _ _ _ _)
   | (with_reducible exact parquetref02_All.mono _ _)
   | (with_reducible exact parquetref02_Number.mono _ _ _)
   | (with_reducible exact LeO.refl _)
   | (with_reducible exact LeO.none _)
   | (with_reducible refine LeO.ite ?_ ?_)
   | (with_reducible refine LeO.bind ?_ (fun _ => ?_))
   | exact ih0 _ _ _ _ _ _ _ _ _ _
   | exact ih1 _ _ _ _ _ _ _ _ _ _ _ _ _
   | exact ih2 _ _ _ _ _ _ _ _ _ _ _ _
   | exact ih3 _ _ _ _ _ _ _ _ _ _ _ _ _
   | exact parquetref02_All.mono _ _
   | exact parquetref02_Number.mono _ _ _
   | exact LeO.none _
   | refine LeO.ite ?_ ?_
   | refine LeO.bind ?_ (fun _ => ?_)
  ·intro y0 y1 y2 y3 y4 y5 y6 y7 y8 y9 y10 y11 y12
   unfold parquetref06_Parse.j3
   repeat' first
   | (with_reducible exact ih0 _ _ _ _ _ _ _ _ _ _)
   | (with_reducible exact ih1 _ _ _ _ _ _ _ _ _ _ _ _ _)
   | (with_reducible exact ih2 _ _ _ _ _ _ _ _ _ _ _ _)
   | (with_reducible exact ih3 _ _ _ _ _ _ _ _ _ _ _ _ _)
   | (with_reducible exact parquetref02_All.mono _ _)
   | (with_reducible exact parquetref02_Number.mono _ _ _)
   | (with_reducible exact LeO.refl _)
   | (with_reducible exact LeO.none _)
   | (with_reducible refine LeO.ite ?_ ?_)
   | (with_reducible refine LeO.bind ?_ (fun _ => ?_))
   | exact ih0 _ _ _ _ _ _ _ _ _ _
   | exact ih1 _ _ _ _ _ _ _ _ _ _ _ _ _
   | exact ih2 _ _ _ _ _ _ _ _ _ _ _ _
   | exact ih3 _ _ _ _ _ _ _ _ _ _ _ _ _
   | exact parquetref02_All.mono _ _
   | exact parquetref02_Number.mono _ _ _
   | exact LeO.none _
   | refine LeO.ite ?_ ?_
   | refine LeO.bind ?_ (fun _ => ?_)
theorem parquetref06_Parse.mono : ∀ a0 k, LeO (parquetref06_Parse.f k a0) (parquetref06_Parse.f (k + 1) a0) := by
 intro a0 k
 obtain ⟨ih0, ih1, ih2, ih3⟩ := parquetref06_Parse.mono_l k
 unfold parquetref06_Parse.f
 repeat' first
   | (with_reducible exact ih0 _ _ _ _ _ _ _ _ _ _)
   | (with_reducible exact ih1 _ _ _ _ _ _ _ _ _ _ _ _ _)
   | (with_reducible exact ih2 _ _ _ _ _ _ _ _ _ _ _ _)
   | (with_reducible exact ih3 _ _ _ _ _ _ _ _ _ _ _ _ _)
   | (with_reducible exact parquetref02_All.mono _ _)
   | (with_reducible exact parquetref02_Number.mono _ _ _)
   | (with_reducible exact LeO.refl _)
   | (with_reducible exact LeO.none _)
   | (with_reducible refine LeO.ite ?_ ?_)
   | (with_reducible refine LeO.bind ?_ (fun _ => ?_))
   | exact ih0 _ _ _ _ _ _ _ _ _ _
   | exact ih1 _ _ _ _ _ _ _ _ _ _ _ _ _
   | exact ih2 _ _ _ _ _ _ _ _ _ _ _ _
   | exact ih3 _ _ _ _ _ _ _ _ _ _ _ _ _
   | exact parquetref02_All.mono _ _
   | exact parquetref02_Number.mono _ _ _
   | exact LeO.none _
   | refine LeO.ite ?_ ?_
   | refine LeO.bind ?_ (fun _ => ?_)
def parquetref06_Parse.T9 : Bool × List (List Nat × List Nat) := (true, [([], []), ([], []), ([1], [1]), ([2], [2]), ([3], [3]), ([0, 0], [0]), ([4, 5, 0, 1, 2, 3, 4, 5], [4]), ([6, 0, 1, 2, 3, 4, 5, 6], [])])
def parquetref06_Parse.B9 : List Nat := [0, 0, 2, 6, 14, 1, 63, 127]
theorem parquetref06_Parse.tab9 : rtab .any (opsOf Try.f11 9) = parquetref06_Parse.T9 := by kernel_rfl
theorem parquetref06_Parse.bits9 : waitsOk parquetref06_Parse.T9.2 parquetref06_Parse.B9 = true := by kernel_rfl
def parquetref06_Parse.T26 : Bool × List (List Nat × List Nat) := (true, [([], []), ([], []), ([], []), ([1, 2], [1, 2]), ([3], [3]), ([4], [4]), ([], []), ([0, 0], [0]), ([5, 7, 0, 1, 2, 3, 4, 5, 7], [5]), ([6, 8, 0, 1, 2, 3, 4, 5, 6, 7, 8], [6])])
def parquetref06_Parse.B26 : List Nat := [0, 0, 0, 6, 14, 30, 0, 1, 191, 511]
theorem parquetref06_Parse.tab26 : rtab .any (opsOf Try.f11 26) = parquetref06_Parse.T26 := by kernel_rfl
theorem parquetref06_Parse.bits26 : waitsOk parquetref06_Parse.T26.2 parquetref06_Parse.B26 = true := by kernel_rfl
set_option maxHeartbeats 8000000 in
set_option maxRecDepth 100000 in
theorem parquetref06_Parse.calls (k : Nat) (A0 : Option Addr) (c0 : Nat) (l0 : List Int) (r1 : Int) (r2 : Int) (r3 : Bool) (r4 : Int) (r5 : Int) (w : World) (hr0 : Kd.C (Kd.int .u8) w A0 l0.length l0) (hc0 : l0.length ≤ c0) (h : parquetref06_Parse.f k l0 = some (r1, r2, r3, r4, r5)) :
  Calls Try.prog 11 #[.slice A0 l0.length c0] w fun e w' => e = .returned (.tuple #[.agg #[.int .i64 r1, .int .i64 r2, .bool r3], .int .i64 r4, .int .i64 r5]) ∧ Below w.heap.size w w' := by
 have hu25 := Try.underlying25
 have hu60 := Try.underlying60
 have HR0 := Aside0.mk hr0
 have HC0 := Aside0.mk hc0
 clear hr0 hc0
 have HB := Aside0.mk (Below.refl w.heap.size w)
 have H : ((parquetref02_All.f k l0).bind fun bt227 => (if bt227.2 = 0 then (if (bt227.1.length : Int) = 0 then (some (0, 0, false, (l0.length : Int), 11)) else (if 0 < (bt227.1.length : Int) then ((parquetref06_mode.f ((rd_T60 bt227.1 0).f1)).bind fun t232 => (if t232 = 0 then (some (0, 0, false, (rd_T60 bt227.1 0).f0, 11)) else (parquetref06_Parse.l0 k l0 bt227.1 false 1 0 0 false t232 0 false))) else (none))) else (some (0, 0, false, 0, bt227.2)))) = some (r1, r2, r3, r4, r5) := h
 clear h
 replace H := Option.bind_eq_some_iff.mp H
 obtain ⟨⟨t227, t228⟩, A20, H⟩ := H
 replace H : (if t228 = 0 then (if (t227.length : Int) = 0 then (some (0, 0, false, (l0.length : Int), 11)) else (if 0 < (t227.length : Int) then ((parquetref06_mode.f ((rd_T60 t227 0).f1)).bind fun t232 => (if t232 = 0 then (some (0, 0, false, (rd_T60 t227 0).f0, 11)) else (parquetref06_Parse.l0 k l0 t227 false 1 0 0 false t232 0 false))) else (none))) else (some (0, 0, false, 0, t228))) = some (r1, r2, r3, r4, r5) := H
 have A2 := Aside0.mk A20
 clear A20
 by_cases c3 : t228 = 0
 ·rw [if_pos c3] at H
  have c3b0 : (t228 == 0) = true := beq_iff_eq.mpr c3
  have c3b1 : (t228 != 0) = false := bne_eq_false_iff_eq.mpr c3
  clear c3
  by_cases c4 : (t227.length : Int) = 0
  ·rw [if_pos c4] at H
   have c4b0 : ((t227.length : Int) == 0) = true := beq_iff_eq.mpr c4
   have c4b1 : ((t227.length : Int) != 0) = false := bne_eq_false_iff_eq.mpr c4
   clear c4
   simp only [Option.some.injEq, Prod.mk.injEq] at H
   obtain ⟨rfl, rfl, rfl, rfl, rfl⟩ := H
   go_enter Try.func11, Try.ntmps11
   go_wp2_with (first | ((with_reducible refine gate_dst (N := 2) rfl ?_); refine box_event ?hg (N := 2) ?hd (cs := #[.int .i64 0, .int .i64 0, .bool false]) (t := 25) ?hr ?_; (case hd => rfl); (case hg => rfl); (case hr => first | (go_simp; done) | (go_simp; rfl)); intro gb225 hg w5 hbox hb; have n0_ := Aside0.mk (below_step (by repeat (first | (with_reducible first | exact HB.out | apply qa | apply qn | apply qd) | exact HB.out)) hb); have n1_ := Aside0.mk (hbox); have n2_ := bgw HB hg; have n3_ := bgw HB hg; clear HB; have HB := n0_; have BK225 := n1_; have GW225 := n2_; have GE225 := n3_; clear n0_ n1_ n2_ n3_; clear hb hbox hg) | ((with_reducible refine gate_dst (N := 5) rfl ?_); refine box_event ?hg (N := 5) ?hd (cs := #[.int .i64 0, .int .i64 0, .bool false]) (t := 25) ?hr ?_; (case hd => rfl); (case hg => rfl); (case hr => first | (go_simp; done) | (go_simp; rfl)); intro gb226 hg w6 hbox hb; have n0_ := bb BK225 hb; have n1_ := Aside0.mk (below_step (by repeat (first | (with_reducible first | exact HB.out | apply qa | apply qn | apply qd | refine qs ?_ GE225.out) | exact HB.out)) hb); have n2_ := Aside0.mk (hbox); have n3_ := bgw HB hg; have n4_ := bgw HB hg; have n5_ := bnl BK225 hg; have n6_ := bng BK225 hg; clear BK225; clear HB; have BK225 := n0_; have HB := n1_; have BK226 := n2_; have GW226 := n3_; have GE226 := n4_; have NB225_226 := n5_; have NB226_225 := n6_; clear n0_ n1_ n2_ n3_ n4_ n5_ n6_; clear hb hbox hg; have hnb7 := NB226_225.out; have hnc7 := NB225_226.out; have hcz8_0 : w6.cell? ⟨gb226, 0, none⟩ = some (.int .i64 0) := (blk_cell BK226.out 0).trans rfl; have hcz8_1 : w6.cell? ⟨gb226, 1, none⟩ = some (.int .i64 0) := (blk_cell BK226.out 1).trans rfl; have hcz8_2 : w6.cell? ⟨gb226, 2, none⟩ = some (.bool false) := (blk_cell BK226.out 2).trans rfl; have hfz8_0 := blk_frozen BK226.out 0; have hfz8_1 := blk_frozen BK226.out 1; have hfz8_2 := blk_frozen BK226.out 2) | ((with_reducible refine gate_callee (f := 25) rfl ?_); refine goesL_ (some 17) rfl rfl Try.func25 (by kernel_rfl) rfl #[.slice A0 l0.length c0] rfl (by (try simp only [List.map_toArray, List.map_cons, List.map_nil]); first | done | rfl | (simp only [List.length_drop, List.length_take]; rfl)) ?_; (with_reducible refine (parquetref02_All.calls k _ _ l0 t227 t228 _ ?side1 ?side2 A2.out).mono ?_); (case side1 => exact Kd.C_below HR0.out (by repeat (first | (with_reducible first | exact HB.out | apply qa | apply qn | apply qd | refine qs ?_ GE225.out | refine qs ?_ GE226.out) | exact HB.out))); (case side2 => exact HC0.out); rintro e w9 ⟨v229, rfl, ho0, hb⟩; refine ⟨_, rfl, ?_⟩; have n0_ := Aside0.mk (Kd.R_lower ho0 (below_size (by repeat (first | (with_reducible first | exact HB.out | apply qa | apply qn | apply qd | refine qs ?_ GE225.out | refine qs ?_ GE226.out) | exact HB.out)))); have n1_ := Aside0.mk (blk_below (g := gb225) (o := .cells #[.int .i64 0, .int .i64 0, .bool false] 25 (0, 0)) (by repeat (with_reducible first | exact lb BK225.out | refine blk_far ?_ NB225_226.out _ | refine cn ?_ _ | refine cd ?_ | refine ca ?_ _)) hb); have n2_ := Aside0.mk (blk_below (g := gb226) (o := .cells #[.int .i64 0, .int .i64 0, .bool false] 25 (0, 0)) (by (with_reducible repeat (first | refine cn ?_ _ | refine cd ?_ | refine ca ?_ _)); refine blk_put (cs := #[.int .i64 0, .int .i64 0, .bool false]) ?_ 2 _ rfl; (with_reducible repeat (first | refine cn ?_ _ | refine cd ?_ | refine ca ?_ _)); refine blk_put (cs := #[.int .i64 0, .int .i64 0, .bool false]) ?_ 1 _ rfl; (with_reducible repeat (first | refine cn ?_ _ | refine cd ?_ | refine ca ?_ _)); refine blk_put (cs := #[.int .i64 0, .int .i64 0, .bool false]) ?_ 0 _ rfl; (with_reducible repeat (first | refine cn ?_ _ | refine cd ?_ | refine ca ?_ _)); exact BK226.out) hb); have n3_ := Aside0.mk (below_step (by repeat (first | (with_reducible first | exact HB.out | apply qa | apply qn | apply qd | refine qs ?_ GE225.out | refine qs ?_ GE226.out) | exact HB.out)) hb); clear BK225; clear BK226; clear HB; have HO230 := n0_; have BK225 := n1_; have BK226 := n2_; have HB := n3_; clear n0_ n1_ n2_ n3_; (try clear hb); (try clear hb2); (try clear hk); (try clear hi); (try clear ho0); obtain ⟨Ao10, co10, eo10⟩ := Kd.R_slice HO230.out; subst eo10; have hcz11_0 : w9.cell? ⟨gb226, 0, none⟩ = some (.int .i64 0) := (blk_cell BK226.out 0).trans rfl; have hcz11_1 : w9.cell? ⟨gb226, 1, none⟩ = some (.int .i64 0) := (blk_cell BK226.out 1).trans rfl; have hcz11_2 : w9.cell? ⟨gb226, 2, none⟩ = some (.bool false) := (blk_cell BK226.out 2).trans rfl; have hfz11_0 := blk_frozen BK226.out 0; have hfz11_1 := blk_frozen BK226.out 1; have hfz11_2 := blk_frozen BK226.out 2; have hcz12_0 : w9.cell? ⟨gb225, 0, none⟩ = some (.int .i64 0) := (blk_cell BK225.out 0).trans rfl; have hcz12_1 : w9.cell? ⟨gb225, 1, none⟩ = some (.int .i64 0) := (blk_cell BK225.out 1).trans rfl; have hcz12_2 : w9.cell? ⟨gb225, 2, none⟩ = some (.bool false) := (blk_cell BK225.out 2).trans rfl; have hfz12_0 := blk_frozen BK225.out 0; have hfz12_1 := blk_frozen BK225.out 1; have hfz12_2 := blk_frozen BK225.out 2))
   refine bodyPost_ret (results_ctt rfl _ _ gb225 25 #[.int .i64 0, .int .i64 0, .bool false] (0, 0) _ rfl (by (with_reducible repeat (first | refine cn ?_ _ | refine cd ?_ | refine ca ?_ _)); refine blk_put (cs := #[.int .i64 0, .int .i64 0, .bool false]) ?_ 2 _ rfl; (with_reducible repeat (first | refine cn ?_ _ | refine cd ?_ | refine ca ?_ _)); refine blk_put (cs := #[.int .i64 0, .int .i64 0, .bool false]) ?_ 1 _ rfl; (with_reducible repeat (first | refine cn ?_ _ | refine cd ?_ | refine ca ?_ _)); refine blk_put (cs := #[.int .i64 0, .int .i64 0, .bool false]) ?_ 0 _ rfl; (with_reducible repeat (first | refine cn ?_ _ | refine cd ?_ | refine ca ?_ _)); exact BK225.out) Try.underlying25 rfl (by kernel_rfl)) rfl ?_
   exact ⟨by first | rfl | (simp [errW_none, errW_some] <;> rfl) | (simp [*, errW_none, errW_some] <;> rfl), by repeat (first | (with_reducible first | exact HB.out | apply qa | apply qn | apply qd | refine qs ?_ GE225.out | refine qs ?_ GE226.out) | exact HB.out)⟩
  ·rw [if_neg c4] at H
   have c4b0 : ((t227.length : Int) == 0) = false := beq_eq_false_iff_ne.mpr c4
   have c4b1 : ((t227.length : Int) != 0) = true := bne_iff_ne.mpr c4
   have c4b2 : ¬ (t227 = []) := fun h_ => c4 (by rw [h_]; rfl)
   by_cases c13 : 0 < (t227.length : Int)
   ·rw [if_pos c13] at H
    have c13b0 : decide (0 < (t227.length : Int)) = true := decide_eq_true c13
    have c13b1 : decide (0 < t227.length) = true := decide_eq_true (by omega)
    clear c13
    replace H := Option.bind_eq_some_iff.mp H
    obtain ⟨t232, A140, H⟩ := H
    replace H : (if t232 = 0 then (some (0, 0, false, (rd_T60 t227 0).f0, 11)) else (parquetref06_Parse.l0 k l0 t227 false 1 0 0 false t232 0 false)) = some (r1, r2, r3, r4, r5) := H
    have A14 := Aside0.mk A140
    clear A140
    by_cases c15 : t232 = 0
    ·rw [if_pos c15] at H
     have c15b0 : (t232 == 0) = true := beq_iff_eq.mpr c15
     have c15b1 : (t232 != 0) = false := bne_eq_false_iff_eq.mpr c15
     clear c15
     simp only [Option.some.injEq, Prod.mk.injEq] at H
     obtain ⟨rfl, rfl, rfl, rfl, rfl⟩ := H
     go_enter Try.func11, Try.ntmps11
     try go_wp2_with (first | ((with_reducible refine gate_dst (N := 2) rfl ?_); refine box_event ?hg (N := 2) ?hd (cs := #[.int .i64 0, .int .i64 0, .bool false]) (t := 25) ?hr ?_; (case hd => rfl); (case hg => rfl); (case hr => first | (go_simp; done) | (go_simp; rfl)); intro gb225 hg w16 hbox hb; have n0_ := Aside0.mk (below_step (by repeat (first | (with_reducible first | exact HB.out | apply qa | apply qn | apply qd) | exact HB.out)) hb); have n1_ := Aside0.mk (hbox); have n2_ := bgw HB hg; have n3_ := bgw HB hg; clear HB; have HB := n0_; have BK225 := n1_; have GW225 := n2_; have GE225 := n3_; clear n0_ n1_ n2_ n3_; clear hb hbox hg) | ((with_reducible refine gate_dst (N := 5) rfl ?_); refine box_event ?hg (N := 5) ?hd (cs := #[.int .i64 0, .int .i64 0, .bool false]) (t := 25) ?hr ?_; (case hd => rfl); (case hg => rfl); (case hr => first | (go_simp; done) | (go_simp; rfl)); intro gb226 hg w17 hbox hb; have n0_ := bb BK225 hb; have n1_ := Aside0.mk (below_step (by repeat (first | (with_reducible first | exact HB.out | apply qa | apply qn | apply qd | refine qs ?_ GE225.out) | exact HB.out)) hb); have n2_ := Aside0.mk (hbox); have n3_ := bgw HB hg; have n4_ := bgw HB hg; have n5_ := bnl BK225 hg; have n6_ := bng BK225 hg; clear BK225; clear HB; have BK225 := n0_; have HB := n1_; have BK226 := n2_; have GW226 := n3_; have GE226 := n4_; have NB225_226 := n5_; have NB226_225 := n6_; clear n0_ n1_ n2_ n3_ n4_ n5_ n6_; clear hb hbox hg; have hnb18 := NB226_225.out; have hnc18 := NB225_226.out; have hcz19_0 : w17.cell? ⟨gb226, 0, none⟩ = some (.int .i64 0) := (blk_cell BK226.out 0).trans rfl; have hcz19_1 : w17.cell? ⟨gb226, 1, none⟩ = some (.int .i64 0) := (blk_cell BK226.out 1).trans rfl; have hcz19_2 : w17.cell? ⟨gb226, 2, none⟩ = some (.bool false) := (blk_cell BK226.out 2).trans rfl; have hfz19_0 := blk_frozen BK226.out 0; have hfz19_1 := blk_frozen BK226.out 1; have hfz19_2 := blk_frozen BK226.out 2) | ((with_reducible refine gate_callee (f := 25) rfl ?_); refine goesL_ (some 17) rfl rfl Try.func25 (by kernel_rfl) rfl #[.slice A0 l0.length c0] rfl (by (try simp only [List.map_toArray, List.map_cons, List.map_nil]); first | done | rfl | (simp only [List.length_drop, List.length_take]; rfl)) ?_; (with_reducible refine (parquetref02_All.calls k _ _ l0 t227 t228 _ ?side1 ?side2 A2.out).mono ?_); (case side1 => exact Kd.C_below HR0.out (by repeat (first | (with_reducible first | exact HB.out | apply qa | apply qn | apply qd | refine qs ?_ GE225.out | refine qs ?_ GE226.out) | exact HB.out))); (case side2 => exact HC0.out); rintro e w20 ⟨v229, rfl, ho0, hb⟩; refine ⟨_, rfl, ?_⟩; have n0_ := Aside0.mk (Kd.R_lower ho0 (below_size (by repeat (first | (with_reducible first | exact HB.out | apply qa | apply qn | apply qd | refine qs ?_ GE225.out | refine qs ?_ GE226.out) | exact HB.out)))); have n1_ := Aside0.mk (blk_below (g := gb225) (o := .cells #[.int .i64 0, .int .i64 0, .bool false] 25 (0, 0)) (by repeat (with_reducible first | exact lb BK225.out | refine blk_far ?_ NB225_226.out _ | refine cn ?_ _ | refine cd ?_ | refine ca ?_ _)) hb); have n2_ := Aside0.mk (blk_below (g := gb226) (o := .cells #[.int .i64 0, .int .i64 0, .bool false] 25 (0, 0)) (by (with_reducible repeat (first | refine cn ?_ _ | refine cd ?_ | refine ca ?_ _)); refine blk_put (cs := #[.int .i64 0, .int .i64 0, .bool false]) ?_ 2 _ rfl; (with_reducible repeat (first | refine cn ?_ _ | refine cd ?_ | refine ca ?_ _)); refine blk_put (cs := #[.int .i64 0, .int .i64 0, .bool false]) ?_ 1 _ rfl; (with_reducible repeat (first | refine cn ?_ _ | refine cd ?_ | refine ca ?_ _)); refine blk_put (cs := #[.int .i64 0, .int .i64 0, .bool false]) ?_ 0 _ rfl; (with_reducible repeat (first | refine cn ?_ _ | refine cd ?_ | refine ca ?_ _)); exact BK226.out) hb); have n3_ := Aside0.mk (below_step (by repeat (first | (with_reducible first | exact HB.out | apply qa | apply qn | apply qd | refine qs ?_ GE225.out | refine qs ?_ GE226.out) | exact HB.out)) hb); clear BK225; clear BK226; clear HB; have HO230 := n0_; have BK225 := n1_; have BK226 := n2_; have HB := n3_; clear n0_ n1_ n2_ n3_; (try clear hb); (try clear hb2); (try clear hk); (try clear hi); (try clear ho0); obtain ⟨Ao21, co21, eo21⟩ := Kd.R_slice HO230.out; subst eo21; have p231 : 0 ≤ (0 : Int) := (by omega); have q231 : 0 < (t227.length : Int) := of_decide_eq_true (by first | (with_reducible assumption) | assumption); obtain ⟨ad231, e231, hx231_0, hx231_1⟩ := at_T60 (Kd.R_reads' HO230.out).2.2 0 p231 q231; cases e231; have qi231 : (0 < t227.length) = True := eq_true (by omega); (try rw [show ((0 : Int)).toNat = 0 from rfl] at hx231_0); (try rw [show 0 * 2 = 0 from rfl] at hx231_0); (try rw [Addr.add_zero'] at hx231_0); (try rw [show ((0 : Int)).toNat = 0 from rfl] at hx231_1); (try rw [show 0 * 2 = 0 from rfl] at hx231_1); (try rw [Addr.add_zero'] at hx231_1); replace p231 := eq_true p231; replace q231 := eq_true q231) | ((with_reducible refine gate_callee (f := 26) rfl ?_); refine goesL_ (some 34) rfl rfl Try.func26 (by kernel_rfl) rfl #[.string ((rd_T60 t227 0).f1)] rfl (by (try simp only [List.map_toArray, List.map_cons, List.map_nil]); first | done | rfl | (simp only [List.length_drop, List.length_take]; rfl)) ?_; (with_reducible refine (parquetref06_mode.calls ((rd_T60 t227 0).f1) t232 _ A14.out).mono ?_); rintro e w' ⟨rfl, ⟨nd, rfl⟩⟩; refine ⟨_, rfl, ?_⟩; (try (rw [drewN_self w20]; generalize hq_ : World.drewN w20 _ = w20; have n0_ : Aside0 (Kd.R k60 60 w20 w.heap.size (fun _ => True) (.slice (some ad231) t227.length co21) t227) := ⟨by rw [← hq_]; exact (by (with_reducible repeat (first | apply Kd.R_alloc | apply Kd.R_drewN | apply Kd.R_drew)); exact HO230.out)⟩; have n1_ : Aside0 (w20.heap[gb225]? = some (.cells #[.int .i64 0, .int .i64 0, .bool false] 25 (0, 0))) := ⟨by rw [← hq_]; exact (by exact lb BK225.out)⟩; have n2_ : Aside0 (w20.heap[gb226]? = some (.cells #[.int .i64 0, .int .i64 0, .bool false] 25 (0, 0))) := ⟨by rw [← hq_]; exact (by exact lb BK226.out)⟩; have n3_ : Aside0 (Below w.heap.size w w20) := ⟨by rw [← hq_]; exact (by repeat (first | (with_reducible first | exact HB.out | apply qa | apply qn | apply qd | refine qs ?_ GE225.out | refine qs ?_ GE226.out) | exact HB.out))⟩; clear HO230 BK225 BK226 HB hq_; have HO230 := n0_; have BK225 := n1_; have BK226 := n2_; have HB := n3_; clear n0_ n1_ n2_ n3_))) | ((with_reducible refine gate_dst (N := 8) rfl ?_); refine box_event ?hg (N := 8) ?hd (cs := #[.int .i64 0, .int .i64 0, .bool false]) (t := 25) ?hr ?_; (case hd => rfl); (case hg => rfl); (case hr => first | (go_simp; done) | (go_simp; rfl)); intro gb233 hg w22 hbox hb; have n0_ := Aside0.mk (Kd.R_below (by (with_reducible repeat (first | apply Kd.R_alloc | apply Kd.R_drewN | apply Kd.R_drew)); exact HO230.out) hb); have n1_ := bb BK225 hb; have n2_ := bb BK226 hb; have n3_ := Aside0.mk (below_step (by repeat (first | (with_reducible first | exact HB.out | apply qa | apply qn | apply qd | refine qs ?_ GE225.out | refine qs ?_ GE226.out) | exact HB.out)) hb); have n4_ := Aside0.mk (hbox); have n5_ := bgw HB hg; have n6_ := bgw HB hg; have n7_ := bnl BK225 hg; have n8_ := bng BK225 hg; have n9_ := bnl BK226 hg; have n10_ := bng BK226 hg; clear HO230; clear BK225; clear BK226; clear HB; have HO230 := n0_; have BK225 := n1_; have BK226 := n2_; have HB := n3_; have BK233 := n4_; have GW233 := n5_; have GE233 := n6_; have NB225_233 := n7_; have NB233_225 := n8_; have NB226_233 := n9_; have NB233_226 := n10_; clear n0_ n1_ n2_ n3_ n4_ n5_ n6_ n7_ n8_ n9_ n10_; clear hb hbox hg; have hnb23 := NB233_225.out; have hnc23 := NB225_233.out; have hnb24 := NB233_226.out; have hnc24 := NB226_233.out; have hcz25_0 : w22.cell? ⟨gb233, 0, none⟩ = some (.int .i64 0) := (blk_cell BK233.out 0).trans rfl; have hcz25_1 : w22.cell? ⟨gb233, 1, none⟩ = some (.int .i64 0) := (blk_cell BK233.out 1).trans rfl; have hcz25_2 : w22.cell? ⟨gb233, 2, none⟩ = some (.bool false) := (blk_cell BK233.out 2).trans rfl; have hfz25_0 := blk_frozen BK233.out 0; have hfz25_1 := blk_frozen BK233.out 1; have hfz25_2 := blk_frozen BK233.out 2))
     have n0_ : Aside0 (Kd.R k60 60 (((w22.setCell ⟨gb233, 0, none⟩ (.int .i64 t232)).setCell ⟨gb233, 1, none⟩ (.int .i64 0)).setCell ⟨gb233, 2, none⟩ (.bool false)) w.heap.size (fun _ => True) (.slice (some ad231) t227.length co21) t227) := ⟨by (with_reducible repeat (first | apply Kd.R_alloc | apply Kd.R_drewN | apply Kd.R_drew)); exact Kd.R_mono (Kd.R_far (p := ⟨gb233, 2, none⟩) (Kd.R_far (p := ⟨gb233, 1, none⟩) (Kd.R_far (p := ⟨gb233, 0, none⟩) (Kd.R_types HO230.out BK233.out (by decide)) (fun _ hk => hk.2) (.int .i64 t232)) (fun _ hk => hk.2) (.int .i64 0)) (fun _ hk => hk.2) (.bool false)) (fun _ hk => trivial)⟩
     have n1_ : Aside0 ((((w22.setCell ⟨gb233, 0, none⟩ (.int .i64 t232)).setCell ⟨gb233, 1, none⟩ (.int .i64 0)).setCell ⟨gb233, 2, none⟩ (.bool false)).heap[gb225]? = some (.cells #[.int .i64 0, .int .i64 0, .bool false] 25 (0, 0))) := ⟨by repeat (with_reducible first | exact lb BK225.out | refine blk_far ?_ NB225_233.out _ | refine cn ?_ _ | refine cd ?_ | refine ca ?_ _)⟩
     have n2_ : Aside0 ((((w22.setCell ⟨gb233, 0, none⟩ (.int .i64 t232)).setCell ⟨gb233, 1, none⟩ (.int .i64 0)).setCell ⟨gb233, 2, none⟩ (.bool false)).heap[gb226]? = some (.cells #[.int .i64 0, .int .i64 0, .bool false] 25 (0, 0))) := ⟨by repeat (with_reducible first | exact lb BK226.out | refine blk_far ?_ NB226_233.out _ | refine cn ?_ _ | refine cd ?_ | refine ca ?_ _)⟩
     have n3_ : Aside0 ((((w22.setCell ⟨gb233, 0, none⟩ (.int .i64 t232)).setCell ⟨gb233, 1, none⟩ (.int .i64 0)).setCell ⟨gb233, 2, none⟩ (.bool false)).heap[gb233]? = some (.cells #[.int .i64 t232, .int .i64 0, .bool false] 25 (0, 0))) := ⟨by (with_reducible repeat (first | refine cn ?_ _ | refine cd ?_ | refine ca ?_ _)); refine blk_put (cs := #[.int .i64 t232, .int .i64 0, .bool false]) ?_ 2 _ rfl; (with_reducible repeat (first | refine cn ?_ _ | refine cd ?_ | refine ca ?_ _)); refine blk_put (cs := #[.int .i64 t232, .int .i64 0, .bool false]) ?_ 1 _ rfl; (with_reducible repeat (first | refine cn ?_ _ | refine cd ?_ | refine ca ?_ _)); refine blk_put (cs := #[.int .i64 0, .int .i64 0, .bool false]) ?_ 0 _ rfl; (with_reducible repeat (first | refine cn ?_ _ | refine cd ?_ | refine ca ?_ _)); exact BK233.out⟩
     have n4_ : Aside0 (Below w.heap.size w (((w22.setCell ⟨gb233, 0, none⟩ (.int .i64 t232)).setCell ⟨gb233, 1, none⟩ (.int .i64 0)).setCell ⟨gb233, 2, none⟩ (.bool false))) := ⟨by repeat (first | (with_reducible first | exact HB.out | apply qa | apply qn | apply qd | refine qs ?_ GE225.out | refine qs ?_ GE226.out | refine qs ?_ GE233.out) | exact HB.out)⟩
     (try clear HO230)
     (try clear BK225)
     (try clear BK226)
     (try clear BK233)
     (try clear HB)
     generalize (((w22.setCell ⟨gb233, 0, none⟩ (.int .i64 t232)).setCell ⟨gb233, 1, none⟩ (.int .i64 0)).setCell ⟨gb233, 2, none⟩ (.bool false)) = w26 at n0_ n1_ n2_ n3_ n4_ ⊢
     have HO230 := n0_
     have BK225 := n1_
     have BK226 := n2_
     have BK233 := n3_
     have HB := n4_
     clear n0_ n1_ n2_ n3_ n4_
     have n0_ := Aside0.mk (Kd.R_drew HO230.out)
     have n1_ := Aside0.mk (blk_drew BK225.out)
     have n2_ := Aside0.mk (blk_drew BK226.out)
     have n3_ := Aside0.mk (blk_drew BK233.out)
     have n4_ := Aside0.mk (below_drew1 HB.out)
     clear HO230
     clear BK225
     clear BK226
     clear BK233
     clear HB
     have HO230 := n0_
     have BK225 := n1_
     have BK226 := n2_
     have BK233 := n3_
     have HB := n4_
     clear n0_ n1_ n2_ n3_ n4_
     have p234 : 0 ≤ (0 : Int) := (by omega)
     have q234 : 0 < (t227.length : Int) := of_decide_eq_true (by first | (with_reducible assumption) | assumption)
     obtain ⟨ad234, e234, hx234_0, hx234_1⟩ := at_T60 (Kd.R_reads' HO230.out).2.2 0 p234 q234
     obtain rfl : ad231 = ad234 := (by injection e234)
     have qi234 : (0 < t227.length) = True := eq_true (by omega)
     (try rw [show ((0 : Int)).toNat = 0 from rfl] at hx234_0)
     (try rw [show 0 * 2 = 0 from rfl] at hx234_0)
     (try rw [Addr.add_zero'] at hx234_0)
     (try rw [show ((0 : Int)).toNat = 0 from rfl] at hx234_1)
     (try rw [show 0 * 2 = 0 from rfl] at hx234_1)
     (try rw [Addr.add_zero'] at hx234_1)
     replace p234 := eq_true p234
     replace q234 := eq_true q234
     refine start_ (n := 8) (S := fun w' => w'.cell? ⟨gb226, 0, none⟩ = some (.int .i64 0) ∧ w'.cell? ⟨gb226, 1, none⟩ = some (.int .i64 0) ∧ w'.cell? ⟨gb226, 2, none⟩ = some (.bool false) ∧ w'.cell? ad231 = some (.int .i64 ((rd_T60 t227 0).f0)) ∧ w'.cell? ⟨ad231.block, ad231.off + 1, none⟩ = some (.string ((rd_T60 t227 0).f1))) (ds := []) #[Ff, Ff, Ff, Ff, Ff, Ff, Ff, Ff] (by kernel_rfl) rfl rfl ⟨(blk_cell BK226.out 0).trans rfl, (blk_cell BK226.out 1).trans rfl, (blk_cell BK226.out 2).trans rfl, hx234_0, hx234_1⟩ (fun hHeld => ?_); refine with_tabW parquetref06_Parse.tab9 parquetref06_Parse.bits9 (fun HT_ HW_ => ?_)
     generalize w26.drew = w27 at HO230 BK225 BK226 BK233 HB hx234_0 hx234_1 hHeld ⊢
     refine pure_ (i := 1) (N := some 40) (v := ?_) (a' := ?_) #[Ff, Tt, Ff, Ff, Ff, Ff, Ff, Ff] rfl rfl (any_of HT_.out (by kernel_rfl)) (fun _ _ _ h => h) (Or.inl ⟨by rfl, ?_⟩) ?_ ?_
     rotate_left
     ·intro w'
      go_simp
      with_reducible rfl
     rotate_left
     ·simp only [Act.put, List.setIfInBounds_toArray, List.set_cons_zero, List.set_cons_succ, i64_w, i32_w]
      rfl
     refine pure_ (i := 2) (N := some 41) (v := ?_) (a' := ?_) #[Ff, Tt, Tt, Ff, Ff, Ff, Ff, Ff] rfl rfl (any_of HT_.out (by kernel_rfl)) (fun _ _ _ h => h) (Or.inl ⟨by rfl, ?_⟩) ?_ ?_
     rotate_left
     ·intro w'
      go_simp
      with_reducible rfl
     rotate_left
     ·simp only [Act.put, List.setIfInBounds_toArray, List.set_cons_zero, List.set_cons_succ, i64_w, i32_w]
      rfl
     refine pure_ (i := 3) (N := some 42) (v := ?_) (a' := ?_) #[Ff, Tt, Tt, Tt, Ff, Ff, Ff, Ff] rfl rfl (any_of HT_.out (by kernel_rfl)) (fun _ _ _ h => h) (Or.inl ⟨by rfl, ?_⟩) ?_ ?_
     rotate_left
     ·intro w'
      go_simp
      with_reducible rfl
     rotate_left
     ·simp only [Act.put, List.setIfInBounds_toArray, List.set_cons_zero, List.set_cons_succ, i64_w, i32_w]
      rfl
     refine take_ (i := 0) (N := some 39) (v := ?_) (a' := ?_) #[Tt, Tt, Tt, Tt, Ff, Ff, Ff, Ff] rfl rfl (take_ofW HT_.out HW_.out (by kernel_rfl)) (fun _ _ _ h => h) (Or.inl ⟨by rfl, ?_⟩) hHeld ?_ ?_
     rotate_left
     ·rintro w' ⟨s0, s1, s2, s3, s4⟩
      go_simp
      with_reducible rfl
     rotate_left
     ·simp only [Act.put, List.setIfInBounds_toArray, List.set_cons_zero, List.set_cons_succ, i64_w, i32_w]
      rfl
     refine take_ (i := 4) (N := some 43) (v := ?_) (a' := ?_) #[Tt, Tt, Tt, Tt, Tt, Ff, Ff, Ff] rfl rfl (take_ofW HT_.out HW_.out (by kernel_rfl)) (fun _ _ _ h => h) (Or.inl ⟨by rfl, ?_⟩) hHeld ?_ ?_
     rotate_left
     ·rintro w' ⟨s0, s1, s2, s3, s4⟩
      go_simp
      with_reducible rfl
     rotate_left
     ·simp only [Act.put, List.setIfInBounds_toArray, List.set_cons_zero, List.set_cons_succ, i64_w, i32_w]
      rfl
     refine one_ (i := 5) (N := none) #[Tt, Tt, Tt, Tt, Tt, Tt, Ff, Ff] rfl rfl (one_of HT_.out (by kernel_rfl)) (by decide) (fun K hK => ?_)
     have hs28 : w27.cell? ⟨gb225, 0, none⟩ = some (.int .i64 0) := (blk_cell BK225.out 0).trans rfl
     have hfs28 := blk_frozen BK225.out 0
     have hns28_1 := NB226_225.out
     have hns28_2 := NB233_225.out
     have hms28_1 := NB225_226.out
     have hms28_2 := NB225_233.out
     have hs29 : w27.cell? ⟨gb225, 1, none⟩ = some (.int .i64 0) := (blk_cell BK225.out 1).trans rfl
     have hfs29 := blk_frozen BK225.out 1
     have hns29_1 := NB226_225.out
     have hns29_2 := NB233_225.out
     have hms29_1 := NB225_226.out
     have hms29_2 := NB225_233.out
     have hs30 : w27.cell? ⟨gb225, 2, none⟩ = some (.bool false) := (blk_cell BK225.out 2).trans rfl
     have hfs30 := blk_frozen BK225.out 2
     have hns30_1 := NB226_225.out
     have hns30_2 := NB233_225.out
     have hms30_1 := NB225_226.out
     have hms30_2 := NB225_233.out
     refine skip_ (w1 := ?_) (by rfl) rfl ?_ ?_
     rotate_left
     ·go_simp
      rfl
     refine hK.out _ _ ⟨((cell_far (p := ⟨gb225, _, none⟩) NB226_225.out _).trans (((cell_far (p := ⟨gb225, _, none⟩) NB226_225.out _).trans (((cell_far (p := ⟨gb225, _, none⟩) NB226_225.out _).trans (hHeld.1)))))), ((cell_far (p := ⟨gb225, _, none⟩) NB226_225.out _).trans (((cell_far (p := ⟨gb225, _, none⟩) NB226_225.out _).trans (((cell_far (p := ⟨gb225, _, none⟩) NB226_225.out _).trans (hHeld.2.1)))))), ((cell_far (p := ⟨gb225, _, none⟩) NB226_225.out _).trans (((cell_far (p := ⟨gb225, _, none⟩) NB226_225.out _).trans (((cell_far (p := ⟨gb225, _, none⟩) NB226_225.out _).trans (hHeld.2.2.1)))))), ((cell_far (p := ⟨gb225, _, none⟩) (by first | exact Kd.own_blk (Kd.R_ne HO230.out BK225.out (by decide)) | (rw [add_block]; exact Kd.own_blk (Kd.R_ne HO230.out BK225.out (by decide))) | (show (Addr.add _ _).block ≠ _; rw [add_block]; exact Kd.own_blk (Kd.R_ne HO230.out BK225.out (by decide))) | (dsimp only; exact Kd.own_blk (Kd.R_ne HO230.out BK225.out (by decide)))) _).trans (((cell_far (p := ⟨gb225, _, none⟩) (by first | exact Kd.own_blk (Kd.R_ne HO230.out BK225.out (by decide)) | (rw [add_block]; exact Kd.own_blk (Kd.R_ne HO230.out BK225.out (by decide))) | (show (Addr.add _ _).block ≠ _; rw [add_block]; exact Kd.own_blk (Kd.R_ne HO230.out BK225.out (by decide))) | (dsimp only; exact Kd.own_blk (Kd.R_ne HO230.out BK225.out (by decide)))) _).trans (((cell_far (p := ⟨gb225, _, none⟩) (by first | exact Kd.own_blk (Kd.R_ne HO230.out BK225.out (by decide)) | (rw [add_block]; exact Kd.own_blk (Kd.R_ne HO230.out BK225.out (by decide))) | (show (Addr.add _ _).block ≠ _; rw [add_block]; exact Kd.own_blk (Kd.R_ne HO230.out BK225.out (by decide))) | (dsimp only; exact Kd.own_blk (Kd.R_ne HO230.out BK225.out (by decide)))) _).trans (hHeld.2.2.2.1)))))), ((cell_far (p := ⟨gb225, _, none⟩) (by first | exact Kd.own_blk (Kd.R_ne HO230.out BK225.out (by decide)) | (rw [add_block]; exact Kd.own_blk (Kd.R_ne HO230.out BK225.out (by decide))) | (show (Addr.add _ _).block ≠ _; rw [add_block]; exact Kd.own_blk (Kd.R_ne HO230.out BK225.out (by decide))) | (dsimp only; exact Kd.own_blk (Kd.R_ne HO230.out BK225.out (by decide)))) _).trans (((cell_far (p := ⟨gb225, _, none⟩) (by first | exact Kd.own_blk (Kd.R_ne HO230.out BK225.out (by decide)) | (rw [add_block]; exact Kd.own_blk (Kd.R_ne HO230.out BK225.out (by decide))) | (show (Addr.add _ _).block ≠ _; rw [add_block]; exact Kd.own_blk (Kd.R_ne HO230.out BK225.out (by decide))) | (dsimp only; exact Kd.own_blk (Kd.R_ne HO230.out BK225.out (by decide)))) _).trans (((cell_far (p := ⟨gb225, _, none⟩) (by first | exact Kd.own_blk (Kd.R_ne HO230.out BK225.out (by decide)) | (rw [add_block]; exact Kd.own_blk (Kd.R_ne HO230.out BK225.out (by decide))) | (show (Addr.add _ _).block ≠ _; rw [add_block]; exact Kd.own_blk (Kd.R_ne HO230.out BK225.out (by decide))) | (dsimp only; exact Kd.own_blk (Kd.R_ne HO230.out BK225.out (by decide)))) _).trans (hHeld.2.2.2.2))))))⟩ (fun hHeld => ?_)
     clear hK K
     refine pure_ (i := 6) (N := some 3) (v := ?_) (a' := ?_) #[Tt, Tt, Tt, Tt, Tt, Tt, Tt, Ff] rfl rfl (any_of HT_.out (by kernel_rfl)) (fun _ _ _ h => h) (Or.inl ⟨by rfl, ?_⟩) ?_ ?_
     rotate_left
     ·intro w'
      go_simp
      with_reducible rfl
     rotate_left
     ·simp only [Act.put, List.setIfInBounds_toArray, List.set_cons_zero, List.set_cons_succ, i64_w, i32_w]
      rfl
     refine pure_ (i := 7) (N := some 4) (v := ?_) (a' := ?_) #[Tt, Tt, Tt, Tt, Tt, Tt, Tt, Tt] rfl rfl (any_of HT_.out (by kernel_rfl)) (fun _ _ _ h => h) (Or.inl ⟨by rfl, ?_⟩) ?_ ?_
     rotate_left
     ·intro w'
      go_simp
      with_reducible rfl
     rotate_left
     ·simp only [Act.put, List.setIfInBounds_toArray, List.set_cons_zero, List.set_cons_succ, i64_w, i32_w]
      rfl
     refine done_ (done_of HT_.out (by kernel_rfl)) ?_
     try go_wp2
     refine bodyPost_ret (results_ctt rfl _ _ gb225 25 #[.int .i64 0, .int .i64 0, .bool false] (0, 0) _ rfl (by (with_reducible repeat (first | refine cn ?_ _ | refine cd ?_ | refine ca ?_ _)); refine blk_put (cs := #[.int .i64 0, .int .i64 0, .bool false]) ?_ 2 _ rfl; (with_reducible repeat (first | refine cn ?_ _ | refine cd ?_ | refine ca ?_ _)); refine blk_put (cs := #[.int .i64 0, .int .i64 0, .bool false]) ?_ 1 _ rfl; (with_reducible repeat (first | refine cn ?_ _ | refine cd ?_ | refine ca ?_ _)); refine blk_put (cs := #[.int .i64 0, .int .i64 0, .bool false]) ?_ 0 _ rfl; (with_reducible repeat (first | refine cn ?_ _ | refine cd ?_ | refine ca ?_ _)); exact BK225.out) Try.underlying25 rfl (by kernel_rfl)) rfl ?_
     exact ⟨by first | rfl | (simp [errW_none, errW_some] <;> rfl) | (simp [*, errW_none, errW_some] <;> rfl), by repeat (first | (with_reducible first | exact HB.out | apply qa | apply qn | apply qd | refine qs ?_ GE225.out | refine qs ?_ GE226.out | refine qs ?_ GE233.out) | exact HB.out)⟩
    ·rw [if_neg c15] at H
     have c15b0 : (t232 == 0) = false := beq_eq_false_iff_ne.mpr c15
     have c15b1 : (t232 != 0) = true := bne_iff_ne.mpr c15
     have H' := Aside0.mk H
     clear H
     go_enter Try.func11, Try.ntmps11
     go_wp2_with (first | ((with_reducible refine gate_dst (N := 2) rfl ?_); refine box_event ?hg (N := 2) ?hd (cs := #[.int .i64 0, .int .i64 0, .bool false]) (t := 25) ?hr ?_; (case hd => rfl); (case hg => rfl); (case hr => first | (go_simp; done) | (go_simp; rfl)); intro gb225 hg w31 hbox hb; have n0_ := Aside0.mk (below_step (by repeat (first | (with_reducible first | exact HB.out | apply qa | apply qn | apply qd) | exact HB.out)) hb); have n1_ := Aside0.mk (hbox); have n2_ := bgw HB hg; have n3_ := bgw HB hg; clear HB; have HB := n0_; have BK225 := n1_; have GW225 := n2_; have GE225 := n3_; clear n0_ n1_ n2_ n3_; clear hb hbox hg) | ((with_reducible refine gate_dst (N := 5) rfl ?_); refine box_event ?hg (N := 5) ?hd (cs := #[.int .i64 0, .int .i64 0, .bool false]) (t := 25) ?hr ?_; (case hd => rfl); (case hg => rfl); (case hr => first | (go_simp; done) | (go_simp; rfl)); intro gb226 hg w32 hbox hb; have n0_ := bb BK225 hb; have n1_ := Aside0.mk (below_step (by repeat (first | (with_reducible first | exact HB.out | apply qa | apply qn | apply qd | refine qs ?_ GE225.out) | exact HB.out)) hb); have n2_ := Aside0.mk (hbox); have n3_ := bgw HB hg; have n4_ := bgw HB hg; have n5_ := bnl BK225 hg; have n6_ := bng BK225 hg; clear BK225; clear HB; have BK225 := n0_; have HB := n1_; have BK226 := n2_; have GW226 := n3_; have GE226 := n4_; have NB225_226 := n5_; have NB226_225 := n6_; clear n0_ n1_ n2_ n3_ n4_ n5_ n6_; clear hb hbox hg; have hnb33 := NB226_225.out; have hnc33 := NB225_226.out; have hcz34_0 : w32.cell? ⟨gb226, 0, none⟩ = some (.int .i64 0) := (blk_cell BK226.out 0).trans rfl; have hcz34_1 : w32.cell? ⟨gb226, 1, none⟩ = some (.int .i64 0) := (blk_cell BK226.out 1).trans rfl; have hcz34_2 : w32.cell? ⟨gb226, 2, none⟩ = some (.bool false) := (blk_cell BK226.out 2).trans rfl; have hfz34_0 := blk_frozen BK226.out 0; have hfz34_1 := blk_frozen BK226.out 1; have hfz34_2 := blk_frozen BK226.out 2) | ((with_reducible refine gate_callee (f := 25) rfl ?_); refine goesL_ (some 17) rfl rfl Try.func25 (by kernel_rfl) rfl #[.slice A0 l0.length c0] rfl (by (try simp only [List.map_toArray, List.map_cons, List.map_nil]); first | done | rfl | (simp only [List.length_drop, List.length_take]; rfl)) ?_; (with_reducible refine (parquetref02_All.calls k _ _ l0 t227 t228 _ ?side1 ?side2 A2.out).mono ?_); (case side1 => exact Kd.C_below HR0.out (by repeat (first | (with_reducible first | exact HB.out | apply qa | apply qn | apply qd | refine qs ?_ GE225.out | refine qs ?_ GE226.out) | exact HB.out))); (case side2 => exact HC0.out); rintro e w35 ⟨v229, rfl, ho0, hb⟩; refine ⟨_, rfl, ?_⟩; have n0_ := Aside0.mk (Kd.R_lower ho0 (below_size (by repeat (first | (with_reducible first | exact HB.out | apply qa | apply qn | apply qd | refine qs ?_ GE225.out | refine qs ?_ GE226.out) | exact HB.out)))); have n1_ := Aside0.mk (blk_below (g := gb225) (o := .cells #[.int .i64 0, .int .i64 0, .bool false] 25 (0, 0)) (by repeat (with_reducible first | exact lb BK225.out | refine blk_far ?_ NB225_226.out _ | refine cn ?_ _ | refine cd ?_ | refine ca ?_ _)) hb); have n2_ := Aside0.mk (blk_below (g := gb226) (o := .cells #[.int .i64 0, .int .i64 0, .bool false] 25 (0, 0)) (by (with_reducible repeat (first | refine cn ?_ _ | refine cd ?_ | refine ca ?_ _)); refine blk_put (cs := #[.int .i64 0, .int .i64 0, .bool false]) ?_ 2 _ rfl; (with_reducible repeat (first | refine cn ?_ _ | refine cd ?_ | refine ca ?_ _)); refine blk_put (cs := #[.int .i64 0, .int .i64 0, .bool false]) ?_ 1 _ rfl; (with_reducible repeat (first | refine cn ?_ _ | refine cd ?_ | refine ca ?_ _)); refine blk_put (cs := #[.int .i64 0, .int .i64 0, .bool false]) ?_ 0 _ rfl; (with_reducible repeat (first | refine cn ?_ _ | refine cd ?_ | refine ca ?_ _)); exact BK226.out) hb); have n3_ := Aside0.mk (below_step (by repeat (first | (with_reducible first | exact HB.out | apply qa | apply qn | apply qd | refine qs ?_ GE225.out | refine qs ?_ GE226.out) | exact HB.out)) hb); clear BK225; clear BK226; clear HB; have HO230 := n0_; have BK225 := n1_; have BK226 := n2_; have HB := n3_; clear n0_ n1_ n2_ n3_; (try clear hb); (try clear hb2); (try clear hk); (try clear hi); (try clear ho0); obtain ⟨Ao36, co36, eo36⟩ := Kd.R_slice HO230.out; subst eo36; have p231 : 0 ≤ (0 : Int) := (by omega); have q231 : 0 < (t227.length : Int) := of_decide_eq_true (by first | (with_reducible assumption) | assumption); obtain ⟨ad231, e231, hx231_0, hx231_1⟩ := at_T60 (Kd.R_reads' HO230.out).2.2 0 p231 q231; cases e231; have qi231 : (0 < t227.length) = True := eq_true (by omega); (try rw [show ((0 : Int)).toNat = 0 from rfl] at hx231_0); (try rw [show 0 * 2 = 0 from rfl] at hx231_0); (try rw [Addr.add_zero'] at hx231_0); (try rw [show ((0 : Int)).toNat = 0 from rfl] at hx231_1); (try rw [show 0 * 2 = 0 from rfl] at hx231_1); (try rw [Addr.add_zero'] at hx231_1); replace p231 := eq_true p231; replace q231 := eq_true q231) | ((with_reducible refine gate_callee (f := 26) rfl ?_); refine goesL_ (some 34) rfl rfl Try.func26 (by kernel_rfl) rfl #[.string ((rd_T60 t227 0).f1)] rfl (by (try simp only [List.map_toArray, List.map_cons, List.map_nil]); first | done | rfl | (simp only [List.length_drop, List.length_take]; rfl)) ?_; (with_reducible refine (parquetref06_mode.calls ((rd_T60 t227 0).f1) t232 _ A14.out).mono ?_); rintro e w' ⟨rfl, ⟨nd, rfl⟩⟩; refine ⟨_, rfl, ?_⟩; (try (rw [drewN_self w35]; generalize hq_ : World.drewN w35 _ = w35; have n0_ : Aside0 (Kd.R k60 60 w35 w.heap.size (fun _ => True) (.slice (some ad231) t227.length co36) t227) := ⟨by rw [← hq_]; exact (by (with_reducible repeat (first | apply Kd.R_alloc | apply Kd.R_drewN | apply Kd.R_drew)); exact HO230.out)⟩; have n1_ : Aside0 (w35.heap[gb225]? = some (.cells #[.int .i64 0, .int .i64 0, .bool false] 25 (0, 0))) := ⟨by rw [← hq_]; exact (by exact lb BK225.out)⟩; have n2_ : Aside0 (w35.heap[gb226]? = some (.cells #[.int .i64 0, .int .i64 0, .bool false] 25 (0, 0))) := ⟨by rw [← hq_]; exact (by exact lb BK226.out)⟩; have n3_ : Aside0 (Below w.heap.size w w35) := ⟨by rw [← hq_]; exact (by repeat (first | (with_reducible first | exact HB.out | apply qa | apply qn | apply qd | refine qs ?_ GE225.out | refine qs ?_ GE226.out) | exact HB.out))⟩; clear HO230 BK225 BK226 HB hq_; have HO230 := n0_; have BK225 := n1_; have BK226 := n2_; have HB := n3_; clear n0_ n1_ n2_ n3_))) | ((with_reducible refine gate_dst (N := 8) rfl ?_); refine box_event ?hg (N := 8) ?hd (cs := #[.int .i64 0, .int .i64 0, .bool false]) (t := 25) ?hr ?_; (case hd => rfl); (case hg => rfl); (case hr => first | (go_simp; done) | (go_simp; rfl)); intro gb233 hg w37 hbox hb; have n0_ := Aside0.mk (Kd.R_below (by (with_reducible repeat (first | apply Kd.R_alloc | apply Kd.R_drewN | apply Kd.R_drew)); exact HO230.out) hb); have n1_ := bb BK225 hb; have n2_ := bb BK226 hb; have n3_ := Aside0.mk (below_step (by repeat (first | (with_reducible first | exact HB.out | apply qa | apply qn | apply qd | refine qs ?_ GE225.out | refine qs ?_ GE226.out) | exact HB.out)) hb); have n4_ := Aside0.mk (hbox); have n5_ := bgw HB hg; have n6_ := bgw HB hg; have n7_ := bnl BK225 hg; have n8_ := bng BK225 hg; have n9_ := bnl BK226 hg; have n10_ := bng BK226 hg; clear HO230; clear BK225; clear BK226; clear HB; have HO230 := n0_; have BK225 := n1_; have BK226 := n2_; have HB := n3_; have BK233 := n4_; have GW233 := n5_; have GE233 := n6_; have NB225_233 := n7_; have NB233_225 := n8_; have NB226_233 := n9_; have NB233_226 := n10_; clear n0_ n1_ n2_ n3_ n4_ n5_ n6_ n7_ n8_ n9_ n10_; clear hb hbox hg; have hnb38 := NB233_225.out; have hnc38 := NB225_233.out; have hnb39 := NB233_226.out; have hnc39 := NB226_233.out; have hcz40_0 : w37.cell? ⟨gb233, 0, none⟩ = some (.int .i64 0) := (blk_cell BK233.out 0).trans rfl; have hcz40_1 : w37.cell? ⟨gb233, 1, none⟩ = some (.int .i64 0) := (blk_cell BK233.out 1).trans rfl; have hcz40_2 : w37.cell? ⟨gb233, 2, none⟩ = some (.bool false) := (blk_cell BK233.out 2).trans rfl; have hfz40_0 := blk_frozen BK233.out 0; have hfz40_1 := blk_frozen BK233.out 1; have hfz40_2 := blk_frozen BK233.out 2))
     go_loopg [9, 10] k (fun kq v9 v10 w' => ∃ (x9_1 : Bool) (x10_1 : Int) (x226000_1 : Int) (x226001_1 : Int) (x226002_1 : Bool) (x234001_1 : Int) (x234002_1 : Bool), v9 = .bool x9_1 ∧ v10 = .int .i64 x10_1 ∧ Aside0 (parquetref06_Parse.l0 kq l0 t227 x9_1 x10_1 0 0 false t232 x234001_1 x234002_1 = some (r1, r2, r3, r4, r5)) ∧ Aside0 (kq ≤ k) ∧ Aside0 (Kd.R k60 60 w' w.heap.size (fun _ => True) (.slice (some ad231) t227.length co36) t227) ∧ Aside0 (w'.heap[gb225]? = some (.cells #[.int .i64 x226000_1, .int .i64 x226001_1, .bool x226002_1] 25 (0, 0))) ∧ Aside0 (w'.heap[gb226]? = some (.cells #[.int .i64 0, .int .i64 0, .bool false] 25 (0, 0))) ∧ Aside0 (w'.heap[gb233]? = some (.cells #[.int .i64 t232, .int .i64 x234001_1, .bool x234002_1] 25 (0, 0))) ∧ Aside0 (Below w.heap.size w w'))
     case atStart => exact ⟨(false), (1), (0), (0), (false), (0), (false), (by first | rfl | (simp; done) | (simp [*]; done)), (by first | rfl | (simp; done) | (simp [*]; done)), H', ⟨Nat.le_refl _⟩, ⟨by (with_reducible repeat (first | apply Kd.R_alloc | apply Kd.R_drewN | apply Kd.R_drew)); exact Kd.R_mono (Kd.R_far (p := ⟨gb233, 2, none⟩) (Kd.R_far (p := ⟨gb233, 1, none⟩) (Kd.R_far (p := ⟨gb233, 0, none⟩) (Kd.R_types HO230.out BK233.out (by decide)) (fun _ hk => hk.2) (.int .i64 t232)) (fun _ hk => hk.2) (.int .i64 0)) (fun _ hk => hk.2) (.bool false)) (fun _ hk => trivial)⟩, ⟨by repeat (with_reducible first | exact lb BK225.out | refine blk_far ?_ NB225_233.out _ | refine cn ?_ _ | refine cd ?_ | refine ca ?_ _)⟩, ⟨by repeat (with_reducible first | exact lb BK226.out | refine blk_far ?_ NB226_233.out _ | refine cn ?_ _ | refine cd ?_ | refine ca ?_ _)⟩, ⟨by (with_reducible repeat (first | refine cn ?_ _ | refine cd ?_ | refine ca ?_ _)); refine blk_put (cs := #[.int .i64 t232, .int .i64 0, .bool false]) ?_ 2 _ rfl; (with_reducible repeat (first | refine cn ?_ _ | refine cd ?_ | refine ca ?_ _)); refine blk_put (cs := #[.int .i64 t232, .int .i64 0, .bool false]) ?_ 1 _ rfl; (with_reducible repeat (first | refine cn ?_ _ | refine cd ?_ | refine ca ?_ _)); refine blk_put (cs := #[.int .i64 0, .int .i64 0, .bool false]) ?_ 0 _ rfl; (with_reducible repeat (first | refine cn ?_ _ | refine cd ?_ | refine ca ?_ _)); exact BK233.out⟩, ⟨by repeat (first | (with_reducible first | exact HB.out | apply qa | apply qn | apply qd | refine qs ?_ GE225.out | refine qs ?_ GE226.out | refine qs ?_ GE233.out) | exact HB.out)⟩⟩
     case round =>
      clear H'
      try clear c1
      try clear c2
      try clear p2
      try clear q2
      try clear hx2
      try clear qi2
      try clear c3
      try clear c3b0
      try clear c3b1
      try clear c4
      try clear c4b0
      try clear c4b1
      try clear c4b2
      try clear c7
      try clear c11
      try clear c13
      try clear c13b0
      try clear c13b1
      try clear c15
      try clear c15b0
      try clear c15b1
      try clear c18
      try clear c23
      try clear p23
      try clear q23
      try clear hx23
      try clear qi23
      try clear c24
      try clear c25
      try clear c26
      try clear c33
      try clear c38
      try clear c39
      try clear hcz11_0
      try clear hcz11_1
      try clear hcz11_2
      try clear hcz12_0
      try clear hcz12_1
      try clear hcz12_2
      try clear hcz19_0
      try clear hcz19_1
      try clear hcz19_2
      try clear hcz25_0
      try clear hcz25_1
      try clear hcz25_2
      try clear hcz34_0
      try clear hcz34_1
      try clear hcz34_2
      try clear hcz40_0
      try clear hcz40_1
      try clear hcz40_2
      try clear hcz8_0
      try clear hcz8_1
      try clear hcz8_2
      try clear hfz11_0
      try clear hfz11_1
      try clear hfz11_2
      try clear hfz12_0
      try clear hfz12_1
      try clear hfz12_2
      try clear hfz19_0
      try clear hfz19_1
      try clear hfz19_2
      try clear hfz25_0
      try clear hfz25_1
      try clear hfz25_2
      try clear hfz34_0
      try clear hfz34_1
      try clear hfz34_2
      try clear hfz40_0
      try clear hfz40_1
      try clear hfz40_2
      try clear hfz8_0
      try clear hfz8_1
      try clear hfz8_2
      try clear hx231_0
      try clear hx231_1
      try clear hx234_0
      try clear hx234_1
      try clear p231
      try clear p234
      try clear q231
      try clear q234
      obtain ⟨x9_1, x10_1, x226000_1, x226001_1, x226002_1, x234001_1, x234002_1, rfl, rfl, HA, HK1, HO_6, BK225, BK226, BK233, HB⟩ := hrel
      cases gk with
      | zero => exact absurd HA.out (by simp [parquetref06_Parse.l0])
      | succ k1 =>
       have H := HA.out
       clear HA
       simp only [parquetref06_Parse.l0] at H
       by_cases c41 : x10_1 < (t227.length : Int)
       ·rw [if_pos c41] at H
        have c41b0 : decide (x10_1 < (t227.length : Int)) = true := decide_eq_true c41
        clear c41
        by_cases c42 : 0 ≤ x10_1
        ·rw [if_pos c42] at H
         have c42b0 : decide (0 ≤ x10_1) = true := decide_eq_true c42
         clear c42
         have HC43 := Aside0.mk H
         clear H
         have p235 : 0 ≤ (x10_1 : Int) := of_decide_eq_true (by first | (with_reducible assumption) | assumption)
         have q235 : x10_1 < (t227.length : Int) := of_decide_eq_true (by first | (with_reducible assumption) | assumption)
         obtain ⟨ad235, e235, hx235_0, hx235_1⟩ := at_T60 (Kd.R_reads' HO_6.out).2.2 x10_1 p235 q235
         obtain rfl : ad231 = ad235 := (by injection e235)
         replace p235 := eq_true p235
         replace q235 := eq_true q235
         go_upto_region 15 with (first | ((with_reducible refine gate_dst (N := 11) rfl ?_); refine box_event ?hg (N := 11) ?hd (cs := #[.int .i64 0, .string (⟨#[]⟩ : ByteArray)]) (t := 60) ?hr ?_; (case hd => rfl); (case hg => rfl); (case hr => first | (go_simp; done) | (go_simp; rfl)); intro gb236 hg w44 hbox hb; have n0_ := Aside0.mk (Kd.R_below (Kd.R_elderB (by (with_reducible repeat (first | apply Kd.R_alloc | apply Kd.R_drewN | apply Kd.R_drew)); exact HO_6.out) gb236 (Nat.le_of_eq hg.symm)) hb); have n1_ := bb BK225 hb; have n2_ := bb BK226 hb; have n3_ := bb BK233 hb; have n4_ := Aside0.mk (below_step (by repeat (first | (with_reducible first | exact HB.out | apply qa | apply qn | apply qd | refine qs ?_ GE225.out | refine qs ?_ GE226.out | refine qs ?_ GE233.out) | exact HB.out)) hb); have n5_ := Aside0.mk (hbox); have n6_ := bgw HB hg; have n7_ := bgw HB hg; have n8_ := bnl BK225 hg; have n9_ := bng BK225 hg; have n10_ := bnl BK226 hg; have n11_ := bng BK226 hg; have n12_ := bnl BK233 hg; have n13_ := bng BK233 hg; clear HO_6; clear BK225; clear BK226; clear BK233; clear HB; have HO_6 := n0_; have BK225 := n1_; have BK226 := n2_; have BK233 := n3_; have HB := n4_; have BK236 := n5_; have GW236 := n6_; have GE236 := n7_; have NB225_236 := n8_; have NB236_225 := n9_; have NB226_236 := n10_; have NB236_226 := n11_; have NB233_236 := n12_; have NB236_233 := n13_; clear n0_ n1_ n2_ n3_ n4_ n5_ n6_ n7_ n8_ n9_ n10_ n11_ n12_ n13_; clear hb hbox hg; have hnb45 := NB236_225.out; have hnc45 := NB225_236.out; have hnb46 := NB236_226.out; have hnc46 := NB226_236.out; have hnb47 := NB236_233.out; have hnc47 := NB233_236.out; obtain ⟨hcz48_0, hcz48_1⟩ := cl2 BK236.out; obtain ⟨hfz48_0, hfz48_1⟩ := fr2 BK236.out))
         (try simp only [Act.put, List.setIfInBounds_toArray, List.set_cons_zero, List.set_cons_succ])
         go_cut [61] (fun v61 wc => ∃ (kq : Nat) (x61_42 : Bool), v61 = .bool x61_42 ∧ Aside0 (parquetref06_Parse.j1 kq l0 t227 x9_1 (wrap64 (x10_1 + 1)) x61_42 0 0 false t232 x234001_1 x234002_1 ((rd_T60 t227 x10_1).f0) ((rd_T60 t227 x10_1).f1) = some (r1, r2, r3, r4, r5)) ∧ Aside0 (kq ≤ k1) ∧ Aside0 (Kd.R k60 60 wc w.heap.size (fun k_ => k_ ≠ gb236) (.slice (some ad231) t227.length co36) t227) ∧ Aside0 (wc.heap[gb225]? = some (.cells #[.int .i64 x226000_1, .int .i64 x226001_1, .bool x226002_1] 25 (0, 0))) ∧ Aside0 (wc.heap[gb226]? = some (.cells #[.int .i64 0, .int .i64 0, .bool false] 25 (0, 0))) ∧ Aside0 (wc.heap[gb233]? = some (.cells #[.int .i64 t232, .int .i64 x234001_1, .bool x234002_1] 25 (0, 0))) ∧ Aside0 (wc.heap[gb236]? = some (.cells #[.int .i64 ((rd_T60 t227 x10_1).f0), .string ((rd_T60 t227 x10_1).f1)] 60 (0, 0))) ∧ Aside0 (Below w.heap.size w wc))
         case first =>
          have H := HC43.out
          clear HC43
          by_cases c49 : ((rd_T60 t227 x10_1).f1).toList = ([114, 101, 102, 105, 110, 101] : List UInt8)
          ·rw [if_pos c49] at H
           have c49b0 : (((rd_T60 t227 x10_1).f1).toList == ([114, 101, 102, 105, 110, 101] : List UInt8)) = true := beq_iff_eq.mpr c49
           have c49b1 : (((rd_T60 t227 x10_1).f1).toList != ([114, 101, 102, 105, 110, 101] : List UInt8)) = false := bne_eq_false_iff_eq.mpr c49
           clear c49
           (first | rw [c49b0] | (simp only [i64_w, i32_w]; rw [c49b0]) | skip)
           have H' := Aside0.mk H
           clear H
           have hnb50 := NB236_225.out
           have hnc50 := NB225_236.out
           have hnb51 := NB236_226.out
           have hnc51 := NB226_236.out
           have hnb52 := NB236_233.out
           have hnc52 := NB233_236.out
           obtain ⟨hcz53_0, hcz53_1⟩ := cl2 BK236.out
           obtain ⟨hfz53_0, hfz53_1⟩ := fr2 BK236.out
           have hnb54 := NB233_225.out
           have hnc54 := NB225_233.out
           have hnb55 := NB233_226.out
           have hnc55 := NB226_233.out
           have hcz56_0 : w44.cell? ⟨gb233, 0, none⟩ = some (.int .i64 t232) := (blk_cell BK233.out 0).trans rfl
           have hcz56_1 : w44.cell? ⟨gb233, 1, none⟩ = some (.int .i64 x234001_1) := (blk_cell BK233.out 1).trans rfl
           have hcz56_2 : w44.cell? ⟨gb233, 2, none⟩ = some (.bool x234002_1) := (blk_cell BK233.out 2).trans rfl
           have hfz56_0 := blk_frozen BK233.out 0
           have hfz56_1 := blk_frozen BK233.out 1
           have hfz56_2 := blk_frozen BK233.out 2
           go_wp2
           go_meet
           case rel => exact ⟨_, (!x234002_1), (by first | rfl | (simp; done) | (simp [*]; done)), H', ⟨by have := HK1.out; first | omega | exact Nat.le_refl _⟩, ⟨by (with_reducible repeat (first | apply Kd.R_alloc | apply Kd.R_drewN | apply Kd.R_drew)); exact Kd.R_mono (Kd.R_far (p := ⟨gb236, 1, none⟩) (Kd.R_far (p := ⟨gb236, 0, none⟩) (Kd.R_mono HO_6.out (fun k_ hk => (⟨hk, hk.2⟩ : _ ∧ k_ ≠ gb236))) (fun _ hk => hk.2) (.int .i64 ((rd_T60 t227 x10_1).f0))) (fun _ hk => hk.2) (.string ((rd_T60 t227 x10_1).f1))) (fun _ hk => hk.1.2)⟩, ⟨by repeat (with_reducible first | exact lb BK225.out | refine blk_far ?_ NB225_236.out _ | refine cn ?_ _ | refine cd ?_ | refine ca ?_ _)⟩, ⟨by repeat (with_reducible first | exact lb BK226.out | refine blk_far ?_ NB226_236.out _ | refine cn ?_ _ | refine cd ?_ | refine ca ?_ _)⟩, ⟨by repeat (with_reducible first | exact lb BK233.out | refine blk_far ?_ NB233_236.out _ | refine cn ?_ _ | refine cd ?_ | refine ca ?_ _)⟩, ⟨by (with_reducible repeat (first | refine cn ?_ _ | refine cd ?_ | refine ca ?_ _)); refine blk_put (cs := #[.int .i64 ((rd_T60 t227 x10_1).f0), .string (⟨#[]⟩ : ByteArray)]) ?_ 1 _ rfl; (with_reducible repeat (first | refine cn ?_ _ | refine cd ?_ | refine ca ?_ _)); refine blk_put (cs := #[.int .i64 0, .string (⟨#[]⟩ : ByteArray)]) ?_ 0 _ rfl; (with_reducible repeat (first | refine cn ?_ _ | refine cd ?_ | refine ca ?_ _)); exact BK236.out⟩, ⟨by repeat (first | (with_reducible first | exact HB.out | apply qa | apply qn | apply qd | refine qs ?_ GE225.out | refine qs ?_ GE226.out | refine qs ?_ GE233.out | refine qs ?_ GE236.out) | exact HB.out)⟩⟩
          ·rw [if_neg c49] at H
           have c49b0 : (((rd_T60 t227 x10_1).f1).toList == ([114, 101, 102, 105, 110, 101] : List UInt8)) = false := beq_eq_false_iff_ne.mpr c49
           have c49b1 : (((rd_T60 t227 x10_1).f1).toList != ([114, 101, 102, 105, 110, 101] : List UInt8)) = true := bne_iff_ne.mpr c49
           (first | rw [c49b0] | (simp only [i64_w, i32_w]; rw [c49b0]) | skip)
           have H' := Aside0.mk H
           clear H
           have hnb57 := NB236_225.out
           have hnc57 := NB225_236.out
           have hnb58 := NB236_226.out
           have hnc58 := NB226_236.out
           have hnb59 := NB236_233.out
           have hnc59 := NB233_236.out
           obtain ⟨hcz60_0, hcz60_1⟩ := cl2 BK236.out
           obtain ⟨hfz60_0, hfz60_1⟩ := fr2 BK236.out
           go_wp2
           go_meet
           case rel => exact ⟨_, (false), (by first | rfl | (simp; done) | (simp [*]; done)), H', ⟨by have := HK1.out; first | omega | exact Nat.le_refl _⟩, ⟨by (with_reducible repeat (first | apply Kd.R_alloc | apply Kd.R_drewN | apply Kd.R_drew)); exact Kd.R_mono (Kd.R_far (p := ⟨gb236, 1, none⟩) (Kd.R_far (p := ⟨gb236, 0, none⟩) (Kd.R_mono HO_6.out (fun k_ hk => (⟨hk, hk.2⟩ : _ ∧ k_ ≠ gb236))) (fun _ hk => hk.2) (.int .i64 ((rd_T60 t227 x10_1).f0))) (fun _ hk => hk.2) (.string ((rd_T60 t227 x10_1).f1))) (fun _ hk => hk.1.2)⟩, ⟨by repeat (with_reducible first | exact lb BK225.out | refine blk_far ?_ NB225_236.out _ | refine cn ?_ _ | refine cd ?_ | refine ca ?_ _)⟩, ⟨by repeat (with_reducible first | exact lb BK226.out | refine blk_far ?_ NB226_236.out _ | refine cn ?_ _ | refine cd ?_ | refine ca ?_ _)⟩, ⟨by repeat (with_reducible first | exact lb BK233.out | refine blk_far ?_ NB233_236.out _ | refine cn ?_ _ | refine cd ?_ | refine ca ?_ _)⟩, ⟨by (with_reducible repeat (first | refine cn ?_ _ | refine cd ?_ | refine ca ?_ _)); refine blk_put (cs := #[.int .i64 ((rd_T60 t227 x10_1).f0), .string (⟨#[]⟩ : ByteArray)]) ?_ 1 _ rfl; (with_reducible repeat (first | refine cn ?_ _ | refine cd ?_ | refine ca ?_ _)); refine blk_put (cs := #[.int .i64 0, .string (⟨#[]⟩ : ByteArray)]) ?_ 0 _ rfl; (with_reducible repeat (first | refine cn ?_ _ | refine cd ?_ | refine ca ?_ _)); exact BK236.out⟩, ⟨by repeat (first | (with_reducible first | exact HB.out | apply qa | apply qn | apply qd | refine qs ?_ GE225.out | refine qs ?_ GE226.out | refine qs ?_ GE233.out | refine qs ?_ GE236.out) | exact HB.out)⟩⟩
         case rest =>
          clear HC43
          try clear c1
          try clear c2
          try clear p2
          try clear q2
          try clear hx2
          try clear qi2
          try clear c3
          try clear c3b0
          try clear c3b1
          try clear c4
          try clear c4b0
          try clear c4b1
          try clear c4b2
          try clear c5
          try clear p6
          try clear c7
          try clear c11
          try clear c13
          try clear c13b0
          try clear c13b1
          try clear c15
          try clear c15b0
          try clear c15b1
          try clear c18
          try clear c23
          try clear p23
          try clear q23
          try clear hx23
          try clear qi23
          try clear c24
          try clear c25
          try clear c26
          try clear c33
          try clear c38
          try clear c39
          try clear c41
          try clear c41b0
          try clear c42
          try clear c42b0
          try clear c45
          try clear c46
          try clear c47
          try clear c49
          try clear c49b0
          try clear c49b1
          try clear c50
          try clear c51
          try clear c52
          try clear c54
          try clear c55
          try clear c57
          try clear c58
          try clear c59
          try clear hcz11_0
          try clear hcz11_1
          try clear hcz11_2
          try clear hcz12_0
          try clear hcz12_1
          try clear hcz12_2
          try clear hcz19_0
          try clear hcz19_1
          try clear hcz19_2
          try clear hcz25_0
          try clear hcz25_1
          try clear hcz25_2
          try clear hcz34_0
          try clear hcz34_1
          try clear hcz34_2
          try clear hcz40_0
          try clear hcz40_1
          try clear hcz40_2
          try clear hcz48_0
          try clear hcz48_1
          try clear hcz53_0
          try clear hcz53_1
          try clear hcz56_0
          try clear hcz56_1
          try clear hcz56_2
          try clear hcz60_0
          try clear hcz60_1
          try clear hcz8_0
          try clear hcz8_1
          try clear hcz8_2
          try clear hfz11_0
          try clear hfz11_1
          try clear hfz11_2
          try clear hfz12_0
          try clear hfz12_1
          try clear hfz12_2
          try clear hfz19_0
          try clear hfz19_1
          try clear hfz19_2
          try clear hfz25_0
          try clear hfz25_1
          try clear hfz25_2
          try clear hfz34_0
          try clear hfz34_1
          try clear hfz34_2
          try clear hfz40_0
          try clear hfz40_1
          try clear hfz40_2
          try clear hfz48_0
          try clear hfz48_1
          try clear hfz53_0
          try clear hfz53_1
          try clear hfz56_0
          try clear hfz56_1
          try clear hfz56_2
          try clear hfz60_0
          try clear hfz60_1
          try clear hfz8_0
          try clear hfz8_1
          try clear hfz8_2
          try clear hx231_0
          try clear hx231_1
          try clear hx234_0
          try clear hx234_1
          try clear hx235_0
          try clear hx235_1
          try clear p2
          try clear p23
          try clear p231
          try clear p234
          try clear p235
          try clear q2
          try clear q23
          try clear q231
          try clear q234
          try clear q235
          obtain ⟨kq, x61_42, rfl, HA, HJ42, HO_6, BK225, BK226, BK233, BK236, HB⟩ := hcut
          cases kq with
          | zero => exact absurd HA.out (by simp [parquetref06_Parse.j1])
          | succ kj42 =>
           have H := HA.out
           clear HA
           simp only [parquetref06_Parse.j1] at H
           by_cases c61 : x61_42 = true
           ·subst c61
            have H1 : (parquetref06_Parse.l0 kj42 l0 t227 x9_1 (wrap64 (x10_1 + 1)) 0 0 false t232 x234001_1 true) = some (r1, r2, r3, r4, r5) := by rw [if_pos rfl] at H; exact H
            clear H
            have H := H1
            clear H1
            have H' := Aside0.mk H
            clear H
            have hnb62 := NB233_225.out
            have hnc62 := NB225_233.out
            have hnb63 := NB233_226.out
            have hnc63 := NB226_233.out
            have hnb64 := NB233_236.out
            have hnc64 := NB236_233.out
            have hcz65_0 : wc.cell? ⟨gb233, 0, none⟩ = some (.int .i64 t232) := (blk_cell BK233.out 0).trans rfl
            have hcz65_1 : wc.cell? ⟨gb233, 1, none⟩ = some (.int .i64 x234001_1) := (blk_cell BK233.out 1).trans rfl
            have hcz65_2 : wc.cell? ⟨gb233, 2, none⟩ = some (.bool x234002_1) := (blk_cell BK233.out 2).trans rfl
            have hfz65_0 := blk_frozen BK233.out 0
            have hfz65_1 := blk_frozen BK233.out 1
            have hfz65_2 := blk_frozen BK233.out 2
            go_wp2
            go_roundg kj42
            case measure => have := HK1.out; have := HJ42.out; omega
            case rel => exact ⟨(x9_1), ((wrap64 (x10_1 + 1))), (x226000_1), (x226001_1), (x226002_1), (x234001_1), (true), (by first | rfl | (simp; done) | (simp [*]; done)), (by first | rfl | (simp; done) | (simp [*]; done)), H', ⟨by have := HK1.out; have := HJ42.out; omega⟩, ⟨by (with_reducible repeat (first | apply Kd.R_alloc | apply Kd.R_drewN | apply Kd.R_drew)); exact Kd.R_mono (Kd.R_far (p := ⟨gb233, 2, none⟩) (Kd.R_types HO_6.out BK233.out (by decide)) (fun _ hk => hk.2) (.bool true)) (fun _ hk => trivial)⟩, ⟨by repeat (with_reducible first | exact lb BK225.out | refine blk_far ?_ NB225_233.out _ | refine cn ?_ _ | refine cd ?_ | refine ca ?_ _)⟩, ⟨by repeat (with_reducible first | exact lb BK226.out | refine blk_far ?_ NB226_233.out _ | refine cn ?_ _ | refine cd ?_ | refine ca ?_ _)⟩, ⟨by (with_reducible repeat (first | refine cn ?_ _ | refine cd ?_ | refine ca ?_ _)); refine blk_put (cs := #[.int .i64 t232, .int .i64 x234001_1, .bool x234002_1]) ?_ 2 _ rfl; (with_reducible repeat (first | refine cn ?_ _ | refine cd ?_ | refine ca ?_ _)); exact BK233.out⟩, ⟨by repeat (first | (with_reducible first | exact HB.out | apply qa | apply qn | apply qd | refine qs ?_ GE225.out | refine qs ?_ GE226.out | refine qs ?_ GE233.out | refine qs ?_ GE236.out) | exact HB.out)⟩⟩
           ·replace c61 := Bool.eq_false_iff.mpr c61
            subst c61
            have H1 : (if ((rd_T60 t227 x10_1).f1).toList = ([98, 117, 100, 103, 101, 116] : List UInt8) then (parquetref06_Parse.j2 kj42 l0 t227 (wrap64 (x10_1 + 1)) x9_1 0 0 false t232 x234001_1 x234002_1 ((rd_T60 t227 x10_1).f0) ((rd_T60 t227 x10_1).f1)) else (parquetref06_Parse.j2 kj42 l0 t227 (wrap64 (x10_1 + 1)) true 0 0 false t232 x234001_1 x234002_1 ((rd_T60 t227 x10_1).f0) ((rd_T60 t227 x10_1).f1))) = some (r1, r2, r3, r4, r5) := by rw [if_neg (show ¬ (false = true) by decide)] at H; exact H
            clear H
            have H := H1
            clear H1
            have HC66 := Aside0.mk H
            clear H
            go_upto_region 17 with (fail)
            go_cut [68] (fun v68 wc => ∃ (kq : Nat) (x68_65 : Bool), v68 = .bool x68_65 ∧ Aside0 (parquetref06_Parse.j2 kq l0 t227 (wrap64 (x10_1 + 1)) x68_65 0 0 false t232 x234001_1 x234002_1 ((rd_T60 t227 x10_1).f0) ((rd_T60 t227 x10_1).f1) = some (r1, r2, r3, r4, r5)) ∧ Aside0 (kq ≤ kj42) ∧ Aside0 (Kd.R k60 60 wc w.heap.size (fun k_ => k_ ≠ gb236) (.slice (some ad231) t227.length co36) t227) ∧ Aside0 (wc.heap[gb225]? = some (.cells #[.int .i64 x226000_1, .int .i64 x226001_1, .bool x226002_1] 25 (0, 0))) ∧ Aside0 (wc.heap[gb226]? = some (.cells #[.int .i64 0, .int .i64 0, .bool false] 25 (0, 0))) ∧ Aside0 (wc.heap[gb233]? = some (.cells #[.int .i64 t232, .int .i64 x234001_1, .bool x234002_1] 25 (0, 0))) ∧ Aside0 (wc.heap[gb236]? = some (.cells #[.int .i64 ((rd_T60 t227 x10_1).f0), .string ((rd_T60 t227 x10_1).f1)] 60 (0, 0))) ∧ Aside0 (Below w.heap.size w wc))
            case first =>
             have H := HC66.out
             clear HC66
             by_cases c67 : ((rd_T60 t227 x10_1).f1).toList = ([98, 117, 100, 103, 101, 116] : List UInt8)
             ·rw [if_pos c67] at H
              have c67b0 : (((rd_T60 t227 x10_1).f1).toList == ([98, 117, 100, 103, 101, 116] : List UInt8)) = true := beq_iff_eq.mpr c67
              have c67b1 : (((rd_T60 t227 x10_1).f1).toList != ([98, 117, 100, 103, 101, 116] : List UInt8)) = false := bne_eq_false_iff_eq.mpr c67
              clear c67
              (first | rw [c67b0] | (simp only [i64_w, i32_w]; rw [c67b0]) | skip)
              have H' := Aside0.mk H
              clear H
              have hnb68 := NB236_225.out
              have hnc68 := NB225_236.out
              have hnb69 := NB236_226.out
              have hnc69 := NB226_236.out
              have hnb70 := NB236_233.out
              have hnc70 := NB233_236.out
              obtain ⟨hcz71_0, hcz71_1⟩ := cl2 BK236.out
              obtain ⟨hfz71_0, hfz71_1⟩ := fr2 BK236.out
              go_wp2
              go_meet
              case rel => exact ⟨_, (x9_1), (by first | rfl | (simp; done) | (simp [*]; done)), H', ⟨by have := HK1.out; have := HJ42.out; first | omega | exact Nat.le_refl _⟩, ⟨by (with_reducible repeat (first | apply Kd.R_alloc | apply Kd.R_drewN | apply Kd.R_drew)); exact HO_6.out⟩, ⟨by (with_reducible repeat (first | refine cn ?_ _ | refine cd ?_ | refine ca ?_ _)); exact BK225.out⟩, ⟨by (with_reducible repeat (first | refine cn ?_ _ | refine cd ?_ | refine ca ?_ _)); exact BK226.out⟩, ⟨by (with_reducible repeat (first | refine cn ?_ _ | refine cd ?_ | refine ca ?_ _)); exact BK233.out⟩, ⟨by (with_reducible repeat (first | refine cn ?_ _ | refine cd ?_ | refine ca ?_ _)); exact BK236.out⟩, ⟨by repeat (first | (with_reducible first | exact HB.out | apply qa | apply qn | apply qd | refine qs ?_ GE225.out | refine qs ?_ GE226.out | refine qs ?_ GE233.out | refine qs ?_ GE236.out) | exact HB.out)⟩⟩
             ·rw [if_neg c67] at H
              have c67b0 : (((rd_T60 t227 x10_1).f1).toList == ([98, 117, 100, 103, 101, 116] : List UInt8)) = false := beq_eq_false_iff_ne.mpr c67
              have c67b1 : (((rd_T60 t227 x10_1).f1).toList != ([98, 117, 100, 103, 101, 116] : List UInt8)) = true := bne_iff_ne.mpr c67
              (first | rw [c67b0] | (simp only [i64_w, i32_w]; rw [c67b0]) | skip)
              have H' := Aside0.mk H
              clear H
              have hnb72 := NB236_225.out
              have hnc72 := NB225_236.out
              have hnb73 := NB236_226.out
              have hnc73 := NB226_236.out
              have hnb74 := NB236_233.out
              have hnc74 := NB233_236.out
              obtain ⟨hcz75_0, hcz75_1⟩ := cl2 BK236.out
              obtain ⟨hfz75_0, hfz75_1⟩ := fr2 BK236.out
              go_wp2
              go_meet
              case rel => exact ⟨_, (true), (by first | rfl | (simp; done) | (simp [*]; done)), H', ⟨by have := HK1.out; have := HJ42.out; first | omega | exact Nat.le_refl _⟩, ⟨by (with_reducible repeat (first | apply Kd.R_alloc | apply Kd.R_drewN | apply Kd.R_drew)); exact HO_6.out⟩, ⟨by (with_reducible repeat (first | refine cn ?_ _ | refine cd ?_ | refine ca ?_ _)); exact BK225.out⟩, ⟨by (with_reducible repeat (first | refine cn ?_ _ | refine cd ?_ | refine ca ?_ _)); exact BK226.out⟩, ⟨by (with_reducible repeat (first | refine cn ?_ _ | refine cd ?_ | refine ca ?_ _)); exact BK233.out⟩, ⟨by (with_reducible repeat (first | refine cn ?_ _ | refine cd ?_ | refine ca ?_ _)); exact BK236.out⟩, ⟨by repeat (first | (with_reducible first | exact HB.out | apply qa | apply qn | apply qd | refine qs ?_ GE225.out | refine qs ?_ GE226.out | refine qs ?_ GE233.out | refine qs ?_ GE236.out) | exact HB.out)⟩⟩
            case rest =>
             clear HC66
             try clear c1
             try clear c2
             try clear p2
             try clear q2
             try clear hx2
             try clear qi2
             try clear c3
             try clear c3b0
             try clear c3b1
             try clear c4
             try clear c4b0
             try clear c4b1
             try clear c4b2
             try clear c5
             try clear c6
             try clear p6
             try clear c7
             try clear c11
             try clear c13
             try clear c13b0
             try clear c13b1
             try clear c15
             try clear c15b0
             try clear c15b1
             try clear c18
             try clear c23
             try clear p23
             try clear q23
             try clear hx23
             try clear qi23
             try clear c24
             try clear c25
             try clear c26
             try clear c33
             try clear c38
             try clear c39
             try clear c41
             try clear c41b0
             try clear c42
             try clear c42b0
             try clear c45
             try clear c46
             try clear c47
             try clear c49
             try clear c49b0
             try clear c49b1
             try clear c50
             try clear c51
             try clear c52
             try clear c54
             try clear c55
             try clear c57
             try clear c58
             try clear c59
             try clear c61
             try clear c62
             try clear c63
             try clear c64
             try clear p64
             try clear c67
             try clear c67b0
             try clear c67b1
             try clear c68
             try clear c69
             try clear c70
             try clear c72
             try clear c73
             try clear c74
             try clear hcz11_0
             try clear hcz11_1
             try clear hcz11_2
             try clear hcz12_0
             try clear hcz12_1
             try clear hcz12_2
             try clear hcz19_0
             try clear hcz19_1
             try clear hcz19_2
             try clear hcz25_0
             try clear hcz25_1
             try clear hcz25_2
             try clear hcz34_0
             try clear hcz34_1
             try clear hcz34_2
             try clear hcz40_0
             try clear hcz40_1
             try clear hcz40_2
             try clear hcz48_0
             try clear hcz48_1
             try clear hcz53_0
             try clear hcz53_1
             try clear hcz56_0
             try clear hcz56_1
             try clear hcz56_2
             try clear hcz60_0
             try clear hcz60_1
             try clear hcz65_0
             try clear hcz65_1
             try clear hcz65_2
             try clear hcz71_0
             try clear hcz71_1
             try clear hcz75_0
             try clear hcz75_1
             try clear hcz8_0
             try clear hcz8_1
             try clear hcz8_2
             try clear hfz11_0
             try clear hfz11_1
             try clear hfz11_2
             try clear hfz12_0
             try clear hfz12_1
             try clear hfz12_2
             try clear hfz19_0
             try clear hfz19_1
             try clear hfz19_2
             try clear hfz25_0
             try clear hfz25_1
             try clear hfz25_2
             try clear hfz34_0
             try clear hfz34_1
             try clear hfz34_2
             try clear hfz40_0
             try clear hfz40_1
             try clear hfz40_2
             try clear hfz48_0
             try clear hfz48_1
             try clear hfz53_0
             try clear hfz53_1
             try clear hfz56_0
             try clear hfz56_1
             try clear hfz56_2
             try clear hfz60_0
             try clear hfz60_1
             try clear hfz65_0
             try clear hfz65_1
             try clear hfz65_2
             try clear hfz71_0
             try clear hfz71_1
             try clear hfz75_0
             try clear hfz75_1
             try clear hfz8_0
             try clear hfz8_1
             try clear hfz8_2
             try clear hx231_0
             try clear hx231_1
             try clear hx234_0
             try clear hx234_1
             try clear hx235_0
             try clear hx235_1
             try clear p2
             try clear p23
             try clear p231
             try clear p234
             try clear p235
             try clear p6
             try clear q2
             try clear q23
             try clear q231
             try clear q234
             try clear q235
             obtain ⟨kq, x68_65, rfl, HA, HJ65, HO_6, BK225, BK226, BK233, BK236, HB⟩ := hcut
             cases kq with
             | zero => exact absurd HA.out (by simp [parquetref06_Parse.j2])
             | succ kj65 =>
              have H := HA.out
              clear HA
              simp only [parquetref06_Parse.j2] at H
              by_cases c76 : x68_65 = true
              ·subst c76
               have H1 : (some (0, 0, false, ((rd_T60 t227 x10_1).f0), 11)) = some (r1, r2, r3, r4, r5) := by rw [if_pos rfl] at H; exact H
               clear H
               have H := H1
               clear H1
               simp only [Option.some.injEq, Prod.mk.injEq] at H
               obtain ⟨rfl, rfl, rfl, rfl, rfl⟩ := H
               try go_wp2
               have n0_ := Aside0.mk (Kd.R_drew HO_6.out)
               have n1_ := Aside0.mk (blk_drew BK225.out)
               have n2_ := Aside0.mk (blk_drew BK226.out)
               have n3_ := Aside0.mk (blk_drew BK233.out)
               have n4_ := Aside0.mk (blk_drew BK236.out)
               have n5_ := Aside0.mk (below_drew1 HB.out)
               clear HO_6
               clear BK225
               clear BK226
               clear BK233
               clear BK236
               clear HB
               have HO_6 := n0_
               have BK225 := n1_
               have BK226 := n2_
               have BK233 := n3_
               have BK236 := n4_
               have HB := n5_
               clear n0_ n1_ n2_ n3_ n4_ n5_
               refine start_ (n := 6) (S := fun w' => w'.cell? ⟨gb226, 0, none⟩ = some (.int .i64 0) ∧ w'.cell? ⟨gb226, 1, none⟩ = some (.int .i64 0) ∧ w'.cell? ⟨gb226, 2, none⟩ = some (.bool false) ∧ w'.cell? ⟨gb236, 0, none⟩ = some (.int .i64 ((rd_T60 t227 x10_1).f0)) ∧ w'.cell? ⟨gb236, 1, none⟩ = some (.string ((rd_T60 t227 x10_1).f1))) (ds := []) #[Ff, Ff, Ff, Ff, Ff, Ff] (by kernel_rfl) rfl rfl ⟨(blk_cell BK226.out 0).trans rfl, (blk_cell BK226.out 1).trans rfl, (blk_cell BK226.out 2).trans rfl, (blk_cell BK236.out 0).trans rfl, (blk_cell BK236.out 1).trans rfl⟩ (fun hHeld => ?_)
               generalize wc.drew = w77 at HO_6 BK225 BK226 BK233 BK236 HB hHeld ⊢
               refine pure_ (i := 1) (N := some 70) (v := ?_) (a' := ?_) #[Ff, Tt, Ff, Ff, Ff, Ff] rfl rfl (by kernel_rfl) (fun _ _ _ h => h) (Or.inl ⟨by rfl, ?_⟩) ?_ ?_
               rotate_left
               ·intro w'
                go_simp
                with_reducible rfl
               rotate_left
               ·simp only [Act.put, List.setIfInBounds_toArray, List.set_cons_zero, List.set_cons_succ, i64_w, i32_w]
                rfl
               refine take_ (i := 0) (N := some 69) (v := ?_) (a' := ?_) #[Tt, Tt, Ff, Ff, Ff, Ff] rfl rfl (by kernel_rfl) (fun _ _ _ h => h) (Or.inl ⟨by rfl, ?_⟩) hHeld ?_ ?_
               rotate_left
               ·rintro w' ⟨s0, s1, s2, s3, s4⟩
                go_simp
                with_reducible rfl
               rotate_left
               ·simp only [Act.put, List.setIfInBounds_toArray, List.set_cons_zero, List.set_cons_succ, i64_w, i32_w]
                rfl
               refine take_ (i := 2) (N := some 71) (v := ?_) (a' := ?_) #[Tt, Tt, Tt, Ff, Ff, Ff] rfl rfl (by kernel_rfl) (fun _ _ _ h => h) (Or.inl ⟨by rfl, ?_⟩) hHeld ?_ ?_
               rotate_left
               ·rintro w' ⟨s0, s1, s2, s3, s4⟩
                go_simp
                with_reducible rfl
               rotate_left
               ·simp only [Act.put, List.setIfInBounds_toArray, List.set_cons_zero, List.set_cons_succ, i64_w, i32_w]
                rfl
               refine one_ (i := 3) (N := none) #[Tt, Tt, Tt, Tt, Ff, Ff] rfl rfl (by kernel_rfl) (by decide) (fun K hK => ?_)
               have hs78 : w77.cell? ⟨gb225, 0, none⟩ = some (.int .i64 x226000_1) := (blk_cell BK225.out 0).trans rfl
               have hfs78 := blk_frozen BK225.out 0
               have hns78_1 := NB226_225.out
               have hns78_2 := NB233_225.out
               have hns78_3 := NB236_225.out
               have hms78_1 := NB225_226.out
               have hms78_2 := NB225_233.out
               have hms78_3 := NB225_236.out
               have hs79 : w77.cell? ⟨gb225, 1, none⟩ = some (.int .i64 x226001_1) := (blk_cell BK225.out 1).trans rfl
               have hfs79 := blk_frozen BK225.out 1
               have hns79_1 := NB226_225.out
               have hns79_2 := NB233_225.out
               have hns79_3 := NB236_225.out
               have hms79_1 := NB225_226.out
               have hms79_2 := NB225_233.out
               have hms79_3 := NB225_236.out
               have hs80 : w77.cell? ⟨gb225, 2, none⟩ = some (.bool x226002_1) := (blk_cell BK225.out 2).trans rfl
               have hfs80 := blk_frozen BK225.out 2
               have hns80_1 := NB226_225.out
               have hns80_2 := NB233_225.out
               have hns80_3 := NB236_225.out
               have hms80_1 := NB225_226.out
               have hms80_2 := NB225_233.out
               have hms80_3 := NB225_236.out
               refine skip_ (w1 := ?_) (by rfl) rfl ?_ ?_
               rotate_left
               ·go_simp
                rfl
               refine hK.out _ _ ⟨((cell_far (p := ⟨gb225, _, none⟩) NB226_225.out _).trans (((cell_far (p := ⟨gb225, _, none⟩) NB226_225.out _).trans (((cell_far (p := ⟨gb225, _, none⟩) NB226_225.out _).trans (hHeld.1)))))), ((cell_far (p := ⟨gb225, _, none⟩) NB226_225.out _).trans (((cell_far (p := ⟨gb225, _, none⟩) NB226_225.out _).trans (((cell_far (p := ⟨gb225, _, none⟩) NB226_225.out _).trans (hHeld.2.1)))))), ((cell_far (p := ⟨gb225, _, none⟩) NB226_225.out _).trans (((cell_far (p := ⟨gb225, _, none⟩) NB226_225.out _).trans (((cell_far (p := ⟨gb225, _, none⟩) NB226_225.out _).trans (hHeld.2.2.1)))))), ((cell_far (p := ⟨gb225, _, none⟩) NB236_225.out _).trans (((cell_far (p := ⟨gb225, _, none⟩) NB236_225.out _).trans (((cell_far (p := ⟨gb225, _, none⟩) NB236_225.out _).trans (hHeld.2.2.2.1)))))), ((cell_far (p := ⟨gb225, _, none⟩) NB236_225.out _).trans (((cell_far (p := ⟨gb225, _, none⟩) NB236_225.out _).trans (((cell_far (p := ⟨gb225, _, none⟩) NB236_225.out _).trans (hHeld.2.2.2.2))))))⟩ (fun hHeld => ?_)
               clear hK K
               refine pure_ (i := 4) (N := some 3) (v := ?_) (a' := ?_) #[Tt, Tt, Tt, Tt, Tt, Ff] rfl rfl (by kernel_rfl) (fun _ _ _ h => h) (Or.inl ⟨by rfl, ?_⟩) ?_ ?_
               rotate_left
               ·intro w'
                go_simp
                with_reducible rfl
               rotate_left
               ·simp only [Act.put, List.setIfInBounds_toArray, List.set_cons_zero, List.set_cons_succ, i64_w, i32_w]
                rfl
               refine pure_ (i := 5) (N := some 4) (v := ?_) (a' := ?_) #[Tt, Tt, Tt, Tt, Tt, Tt] rfl rfl (by kernel_rfl) (fun _ _ _ h => h) (Or.inl ⟨by rfl, ?_⟩) ?_ ?_
               rotate_left
               ·intro w'
                go_simp
                with_reducible rfl
               rotate_left
               ·simp only [Act.put, List.setIfInBounds_toArray, List.set_cons_zero, List.set_cons_succ, i64_w, i32_w]
                rfl
               refine done_ (by kernel_rfl) ?_
               try go_wp2
               refine bodyPost_ret (results_ctt rfl _ _ gb225 25 #[.int .i64 0, .int .i64 0, .bool false] (0, 0) _ rfl (by (with_reducible repeat (first | refine cn ?_ _ | refine cd ?_ | refine ca ?_ _)); refine blk_put (cs := #[.int .i64 0, .int .i64 0, .bool x226002_1]) ?_ 2 _ rfl; (with_reducible repeat (first | refine cn ?_ _ | refine cd ?_ | refine ca ?_ _)); refine blk_put (cs := #[.int .i64 0, .int .i64 x226001_1, .bool x226002_1]) ?_ 1 _ rfl; (with_reducible repeat (first | refine cn ?_ _ | refine cd ?_ | refine ca ?_ _)); refine blk_put (cs := #[.int .i64 x226000_1, .int .i64 x226001_1, .bool x226002_1]) ?_ 0 _ rfl; (with_reducible repeat (first | refine cn ?_ _ | refine cd ?_ | refine ca ?_ _)); exact BK225.out) Try.underlying25 rfl (by kernel_rfl)) rfl ?_
               exact ⟨by first | rfl | (simp [errW_none, errW_some] <;> rfl) | (simp [*, errW_none, errW_some] <;> rfl), by repeat (first | (with_reducible first | exact HB.out | apply qa | apply qn | apply qd | refine qs ?_ GE225.out | refine qs ?_ GE226.out | refine qs ?_ GE233.out | refine qs ?_ GE236.out) | exact HB.out)⟩
              ·replace c76 := Bool.eq_false_iff.mpr c76
               subst c76
               have H1 : (if (wrap64 (x10_1 + 1)) = (t227.length : Int) then (some (0, 0, false, (l0.length : Int), 11)) else (if 0 ≤ (wrap64 (x10_1 + 1)) then (if (wrap64 (x10_1 + 1)) < (t227.length : Int) then ((parquetref02_Number.f kj65 ((rd_T60 t227 (wrap64 (x10_1 + 1))).f1) 9223372036854775807).bind fun bt238 => (if bt238.2 = 0 then (if bt238.1 < 0 then (parquetref06_Parse.j3 kj65 l0 t227 true (wrap64 (x10_1 + 1)) bt238.1 bt238.2 true 0 0 false t232 x234001_1 x234002_1) else (parquetref06_Parse.j3 kj65 l0 t227 true (wrap64 (x10_1 + 1)) bt238.1 bt238.2 (decide (bt238.1 > 100)) 0 0 false t232 x234001_1 x234002_1)) else (parquetref06_Parse.j3 kj65 l0 t227 true (wrap64 (x10_1 + 1)) bt238.1 bt238.2 false 0 0 false t232 x234001_1 x234002_1))) else (none)) else (none))) = some (r1, r2, r3, r4, r5) := by rw [if_neg (show ¬ (false = true) by decide)] at H; exact H
               clear H
               have H := H1
               clear H1
               by_cases c81 : (wrap64 (x10_1 + 1)) = (t227.length : Int)
               ·rw [if_pos c81] at H
                have c81b0 : ((wrap64 (x10_1 + 1)) == (t227.length : Int)) = true := beq_iff_eq.mpr c81
                have c81b1 : ((wrap64 (x10_1 + 1)) != (t227.length : Int)) = false := bne_eq_false_iff_eq.mpr c81
                clear c81
                simp only [Option.some.injEq, Prod.mk.injEq] at H
                obtain ⟨rfl, rfl, rfl, rfl, rfl⟩ := H
                have hnb82 := NB226_225.out
                have hnc82 := NB225_226.out
                have hnb83 := NB226_233.out
                have hnc83 := NB233_226.out
                have hnb84 := NB226_236.out
                have hnc84 := NB236_226.out
                have hcz85_0 : wc.cell? ⟨gb226, 0, none⟩ = some (.int .i64 0) := (blk_cell BK226.out 0).trans rfl
                have hcz85_1 : wc.cell? ⟨gb226, 1, none⟩ = some (.int .i64 0) := (blk_cell BK226.out 1).trans rfl
                have hcz85_2 : wc.cell? ⟨gb226, 2, none⟩ = some (.bool false) := (blk_cell BK226.out 2).trans rfl
                have hfz85_0 := blk_frozen BK226.out 0
                have hfz85_1 := blk_frozen BK226.out 1
                have hfz85_2 := blk_frozen BK226.out 2
                have hnb86 := NB225_233.out
                have hnc86 := NB233_225.out
                have hnb87 := NB225_236.out
                have hnc87 := NB236_225.out
                have hcz88_0 : wc.cell? ⟨gb225, 0, none⟩ = some (.int .i64 x226000_1) := (blk_cell BK225.out 0).trans rfl
                have hcz88_1 : wc.cell? ⟨gb225, 1, none⟩ = some (.int .i64 x226001_1) := (blk_cell BK225.out 1).trans rfl
                have hcz88_2 : wc.cell? ⟨gb225, 2, none⟩ = some (.bool x226002_1) := (blk_cell BK225.out 2).trans rfl
                have hfz88_0 := blk_frozen BK225.out 0
                have hfz88_1 := blk_frozen BK225.out 1
                have hfz88_2 := blk_frozen BK225.out 2
                go_wp2
                refine bodyPost_ret (results_ctt rfl _ _ gb225 25 #[.int .i64 0, .int .i64 0, .bool false] (0, 0) _ rfl (by (with_reducible repeat (first | refine cn ?_ _ | refine cd ?_ | refine ca ?_ _)); refine blk_put (cs := #[.int .i64 0, .int .i64 0, .bool x226002_1]) ?_ 2 _ rfl; (with_reducible repeat (first | refine cn ?_ _ | refine cd ?_ | refine ca ?_ _)); refine blk_put (cs := #[.int .i64 0, .int .i64 x226001_1, .bool x226002_1]) ?_ 1 _ rfl; (with_reducible repeat (first | refine cn ?_ _ | refine cd ?_ | refine ca ?_ _)); refine blk_put (cs := #[.int .i64 x226000_1, .int .i64 x226001_1, .bool x226002_1]) ?_ 0 _ rfl; (with_reducible repeat (first | refine cn ?_ _ | refine cd ?_ | refine ca ?_ _)); exact BK225.out) Try.underlying25 rfl (by kernel_rfl)) rfl ?_
                exact ⟨by first | rfl | (simp [errW_none, errW_some] <;> rfl) | (simp [*, errW_none, errW_some] <;> rfl), by repeat (first | (with_reducible first | exact HB.out | apply qa | apply qn | apply qd | refine qs ?_ GE225.out | refine qs ?_ GE226.out | refine qs ?_ GE233.out | refine qs ?_ GE236.out) | exact HB.out)⟩
               ·rw [if_neg c81] at H
                have c81b0 : ((wrap64 (x10_1 + 1)) == (t227.length : Int)) = false := beq_eq_false_iff_ne.mpr c81
                have c81b1 : ((wrap64 (x10_1 + 1)) != (t227.length : Int)) = true := bne_iff_ne.mpr c81
                obtain ⟨ji89, hji89⟩ : ∃ j_ : Int, (wrap64 (x10_1 + 1)) = j_ := ⟨_, rfl⟩
                replace H : (if 0 ≤ (ji89) then (if (ji89) < (t227.length : Int) then ((parquetref02_Number.f kj65 ((rd_T60 t227 (ji89)).f1) 9223372036854775807).bind fun bt238 => (if bt238.2 = 0 then (if bt238.1 < 0 then (parquetref06_Parse.j3 kj65 l0 t227 true (ji89) bt238.1 bt238.2 true 0 0 false t232 x234001_1 x234002_1) else (parquetref06_Parse.j3 kj65 l0 t227 true (ji89) bt238.1 bt238.2 (decide (bt238.1 > 100)) 0 0 false t232 x234001_1 x234002_1)) else (parquetref06_Parse.j3 kj65 l0 t227 true (ji89) bt238.1 bt238.2 false 0 0 false t232 x234001_1 x234002_1))) else (none)) else (none)) = some (r1, r2, r3, r4, r5) := by first | (rw [hji89] at H; exact H) | (simp only [hji89] at H ⊢; exact H)
                (try rw [hji89] at c81b0)
                (try rw [hji89] at c81b1)
                have hji89w : (IntKind.i64.wrap (x10_1 + 1)) = ji89 := (i64_w _).trans hji89
                by_cases c90 : 0 ≤ (ji89)
                ·rw [if_pos c90] at H
                 have c90b0 : decide (0 ≤ (ji89)) = true := decide_eq_true c90
                 clear c90
                 by_cases c91 : (ji89) < (t227.length : Int)
                 ·rw [if_pos c91] at H
                  have c91b0 : decide ((ji89) < (t227.length : Int)) = true := decide_eq_true c91
                  clear c91
                  replace H := Option.bind_eq_some_iff.mp H
                  obtain ⟨⟨t238, t239⟩, A920, H⟩ := H
                  replace H : (if t239 = 0 then (if t238 < 0 then (parquetref06_Parse.j3 kj65 l0 t227 true (ji89) t238 t239 true 0 0 false t232 x234001_1 x234002_1) else (parquetref06_Parse.j3 kj65 l0 t227 true (ji89) t238 t239 (decide (t238 > 100)) 0 0 false t232 x234001_1 x234002_1)) else (parquetref06_Parse.j3 kj65 l0 t227 true (ji89) t238 t239 false 0 0 false t232 x234001_1 x234002_1)) = some (r1, r2, r3, r4, r5) := H
                  have A92 := Aside0.mk A920
                  clear A920
                  have HC93 := Aside0.mk H
                  clear H
                  have p237 : 0 ≤ ((ji89) : Int) := of_decide_eq_true (by first | (with_reducible assumption) | assumption)
                  have q237 : (ji89) < (t227.length : Int) := of_decide_eq_true (by first | (with_reducible assumption) | assumption)
                  obtain ⟨ad237, e237, hx237_0, hx237_1⟩ := at_T60 (Kd.R_reads' HO_6.out).2.2 (ji89) p237 q237
                  obtain rfl : ad231 = ad237 := (by injection e237)
                  replace p237 := eq_true p237
                  replace q237 := eq_true q237
                  go_upto_region 23 with (first | ((with_reducible refine gate_callee (f := 27) rfl ?_); refine goesL_ (some 85) rfl rfl Try.func27 (by kernel_rfl) rfl #[.string ((rd_T60 t227 (ji89)).f1), .int .i64 9223372036854775807] rfl (by (try simp only [List.map_toArray, List.map_cons, List.map_nil]); first | done | (simp only [hji89]; rfl) | rfl | (simp only [List.length_drop, List.length_take]; rfl)) ?_; (with_reducible refine (parquetref02_Number.calls kj65 ((rd_T60 t227 (ji89)).f1) 9223372036854775807 t238 t239 _ A92.out).mono ?_); rintro e w94 ⟨rfl, hb⟩; refine ⟨_, rfl, ?_⟩; have n0_ := Aside0.mk (Kd.R_below (by (with_reducible repeat (first | apply Kd.R_alloc | apply Kd.R_drewN | apply Kd.R_drew)); exact HO_6.out) hb); have n1_ := bb BK225 hb; have n2_ := bb BK226 hb; have n3_ := bb BK233 hb; have n4_ := bb BK236 hb; have n5_ := Aside0.mk (below_step (by repeat (first | (with_reducible first | exact HB.out | apply qa | apply qn | apply qd | refine qs ?_ GE225.out | refine qs ?_ GE226.out | refine qs ?_ GE233.out | refine qs ?_ GE236.out) | exact HB.out)) hb); clear HO_6; clear BK225; clear BK226; clear BK233; clear BK236; clear HB; have HO_6 := n0_; have BK225 := n1_; have BK226 := n2_; have BK233 := n3_; have BK236 := n4_; have HB := n5_; clear n0_ n1_ n2_ n3_ n4_ n5_; (try clear hb); (try clear hb2); (try clear hk); (try clear hi)))
                  (try simp only [Act.put, List.setIfInBounds_toArray, List.set_cons_zero, List.set_cons_succ])
                  go_cut [97] (fun v97 wc => ∃ (kq : Nat) (x97_92 : Bool), v97 = .bool x97_92 ∧ Aside0 (parquetref06_Parse.j3 kq l0 t227 true (ji89) t238 t239 x97_92 0 0 false t232 x234001_1 x234002_1 = some (r1, r2, r3, r4, r5)) ∧ Aside0 (kq ≤ kj65) ∧ Aside0 (Kd.R k60 60 wc w.heap.size (fun k_ => k_ ≠ gb236) (.slice (some ad231) t227.length co36) t227) ∧ Aside0 (wc.heap[gb225]? = some (.cells #[.int .i64 x226000_1, .int .i64 x226001_1, .bool x226002_1] 25 (0, 0))) ∧ Aside0 (wc.heap[gb226]? = some (.cells #[.int .i64 0, .int .i64 0, .bool false] 25 (0, 0))) ∧ Aside0 (wc.heap[gb233]? = some (.cells #[.int .i64 t232, .int .i64 x234001_1, .bool x234002_1] 25 (0, 0))) ∧ Aside0 (wc.heap[gb236]? = some (.cells #[.int .i64 ((rd_T60 t227 x10_1).f0), .string ((rd_T60 t227 x10_1).f1)] 60 (0, 0))) ∧ Aside0 (Below w.heap.size w wc))
                  case first =>
                   have H := HC93.out
                   clear HC93
                   by_cases c95 : t239 = 0
                   ·rw [if_pos c95] at H
                    have c95b0 : (t239 == 0) = true := beq_iff_eq.mpr c95
                    have c95b1 : (t239 != 0) = false := bne_eq_false_iff_eq.mpr c95
                    clear c95
                    (first | rw [c95b0] | (simp only [i64_w, i32_w]; rw [c95b0]) | skip)
                    by_cases c96 : t238 < 0
                    ·rw [if_pos c96] at H
                     have c96b0 : decide (t238 < 0) = true := decide_eq_true c96
                     clear c96
                     have H' := Aside0.mk H
                     clear H
                     go_wp2
                     go_meet
                     case rel => exact ⟨_, (true), (by first | rfl | (simp; done) | (simp [*]; done)), H', ⟨by have := HK1.out; have := HJ42.out; have := HJ65.out; first | omega | exact Nat.le_refl _⟩, ⟨by (with_reducible repeat (first | apply Kd.R_alloc | apply Kd.R_drewN | apply Kd.R_drew)); exact HO_6.out⟩, ⟨by (with_reducible repeat (first | refine cn ?_ _ | refine cd ?_ | refine ca ?_ _)); exact BK225.out⟩, ⟨by (with_reducible repeat (first | refine cn ?_ _ | refine cd ?_ | refine ca ?_ _)); exact BK226.out⟩, ⟨by (with_reducible repeat (first | refine cn ?_ _ | refine cd ?_ | refine ca ?_ _)); exact BK233.out⟩, ⟨by (with_reducible repeat (first | refine cn ?_ _ | refine cd ?_ | refine ca ?_ _)); exact BK236.out⟩, ⟨by repeat (first | (with_reducible first | exact HB.out | apply qa | apply qn | apply qd | refine qs ?_ GE225.out | refine qs ?_ GE226.out | refine qs ?_ GE233.out | refine qs ?_ GE236.out) | exact HB.out)⟩⟩
                    ·rw [if_neg c96] at H
                     have c96b0 : decide (t238 < 0) = false := decide_eq_false c96
                     clear c96
                     have H' := Aside0.mk H
                     clear H
                     go_wp2
                     go_meet
                     case rel => exact ⟨_, (decide (t238 > 100)), (by first | rfl | (simp; done) | (simp [*]; done)), H', ⟨by have := HK1.out; have := HJ42.out; have := HJ65.out; first | omega | exact Nat.le_refl _⟩, ⟨by (with_reducible repeat (first | apply Kd.R_alloc | apply Kd.R_drewN | apply Kd.R_drew)); exact HO_6.out⟩, ⟨by (with_reducible repeat (first | refine cn ?_ _ | refine cd ?_ | refine ca ?_ _)); exact BK225.out⟩, ⟨by (with_reducible repeat (first | refine cn ?_ _ | refine cd ?_ | refine ca ?_ _)); exact BK226.out⟩, ⟨by (with_reducible repeat (first | refine cn ?_ _ | refine cd ?_ | refine ca ?_ _)); exact BK233.out⟩, ⟨by (with_reducible repeat (first | refine cn ?_ _ | refine cd ?_ | refine ca ?_ _)); exact BK236.out⟩, ⟨by repeat (first | (with_reducible first | exact HB.out | apply qa | apply qn | apply qd | refine qs ?_ GE225.out | refine qs ?_ GE226.out | refine qs ?_ GE233.out | refine qs ?_ GE236.out) | exact HB.out)⟩⟩
                   ·rw [if_neg c95] at H
                    have c95b0 : (t239 == 0) = false := beq_eq_false_iff_ne.mpr c95
                    have c95b1 : (t239 != 0) = true := bne_iff_ne.mpr c95
                    (first | rw [c95b0] | (simp only [i64_w, i32_w]; rw [c95b0]) | skip)
                    have H' := Aside0.mk H
                    clear H
                    go_wp2
                    go_meet
                    case rel => exact ⟨_, (false), (by first | rfl | (simp; done) | (simp [*]; done)), H', ⟨by have := HK1.out; have := HJ42.out; have := HJ65.out; first | omega | exact Nat.le_refl _⟩, ⟨by (with_reducible repeat (first | apply Kd.R_alloc | apply Kd.R_drewN | apply Kd.R_drew)); exact HO_6.out⟩, ⟨by (with_reducible repeat (first | refine cn ?_ _ | refine cd ?_ | refine ca ?_ _)); exact BK225.out⟩, ⟨by (with_reducible repeat (first | refine cn ?_ _ | refine cd ?_ | refine ca ?_ _)); exact BK226.out⟩, ⟨by (with_reducible repeat (first | refine cn ?_ _ | refine cd ?_ | refine ca ?_ _)); exact BK233.out⟩, ⟨by (with_reducible repeat (first | refine cn ?_ _ | refine cd ?_ | refine ca ?_ _)); exact BK236.out⟩, ⟨by repeat (first | (with_reducible first | exact HB.out | apply qa | apply qn | apply qd | refine qs ?_ GE225.out | refine qs ?_ GE226.out | refine qs ?_ GE233.out | refine qs ?_ GE236.out) | exact HB.out)⟩⟩
                  case rest =>
                   clear HC93
                   try clear c1
                   try clear c2
                   try clear p2
                   try clear q2
                   try clear hx2
                   try clear qi2
                   try clear c3
                   try clear c3b0
                   try clear c3b1
                   try clear c4
                   try clear c4b0
                   try clear c4b1
                   try clear c4b2
                   try clear c5
                   try clear c6
                   try clear p6
                   try clear c7
                   try clear c8
                   try clear c9
                   try clear c11
                   try clear c13
                   try clear c13b0
                   try clear c13b1
                   try clear c15
                   try clear c15b0
                   try clear c15b1
                   try clear c18
                   try clear c23
                   try clear p23
                   try clear q23
                   try clear hx23
                   try clear qi23
                   try clear c24
                   try clear c25
                   try clear c26
                   try clear c27
                   try clear c33
                   try clear c38
                   try clear c39
                   try clear c41
                   try clear c41b0
                   try clear c42
                   try clear c42b0
                   try clear c45
                   try clear c46
                   try clear c47
                   try clear c49
                   try clear c49b0
                   try clear c49b1
                   try clear c50
                   try clear c51
                   try clear c52
                   try clear c54
                   try clear c55
                   try clear c57
                   try clear c58
                   try clear c59
                   try clear c61
                   try clear c62
                   try clear c63
                   try clear c64
                   try clear p64
                   try clear c67
                   try clear c67b0
                   try clear c67b1
                   try clear c68
                   try clear c69
                   try clear c70
                   try clear c72
                   try clear c73
                   try clear c74
                   try clear c76
                   try clear c81
                   try clear c81b0
                   try clear c81b1
                   try clear c82
                   try clear c83
                   try clear c84
                   try clear c86
                   try clear c87
                   try clear c90
                   try clear c90b0
                   try clear c91
                   try clear c91b0
                   try clear c95
                   try clear c95b0
                   try clear c95b1
                   try clear c96
                   try clear c96b0
                   try clear hcz11_0
                   try clear hcz11_1
                   try clear hcz11_2
                   try clear hcz12_0
                   try clear hcz12_1
                   try clear hcz12_2
                   try clear hcz19_0
                   try clear hcz19_1
                   try clear hcz19_2
                   try clear hcz25_0
                   try clear hcz25_1
                   try clear hcz25_2
                   try clear hcz34_0
                   try clear hcz34_1
                   try clear hcz34_2
                   try clear hcz40_0
                   try clear hcz40_1
                   try clear hcz40_2
                   try clear hcz48_0
                   try clear hcz48_1
                   try clear hcz53_0
                   try clear hcz53_1
                   try clear hcz56_0
                   try clear hcz56_1
                   try clear hcz56_2
                   try clear hcz60_0
                   try clear hcz60_1
                   try clear hcz65_0
                   try clear hcz65_1
                   try clear hcz65_2
                   try clear hcz71_0
                   try clear hcz71_1
                   try clear hcz75_0
                   try clear hcz75_1
                   try clear hcz85_0
                   try clear hcz85_1
                   try clear hcz85_2
                   try clear hcz88_0
                   try clear hcz88_1
                   try clear hcz88_2
                   try clear hcz8_0
                   try clear hcz8_1
                   try clear hcz8_2
                   try clear hfz11_0
                   try clear hfz11_1
                   try clear hfz11_2
                   try clear hfz12_0
                   try clear hfz12_1
                   try clear hfz12_2
                   try clear hfz19_0
                   try clear hfz19_1
                   try clear hfz19_2
                   try clear hfz25_0
                   try clear hfz25_1
                   try clear hfz25_2
                   try clear hfz34_0
                   try clear hfz34_1
                   try clear hfz34_2
                   try clear hfz40_0
                   try clear hfz40_1
                   try clear hfz40_2
                   try clear hfz48_0
                   try clear hfz48_1
                   try clear hfz53_0
                   try clear hfz53_1
                   try clear hfz56_0
                   try clear hfz56_1
                   try clear hfz56_2
                   try clear hfz60_0
                   try clear hfz60_1
                   try clear hfz65_0
                   try clear hfz65_1
                   try clear hfz65_2
                   try clear hfz71_0
                   try clear hfz71_1
                   try clear hfz75_0
                   try clear hfz75_1
                   try clear hfz85_0
                   try clear hfz85_1
                   try clear hfz85_2
                   try clear hfz88_0
                   try clear hfz88_1
                   try clear hfz88_2
                   try clear hfz8_0
                   try clear hfz8_1
                   try clear hfz8_2
                   try clear hx231_0
                   try clear hx231_1
                   try clear hx234_0
                   try clear hx234_1
                   try clear hx235_0
                   try clear hx235_1
                   try clear hx237_0
                   try clear hx237_1
                   try clear p2
                   try clear p23
                   try clear p231
                   try clear p234
                   try clear p235
                   try clear p237
                   try clear p6
                   try clear p64
                   try clear q2
                   try clear q23
                   try clear q231
                   try clear q234
                   try clear q235
                   try clear q237
                   obtain ⟨kq, x97_92, rfl, HA, HJ92, HO_6, BK225, BK226, BK233, BK236, HB⟩ := hcut
                   cases kq with
                   | zero => exact absurd HA.out (by simp [parquetref06_Parse.j3])
                   | succ kj92 =>
                    have H := HA.out
                    clear HA
                    simp only [parquetref06_Parse.j3] at H
                    by_cases c97 : x97_92 = true
                    ·subst c97
                     have H1 : (if 0 ≤ (ji89) then (if (ji89) < (t227.length : Int) then (some (0, 0, false, (rd_T60 t227 (ji89)).f0, 10)) else (none)) else (none)) = some (r1, r2, r3, r4, r5) := by rw [if_pos rfl] at H; exact H
                     clear H
                     have H := H1
                     clear H1
                     by_cases c98 : 0 ≤ (ji89)
                     ·rw [if_pos c98] at H
                      have c98b0 : decide (0 ≤ (ji89)) = true := decide_eq_true c98
                      clear c98
                      by_cases c99 : (ji89) < (t227.length : Int)
                      ·rw [if_pos c99] at H
                       have c99b0 : decide ((ji89) < (t227.length : Int)) = true := decide_eq_true c99
                       clear c99
                       simp only [Option.some.injEq, Prod.mk.injEq] at H
                       obtain ⟨rfl, rfl, rfl, rfl, rfl⟩ := H
                       try go_wp2
                       have n0_ := Aside0.mk (Kd.R_drew HO_6.out)
                       have n1_ := Aside0.mk (blk_drew BK225.out)
                       have n2_ := Aside0.mk (blk_drew BK226.out)
                       have n3_ := Aside0.mk (blk_drew BK233.out)
                       have n4_ := Aside0.mk (blk_drew BK236.out)
                       have n5_ := Aside0.mk (below_drew1 HB.out)
                       clear HO_6
                       clear BK225
                       clear BK226
                       clear BK233
                       clear BK236
                       clear HB
                       have HO_6 := n0_
                       have BK225 := n1_
                       have BK226 := n2_
                       have BK233 := n3_
                       have BK236 := n4_
                       have HB := n5_
                       clear n0_ n1_ n2_ n3_ n4_ n5_
                       have p240 : 0 ≤ ((ji89) : Int) := of_decide_eq_true (by first | (with_reducible assumption) | assumption)
                       have q240 : (ji89) < (t227.length : Int) := of_decide_eq_true (by first | (with_reducible assumption) | assumption)
                       obtain ⟨ad240, e240, hx240_0, hx240_1⟩ := at_T60 (Kd.R_reads' HO_6.out).2.2 (ji89) p240 q240
                       obtain rfl : ad231 = ad240 := (by injection e240)
                       replace p240 := eq_true p240
                       replace q240 := eq_true q240
                       refine start_ (n := 10) (S := fun w' => w'.cell? ⟨gb226, 0, none⟩ = some (.int .i64 0) ∧ w'.cell? ⟨gb226, 1, none⟩ = some (.int .i64 0) ∧ w'.cell? ⟨gb226, 2, none⟩ = some (.bool false) ∧ w'.cell? (ad231.add (((ji89)).toNat * 2)) = some (.int .i64 ((rd_T60 t227 (ji89)).f0)) ∧ w'.cell? ⟨(ad231.add (((ji89)).toNat * 2)).block, (ad231.add (((ji89)).toNat * 2)).off + 1, none⟩ = some (.string ((rd_T60 t227 (ji89)).f1))) (ds := []) #[Ff, Ff, Ff, Ff, Ff, Ff, Ff, Ff, Ff, Ff] (by kernel_rfl) rfl rfl ⟨(blk_cell BK226.out 0).trans rfl, (blk_cell BK226.out 1).trans rfl, (blk_cell BK226.out 2).trans rfl, hx240_0, hx240_1⟩ (fun hHeld => ?_); refine with_tabW parquetref06_Parse.tab26 parquetref06_Parse.bits26 (fun HT_ HW_ => ?_)
                       generalize wc.drew = w100 at HO_6 BK225 BK226 BK233 BK236 HB hx240_0 hx240_1 hHeld ⊢
                       refine pure_ (i := 1) (N := some 101) (v := ?_) (a' := ?_) #[Ff, Tt, Ff, Ff, Ff, Ff, Ff, Ff, Ff, Ff] rfl rfl (any_of HT_.out (by kernel_rfl)) (fun _ _ _ h => h) (Or.inl ⟨by rfl, ?_⟩) ?_ ?_
                       rotate_left
                       ·intro w'
                        go_simp
                        with_reducible rfl
                       rotate_left
                       ·simp only [Act.put, List.setIfInBounds_toArray, List.set_cons_zero, List.set_cons_succ, i64_w, i32_w]
                        rfl
                       refine pure_ (i := 2) (N := some 102) (v := ?_) (a' := ?_) #[Ff, Tt, Tt, Ff, Ff, Ff, Ff, Ff, Ff, Ff] rfl rfl (any_of HT_.out (by kernel_rfl)) (fun _ _ _ h => h) (Or.inl ⟨by rfl, ?_⟩) ?_ ?_
                       rotate_left
                       ·intro w'
                        go_simp
                        with_reducible rfl
                       rotate_left
                       ·simp only [Act.put, List.setIfInBounds_toArray, List.set_cons_zero, List.set_cons_succ, i64_w, i32_w]
                        rfl
                       refine pure_ (i := 3) (N := some 103) (v := ?_) (a' := ?_) #[Ff, Tt, Tt, Tt, Ff, Ff, Ff, Ff, Ff, Ff] rfl rfl (any_of HT_.out (by kernel_rfl)) (fun _ _ _ h => h) (Or.inl ⟨by rfl, ?_⟩) ?_ ?_
                       rotate_left
                       ·intro w'
                        go_simp
                        with_reducible rfl
                       rotate_left
                       ·simp only [Act.put, List.setIfInBounds_toArray, List.set_cons_zero, List.set_cons_succ, i64_w, i32_w]
                        rfl
                       refine pure_ (i := 4) (N := some 104) (v := ?_) (a' := ?_) #[Ff, Tt, Tt, Tt, Tt, Ff, Ff, Ff, Ff, Ff] rfl rfl (any_of HT_.out (by kernel_rfl)) (fun _ _ _ h => h) (Or.inl ⟨by rfl, ?_⟩) ?_ ?_
                       rotate_left
                       ·intro w'
                        go_simp
                        with_reducible rfl
                       rotate_left
                       ·simp only [Act.put, List.setIfInBounds_toArray, List.set_cons_zero, List.set_cons_succ, i64_w, i32_w]
                        rfl
                       refine pure_ (i := 6) (N := some 106) (v := ?_) (a' := ?_) #[Ff, Tt, Tt, Tt, Tt, Ff, Tt, Ff, Ff, Ff] rfl rfl (any_of HT_.out (by kernel_rfl)) (fun _ _ _ h => h) (Or.inl ⟨by rfl, ?_⟩) ?_ ?_
                       rotate_left
                       ·intro w'
                        go_simp
                        with_reducible rfl
                       rotate_left
                       ·simp only [Act.put, List.setIfInBounds_toArray, List.set_cons_zero, List.set_cons_succ, i64_w, i32_w]
                        rfl
                       refine take_ (i := 0) (N := some 100) (v := ?_) (a' := ?_) #[Tt, Tt, Tt, Tt, Tt, Ff, Tt, Ff, Ff, Ff] rfl rfl (take_ofW HT_.out HW_.out (by kernel_rfl)) (fun _ _ _ h => h) (Or.inl ⟨by rfl, ?_⟩) hHeld ?_ ?_
                       rotate_left
                       ·rintro w' ⟨s0, s1, s2, s3, s4⟩
                        go_simp
                        with_reducible rfl
                       rotate_left
                       ·simp only [Act.put, List.setIfInBounds_toArray, List.set_cons_zero, List.set_cons_succ, i64_w, i32_w]
                        rfl
                       refine take_ (i := 5) (N := some 105) (v := ?_) (a' := ?_) #[Tt, Tt, Tt, Tt, Tt, Tt, Tt, Ff, Ff, Ff] rfl rfl (take_ofW HT_.out HW_.out (by kernel_rfl)) (fun _ _ _ h => h) (Or.inl ⟨by rfl, ?_⟩) hHeld ?_ ?_
                       rotate_left
                       ·rintro w' ⟨s0, s1, s2, s3, s4⟩
                        go_simp
                        with_reducible rfl
                       rotate_left
                       ·simp only [Act.put, List.setIfInBounds_toArray, List.set_cons_zero, List.set_cons_succ, i64_w, i32_w]
                        rfl
                       refine one_ (i := 7) (N := none) #[Tt, Tt, Tt, Tt, Tt, Tt, Tt, Tt, Ff, Ff] rfl rfl (one_of HT_.out (by kernel_rfl)) (by decide) (fun K hK => ?_)
                       have hs101 : w100.cell? ⟨gb225, 0, none⟩ = some (.int .i64 x226000_1) := (blk_cell BK225.out 0).trans rfl
                       have hfs101 := blk_frozen BK225.out 0
                       have hns101_1 := NB226_225.out
                       have hns101_2 := NB233_225.out
                       have hns101_3 := NB236_225.out
                       have hms101_1 := NB225_226.out
                       have hms101_2 := NB225_233.out
                       have hms101_3 := NB225_236.out
                       have hs102 : w100.cell? ⟨gb225, 1, none⟩ = some (.int .i64 x226001_1) := (blk_cell BK225.out 1).trans rfl
                       have hfs102 := blk_frozen BK225.out 1
                       have hns102_1 := NB226_225.out
                       have hns102_2 := NB233_225.out
                       have hns102_3 := NB236_225.out
                       have hms102_1 := NB225_226.out
                       have hms102_2 := NB225_233.out
                       have hms102_3 := NB225_236.out
                       have hs103 : w100.cell? ⟨gb225, 2, none⟩ = some (.bool x226002_1) := (blk_cell BK225.out 2).trans rfl
                       have hfs103 := blk_frozen BK225.out 2
                       have hns103_1 := NB226_225.out
                       have hns103_2 := NB233_225.out
                       have hns103_3 := NB236_225.out
                       have hms103_1 := NB225_226.out
                       have hms103_2 := NB225_233.out
                       have hms103_3 := NB225_236.out
                       refine skip_ (w1 := ?_) (by rfl) rfl ?_ ?_
                       rotate_left
                       ·go_simp
                        rfl
                       refine hK.out _ _ ⟨((cell_far (p := ⟨gb225, _, none⟩) NB226_225.out _).trans (((cell_far (p := ⟨gb225, _, none⟩) NB226_225.out _).trans (((cell_far (p := ⟨gb225, _, none⟩) NB226_225.out _).trans (hHeld.1)))))), ((cell_far (p := ⟨gb225, _, none⟩) NB226_225.out _).trans (((cell_far (p := ⟨gb225, _, none⟩) NB226_225.out _).trans (((cell_far (p := ⟨gb225, _, none⟩) NB226_225.out _).trans (hHeld.2.1)))))), ((cell_far (p := ⟨gb225, _, none⟩) NB226_225.out _).trans (((cell_far (p := ⟨gb225, _, none⟩) NB226_225.out _).trans (((cell_far (p := ⟨gb225, _, none⟩) NB226_225.out _).trans (hHeld.2.2.1)))))), ((cell_far (p := ⟨gb225, _, none⟩) (by first | exact Kd.own_blk (Kd.R_ne HO_6.out BK225.out (by decide)) | (rw [add_block]; exact Kd.own_blk (Kd.R_ne HO_6.out BK225.out (by decide))) | (show (Addr.add _ _).block ≠ _; rw [add_block]; exact Kd.own_blk (Kd.R_ne HO_6.out BK225.out (by decide))) | (dsimp only; exact Kd.own_blk (Kd.R_ne HO_6.out BK225.out (by decide)))) _).trans (((cell_far (p := ⟨gb225, _, none⟩) (by first | exact Kd.own_blk (Kd.R_ne HO_6.out BK225.out (by decide)) | (rw [add_block]; exact Kd.own_blk (Kd.R_ne HO_6.out BK225.out (by decide))) | (show (Addr.add _ _).block ≠ _; rw [add_block]; exact Kd.own_blk (Kd.R_ne HO_6.out BK225.out (by decide))) | (dsimp only; exact Kd.own_blk (Kd.R_ne HO_6.out BK225.out (by decide)))) _).trans (((cell_far (p := ⟨gb225, _, none⟩) (by first | exact Kd.own_blk (Kd.R_ne HO_6.out BK225.out (by decide)) | (rw [add_block]; exact Kd.own_blk (Kd.R_ne HO_6.out BK225.out (by decide))) | (show (Addr.add _ _).block ≠ _; rw [add_block]; exact Kd.own_blk (Kd.R_ne HO_6.out BK225.out (by decide))) | (dsimp only; exact Kd.own_blk (Kd.R_ne HO_6.out BK225.out (by decide)))) _).trans (hHeld.2.2.2.1)))))), ((cell_far (p := ⟨gb225, _, none⟩) (by first | exact Kd.own_blk (Kd.R_ne HO_6.out BK225.out (by decide)) | (rw [add_block]; exact Kd.own_blk (Kd.R_ne HO_6.out BK225.out (by decide))) | (show (Addr.add _ _).block ≠ _; rw [add_block]; exact Kd.own_blk (Kd.R_ne HO_6.out BK225.out (by decide))) | (dsimp only; exact Kd.own_blk (Kd.R_ne HO_6.out BK225.out (by decide)))) _).trans (((cell_far (p := ⟨gb225, _, none⟩) (by first | exact Kd.own_blk (Kd.R_ne HO_6.out BK225.out (by decide)) | (rw [add_block]; exact Kd.own_blk (Kd.R_ne HO_6.out BK225.out (by decide))) | (show (Addr.add _ _).block ≠ _; rw [add_block]; exact Kd.own_blk (Kd.R_ne HO_6.out BK225.out (by decide))) | (dsimp only; exact Kd.own_blk (Kd.R_ne HO_6.out BK225.out (by decide)))) _).trans (((cell_far (p := ⟨gb225, _, none⟩) (by first | exact Kd.own_blk (Kd.R_ne HO_6.out BK225.out (by decide)) | (rw [add_block]; exact Kd.own_blk (Kd.R_ne HO_6.out BK225.out (by decide))) | (show (Addr.add _ _).block ≠ _; rw [add_block]; exact Kd.own_blk (Kd.R_ne HO_6.out BK225.out (by decide))) | (dsimp only; exact Kd.own_blk (Kd.R_ne HO_6.out BK225.out (by decide)))) _).trans (hHeld.2.2.2.2))))))⟩ (fun hHeld => ?_)
                       clear hK K
                       refine pure_ (i := 8) (N := some 3) (v := ?_) (a' := ?_) #[Tt, Tt, Tt, Tt, Tt, Tt, Tt, Tt, Tt, Ff] rfl rfl (any_of HT_.out (by kernel_rfl)) (fun _ _ _ h => h) (Or.inl ⟨by rfl, ?_⟩) ?_ ?_
                       rotate_left
                       ·intro w'
                        go_simp
                        with_reducible rfl
                       rotate_left
                       ·simp only [Act.put, List.setIfInBounds_toArray, List.set_cons_zero, List.set_cons_succ, i64_w, i32_w]
                        rfl
                       refine pure_ (i := 9) (N := some 4) (v := ?_) (a' := ?_) #[Tt, Tt, Tt, Tt, Tt, Tt, Tt, Tt, Tt, Tt] rfl rfl (any_of HT_.out (by kernel_rfl)) (fun _ _ _ h => h) (Or.inl ⟨by rfl, ?_⟩) ?_ ?_
                       rotate_left
                       ·intro w'
                        go_simp
                        with_reducible rfl
                       rotate_left
                       ·simp only [Act.put, List.setIfInBounds_toArray, List.set_cons_zero, List.set_cons_succ, i64_w, i32_w]
                        rfl
                       refine done_ (done_of HT_.out (by kernel_rfl)) ?_
                       try go_wp2
                       refine bodyPost_ret (results_ctt rfl _ _ gb225 25 #[.int .i64 0, .int .i64 0, .bool false] (0, 0) _ rfl (by (with_reducible repeat (first | refine cn ?_ _ | refine cd ?_ | refine ca ?_ _)); refine blk_put (cs := #[.int .i64 0, .int .i64 0, .bool x226002_1]) ?_ 2 _ rfl; (with_reducible repeat (first | refine cn ?_ _ | refine cd ?_ | refine ca ?_ _)); refine blk_put (cs := #[.int .i64 0, .int .i64 x226001_1, .bool x226002_1]) ?_ 1 _ rfl; (with_reducible repeat (first | refine cn ?_ _ | refine cd ?_ | refine ca ?_ _)); refine blk_put (cs := #[.int .i64 x226000_1, .int .i64 x226001_1, .bool x226002_1]) ?_ 0 _ rfl; (with_reducible repeat (first | refine cn ?_ _ | refine cd ?_ | refine ca ?_ _)); exact BK225.out) Try.underlying25 rfl (by kernel_rfl)) rfl ?_
                       exact ⟨by first | rfl | (simp [errW_none, errW_some] <;> rfl) | (simp only [← hji89]; first | rfl | (simp [errW_none, errW_some] <;> rfl)) | (simp [*, errW_none, errW_some] <;> rfl), by repeat (first | (with_reducible first | exact HB.out | apply qa | apply qn | apply qd | refine qs ?_ GE225.out | refine qs ?_ GE226.out | refine qs ?_ GE233.out | refine qs ?_ GE236.out) | exact HB.out)⟩
                      ·rw [if_neg c99] at H
                       exact absurd H (by simp)
                     ·rw [if_neg c98] at H
                      exact absurd H (by simp)
                    ·replace c97 := Bool.eq_false_iff.mpr c97
                     subst c97
                     have H1 : (if t239 = 0 then (parquetref06_Parse.l0 kj92 l0 t227 true (wrap64 ((ji89) + 1)) 0 0 false t232 t238 x234002_1) else (if 0 ≤ (ji89) then (if (ji89) < (t227.length : Int) then (some (0, 0, false, (rd_T60 t227 (ji89)).f0, t239)) else (none)) else (none))) = some (r1, r2, r3, r4, r5) := by rw [if_neg (show ¬ (false = true) by decide)] at H; exact H
                     clear H
                     have H := H1
                     clear H1
                     by_cases c104 : t239 = 0
                     ·rw [if_pos c104] at H
                      have c104b0 : (t239 == 0) = true := beq_iff_eq.mpr c104
                      have c104b1 : (t239 != 0) = false := bne_eq_false_iff_eq.mpr c104
                      clear c104
                      have H' := Aside0.mk H
                      clear H
                      have hnb105 := NB233_225.out
                      have hnc105 := NB225_233.out
                      have hnb106 := NB233_226.out
                      have hnc106 := NB226_233.out
                      have hnb107 := NB233_236.out
                      have hnc107 := NB236_233.out
                      have hcz108_0 : wc.cell? ⟨gb233, 0, none⟩ = some (.int .i64 t232) := (blk_cell BK233.out 0).trans rfl
                      have hcz108_1 : wc.cell? ⟨gb233, 1, none⟩ = some (.int .i64 x234001_1) := (blk_cell BK233.out 1).trans rfl
                      have hcz108_2 : wc.cell? ⟨gb233, 2, none⟩ = some (.bool x234002_1) := (blk_cell BK233.out 2).trans rfl
                      have hfz108_0 := blk_frozen BK233.out 0
                      have hfz108_1 := blk_frozen BK233.out 1
                      have hfz108_2 := blk_frozen BK233.out 2
                      go_wp2
                      go_roundg kj92
                      case measure => have := HK1.out; have := HJ42.out; have := HJ65.out; have := HJ92.out; omega
                      case rel => exact ⟨(true), (wrap64 ((ji89) + 1)), (x226000_1), (x226001_1), (x226002_1), (t238), (x234002_1), (by first | rfl | (simp; done) | (simp [*]; done)), (by first | rfl | (simp; done) | (simp only [← hji89] <;> (first | rfl | simp)) | (simp [*]; done)), H', ⟨by have := HK1.out; have := HJ42.out; have := HJ65.out; have := HJ92.out; omega⟩, ⟨by (with_reducible repeat (first | apply Kd.R_alloc | apply Kd.R_drewN | apply Kd.R_drew)); exact Kd.R_mono (Kd.R_far (p := ⟨gb233, 1, none⟩) (Kd.R_types HO_6.out BK233.out (by decide)) (fun _ hk => hk.2) (.int .i64 t238)) (fun _ hk => trivial)⟩, ⟨by repeat (with_reducible first | exact lb BK225.out | refine blk_far ?_ NB225_233.out _ | refine cn ?_ _ | refine cd ?_ | refine ca ?_ _)⟩, ⟨by repeat (with_reducible first | exact lb BK226.out | refine blk_far ?_ NB226_233.out _ | refine cn ?_ _ | refine cd ?_ | refine ca ?_ _)⟩, ⟨by (with_reducible repeat (first | refine cn ?_ _ | refine cd ?_ | refine ca ?_ _)); refine blk_put (cs := #[.int .i64 t232, .int .i64 x234001_1, .bool x234002_1]) ?_ 1 _ rfl; (with_reducible repeat (first | refine cn ?_ _ | refine cd ?_ | refine ca ?_ _)); exact BK233.out⟩, ⟨by repeat (first | (with_reducible first | exact HB.out | apply qa | apply qn | apply qd | refine qs ?_ GE225.out | refine qs ?_ GE226.out | refine qs ?_ GE233.out | refine qs ?_ GE236.out) | exact HB.out)⟩⟩
                     ·rw [if_neg c104] at H
                      have c104b0 : (t239 == 0) = false := beq_eq_false_iff_ne.mpr c104
                      have c104b1 : (t239 != 0) = true := bne_iff_ne.mpr c104
                      by_cases c109 : 0 ≤ (ji89)
                      ·rw [if_pos c109] at H
                       have c109b0 : decide (0 ≤ (ji89)) = true := decide_eq_true c109
                       clear c109
                       by_cases c110 : (ji89) < (t227.length : Int)
                       ·rw [if_pos c110] at H
                        have c110b0 : decide ((ji89) < (t227.length : Int)) = true := decide_eq_true c110
                        clear c110
                        simp only [Option.some.injEq, Prod.mk.injEq] at H
                        obtain ⟨rfl, rfl, rfl, rfl, rfl⟩ := H
                        try go_wp2
                        have n0_ := Aside0.mk (Kd.R_drew HO_6.out)
                        have n1_ := Aside0.mk (blk_drew BK225.out)
                        have n2_ := Aside0.mk (blk_drew BK226.out)
                        have n3_ := Aside0.mk (blk_drew BK233.out)
                        have n4_ := Aside0.mk (blk_drew BK236.out)
                        have n5_ := Aside0.mk (below_drew1 HB.out)
                        clear HO_6
                        clear BK225
                        clear BK226
                        clear BK233
                        clear BK236
                        clear HB
                        have HO_6 := n0_
                        have BK225 := n1_
                        have BK226 := n2_
                        have BK233 := n3_
                        have BK236 := n4_
                        have HB := n5_
                        clear n0_ n1_ n2_ n3_ n4_ n5_
                        have p241 : 0 ≤ ((ji89) : Int) := of_decide_eq_true (by first | (with_reducible assumption) | assumption)
                        have q241 : (ji89) < (t227.length : Int) := of_decide_eq_true (by first | (with_reducible assumption) | assumption)
                        obtain ⟨ad241, e241, hx241_0, hx241_1⟩ := at_T60 (Kd.R_reads' HO_6.out).2.2 (ji89) p241 q241
                        obtain rfl : ad231 = ad241 := (by injection e241)
                        replace p241 := eq_true p241
                        replace q241 := eq_true q241
                        refine start_ (n := 10) (S := fun w' => w'.cell? ⟨gb226, 0, none⟩ = some (.int .i64 0) ∧ w'.cell? ⟨gb226, 1, none⟩ = some (.int .i64 0) ∧ w'.cell? ⟨gb226, 2, none⟩ = some (.bool false) ∧ w'.cell? (ad231.add (((ji89)).toNat * 2)) = some (.int .i64 ((rd_T60 t227 (ji89)).f0)) ∧ w'.cell? ⟨(ad231.add (((ji89)).toNat * 2)).block, (ad231.add (((ji89)).toNat * 2)).off + 1, none⟩ = some (.string ((rd_T60 t227 (ji89)).f1))) (ds := []) #[Ff, Ff, Ff, Ff, Ff, Ff, Ff, Ff, Ff, Ff] (by kernel_rfl) rfl rfl ⟨(blk_cell BK226.out 0).trans rfl, (blk_cell BK226.out 1).trans rfl, (blk_cell BK226.out 2).trans rfl, hx241_0, hx241_1⟩ (fun hHeld => ?_); refine with_tabW parquetref06_Parse.tab26 parquetref06_Parse.bits26 (fun HT_ HW_ => ?_)
                        generalize wc.drew = w111 at HO_6 BK225 BK226 BK233 BK236 HB hx241_0 hx241_1 hHeld ⊢
                        refine pure_ (i := 1) (N := some 101) (v := ?_) (a' := ?_) #[Ff, Tt, Ff, Ff, Ff, Ff, Ff, Ff, Ff, Ff] rfl rfl (any_of HT_.out (by kernel_rfl)) (fun _ _ _ h => h) (Or.inl ⟨by rfl, ?_⟩) ?_ ?_
                        rotate_left
                        ·intro w'
                         go_simp
                         with_reducible rfl
                        rotate_left
                        ·simp only [Act.put, List.setIfInBounds_toArray, List.set_cons_zero, List.set_cons_succ, i64_w, i32_w]
                         rfl
                        refine pure_ (i := 2) (N := some 102) (v := ?_) (a' := ?_) #[Ff, Tt, Tt, Ff, Ff, Ff, Ff, Ff, Ff, Ff] rfl rfl (any_of HT_.out (by kernel_rfl)) (fun _ _ _ h => h) (Or.inl ⟨by rfl, ?_⟩) ?_ ?_
                        rotate_left
                        ·intro w'
                         go_simp
                         with_reducible rfl
                        rotate_left
                        ·simp only [Act.put, List.setIfInBounds_toArray, List.set_cons_zero, List.set_cons_succ, i64_w, i32_w]
                         rfl
                        refine pure_ (i := 3) (N := some 103) (v := ?_) (a' := ?_) #[Ff, Tt, Tt, Tt, Ff, Ff, Ff, Ff, Ff, Ff] rfl rfl (any_of HT_.out (by kernel_rfl)) (fun _ _ _ h => h) (Or.inl ⟨by rfl, ?_⟩) ?_ ?_
                        rotate_left
                        ·intro w'
                         go_simp
                         with_reducible rfl
                        rotate_left
                        ·simp only [Act.put, List.setIfInBounds_toArray, List.set_cons_zero, List.set_cons_succ, i64_w, i32_w]
                         rfl
                        refine pure_ (i := 4) (N := some 104) (v := ?_) (a' := ?_) #[Ff, Tt, Tt, Tt, Tt, Ff, Ff, Ff, Ff, Ff] rfl rfl (any_of HT_.out (by kernel_rfl)) (fun _ _ _ h => h) (Or.inl ⟨by rfl, ?_⟩) ?_ ?_
                        rotate_left
                        ·intro w'
                         go_simp
                         with_reducible rfl
                        rotate_left
                        ·simp only [Act.put, List.setIfInBounds_toArray, List.set_cons_zero, List.set_cons_succ, i64_w, i32_w]
                         rfl
                        refine pure_ (i := 6) (N := some 106) (v := ?_) (a' := ?_) #[Ff, Tt, Tt, Tt, Tt, Ff, Tt, Ff, Ff, Ff] rfl rfl (any_of HT_.out (by kernel_rfl)) (fun _ _ _ h => h) (Or.inl ⟨by rfl, ?_⟩) ?_ ?_
                        rotate_left
                        ·intro w'
                         go_simp
                         with_reducible rfl
                        rotate_left
                        ·simp only [Act.put, List.setIfInBounds_toArray, List.set_cons_zero, List.set_cons_succ, i64_w, i32_w]
                         rfl
                        refine take_ (i := 0) (N := some 100) (v := ?_) (a' := ?_) #[Tt, Tt, Tt, Tt, Tt, Ff, Tt, Ff, Ff, Ff] rfl rfl (take_ofW HT_.out HW_.out (by kernel_rfl)) (fun _ _ _ h => h) (Or.inl ⟨by rfl, ?_⟩) hHeld ?_ ?_
                        rotate_left
                        ·rintro w' ⟨s0, s1, s2, s3, s4⟩
                         go_simp
                         with_reducible rfl
                        rotate_left
                        ·simp only [Act.put, List.setIfInBounds_toArray, List.set_cons_zero, List.set_cons_succ, i64_w, i32_w]
                         rfl
                        refine take_ (i := 5) (N := some 105) (v := ?_) (a' := ?_) #[Tt, Tt, Tt, Tt, Tt, Tt, Tt, Ff, Ff, Ff] rfl rfl (take_ofW HT_.out HW_.out (by kernel_rfl)) (fun _ _ _ h => h) (Or.inl ⟨by rfl, ?_⟩) hHeld ?_ ?_
                        rotate_left
                        ·rintro w' ⟨s0, s1, s2, s3, s4⟩
                         go_simp
                         with_reducible rfl
                        rotate_left
                        ·simp only [Act.put, List.setIfInBounds_toArray, List.set_cons_zero, List.set_cons_succ, i64_w, i32_w]
                         rfl
                        refine one_ (i := 7) (N := none) #[Tt, Tt, Tt, Tt, Tt, Tt, Tt, Tt, Ff, Ff] rfl rfl (one_of HT_.out (by kernel_rfl)) (by decide) (fun K hK => ?_)
                        have hs112 : w111.cell? ⟨gb225, 0, none⟩ = some (.int .i64 x226000_1) := (blk_cell BK225.out 0).trans rfl
                        have hfs112 := blk_frozen BK225.out 0
                        have hns112_1 := NB226_225.out
                        have hns112_2 := NB233_225.out
                        have hns112_3 := NB236_225.out
                        have hms112_1 := NB225_226.out
                        have hms112_2 := NB225_233.out
                        have hms112_3 := NB225_236.out
                        have hs113 : w111.cell? ⟨gb225, 1, none⟩ = some (.int .i64 x226001_1) := (blk_cell BK225.out 1).trans rfl
                        have hfs113 := blk_frozen BK225.out 1
                        have hns113_1 := NB226_225.out
                        have hns113_2 := NB233_225.out
                        have hns113_3 := NB236_225.out
                        have hms113_1 := NB225_226.out
                        have hms113_2 := NB225_233.out
                        have hms113_3 := NB225_236.out
                        have hs114 : w111.cell? ⟨gb225, 2, none⟩ = some (.bool x226002_1) := (blk_cell BK225.out 2).trans rfl
                        have hfs114 := blk_frozen BK225.out 2
                        have hns114_1 := NB226_225.out
                        have hns114_2 := NB233_225.out
                        have hns114_3 := NB236_225.out
                        have hms114_1 := NB225_226.out
                        have hms114_2 := NB225_233.out
                        have hms114_3 := NB225_236.out
                        refine skip_ (w1 := ?_) (by rfl) rfl ?_ ?_
                        rotate_left
                        ·go_simp
                         rfl
                        refine hK.out _ _ ⟨((cell_far (p := ⟨gb225, _, none⟩) NB226_225.out _).trans (((cell_far (p := ⟨gb225, _, none⟩) NB226_225.out _).trans (((cell_far (p := ⟨gb225, _, none⟩) NB226_225.out _).trans (hHeld.1)))))), ((cell_far (p := ⟨gb225, _, none⟩) NB226_225.out _).trans (((cell_far (p := ⟨gb225, _, none⟩) NB226_225.out _).trans (((cell_far (p := ⟨gb225, _, none⟩) NB226_225.out _).trans (hHeld.2.1)))))), ((cell_far (p := ⟨gb225, _, none⟩) NB226_225.out _).trans (((cell_far (p := ⟨gb225, _, none⟩) NB226_225.out _).trans (((cell_far (p := ⟨gb225, _, none⟩) NB226_225.out _).trans (hHeld.2.2.1)))))), ((cell_far (p := ⟨gb225, _, none⟩) (by first | exact Kd.own_blk (Kd.R_ne HO_6.out BK225.out (by decide)) | (rw [add_block]; exact Kd.own_blk (Kd.R_ne HO_6.out BK225.out (by decide))) | (show (Addr.add _ _).block ≠ _; rw [add_block]; exact Kd.own_blk (Kd.R_ne HO_6.out BK225.out (by decide))) | (dsimp only; exact Kd.own_blk (Kd.R_ne HO_6.out BK225.out (by decide)))) _).trans (((cell_far (p := ⟨gb225, _, none⟩) (by first | exact Kd.own_blk (Kd.R_ne HO_6.out BK225.out (by decide)) | (rw [add_block]; exact Kd.own_blk (Kd.R_ne HO_6.out BK225.out (by decide))) | (show (Addr.add _ _).block ≠ _; rw [add_block]; exact Kd.own_blk (Kd.R_ne HO_6.out BK225.out (by decide))) | (dsimp only; exact Kd.own_blk (Kd.R_ne HO_6.out BK225.out (by decide)))) _).trans (((cell_far (p := ⟨gb225, _, none⟩) (by first | exact Kd.own_blk (Kd.R_ne HO_6.out BK225.out (by decide)) | (rw [add_block]; exact Kd.own_blk (Kd.R_ne HO_6.out BK225.out (by decide))) | (show (Addr.add _ _).block ≠ _; rw [add_block]; exact Kd.own_blk (Kd.R_ne HO_6.out BK225.out (by decide))) | (dsimp only; exact Kd.own_blk (Kd.R_ne HO_6.out BK225.out (by decide)))) _).trans (hHeld.2.2.2.1)))))), ((cell_far (p := ⟨gb225, _, none⟩) (by first | exact Kd.own_blk (Kd.R_ne HO_6.out BK225.out (by decide)) | (rw [add_block]; exact Kd.own_blk (Kd.R_ne HO_6.out BK225.out (by decide))) | (show (Addr.add _ _).block ≠ _; rw [add_block]; exact Kd.own_blk (Kd.R_ne HO_6.out BK225.out (by decide))) | (dsimp only; exact Kd.own_blk (Kd.R_ne HO_6.out BK225.out (by decide)))) _).trans (((cell_far (p := ⟨gb225, _, none⟩) (by first | exact Kd.own_blk (Kd.R_ne HO_6.out BK225.out (by decide)) | (rw [add_block]; exact Kd.own_blk (Kd.R_ne HO_6.out BK225.out (by decide))) | (show (Addr.add _ _).block ≠ _; rw [add_block]; exact Kd.own_blk (Kd.R_ne HO_6.out BK225.out (by decide))) | (dsimp only; exact Kd.own_blk (Kd.R_ne HO_6.out BK225.out (by decide)))) _).trans (((cell_far (p := ⟨gb225, _, none⟩) (by first | exact Kd.own_blk (Kd.R_ne HO_6.out BK225.out (by decide)) | (rw [add_block]; exact Kd.own_blk (Kd.R_ne HO_6.out BK225.out (by decide))) | (show (Addr.add _ _).block ≠ _; rw [add_block]; exact Kd.own_blk (Kd.R_ne HO_6.out BK225.out (by decide))) | (dsimp only; exact Kd.own_blk (Kd.R_ne HO_6.out BK225.out (by decide)))) _).trans (hHeld.2.2.2.2))))))⟩ (fun hHeld => ?_)
                        clear hK K
                        refine pure_ (i := 8) (N := some 3) (v := ?_) (a' := ?_) #[Tt, Tt, Tt, Tt, Tt, Tt, Tt, Tt, Tt, Ff] rfl rfl (any_of HT_.out (by kernel_rfl)) (fun _ _ _ h => h) (Or.inl ⟨by rfl, ?_⟩) ?_ ?_
                        rotate_left
                        ·intro w'
                         go_simp
                         with_reducible rfl
                        rotate_left
                        ·simp only [Act.put, List.setIfInBounds_toArray, List.set_cons_zero, List.set_cons_succ, i64_w, i32_w]
                         rfl
                        refine pure_ (i := 9) (N := some 4) (v := ?_) (a' := ?_) #[Tt, Tt, Tt, Tt, Tt, Tt, Tt, Tt, Tt, Tt] rfl rfl (any_of HT_.out (by kernel_rfl)) (fun _ _ _ h => h) (Or.inl ⟨by rfl, ?_⟩) ?_ ?_
                        rotate_left
                        ·intro w'
                         go_simp
                         with_reducible rfl
                        rotate_left
                        ·simp only [Act.put, List.setIfInBounds_toArray, List.set_cons_zero, List.set_cons_succ, i64_w, i32_w]
                         rfl
                        refine done_ (done_of HT_.out (by kernel_rfl)) ?_
                        try go_wp2
                        refine bodyPost_ret (results_ctt rfl _ _ gb225 25 #[.int .i64 0, .int .i64 0, .bool false] (0, 0) _ rfl (by (with_reducible repeat (first | refine cn ?_ _ | refine cd ?_ | refine ca ?_ _)); refine blk_put (cs := #[.int .i64 0, .int .i64 0, .bool x226002_1]) ?_ 2 _ rfl; (with_reducible repeat (first | refine cn ?_ _ | refine cd ?_ | refine ca ?_ _)); refine blk_put (cs := #[.int .i64 0, .int .i64 x226001_1, .bool x226002_1]) ?_ 1 _ rfl; (with_reducible repeat (first | refine cn ?_ _ | refine cd ?_ | refine ca ?_ _)); refine blk_put (cs := #[.int .i64 x226000_1, .int .i64 x226001_1, .bool x226002_1]) ?_ 0 _ rfl; (with_reducible repeat (first | refine cn ?_ _ | refine cd ?_ | refine ca ?_ _)); exact BK225.out) Try.underlying25 rfl (by kernel_rfl)) rfl ?_
                        exact ⟨by first | rfl | (simp [errW_none, errW_some] <;> rfl) | (simp only [← hji89]; first | rfl | (simp [errW_none, errW_some] <;> rfl)) | (simp [*, errW_none, errW_some] <;> rfl), by repeat (first | (with_reducible first | exact HB.out | apply qa | apply qn | apply qd | refine qs ?_ GE225.out | refine qs ?_ GE226.out | refine qs ?_ GE233.out | refine qs ?_ GE236.out) | exact HB.out)⟩
                       ·rw [if_neg c110] at H
                        exact absurd H (by simp)
                      ·rw [if_neg c109] at H
                       exact absurd H (by simp)
                 ·rw [if_neg c91] at H
                  exact absurd H (by simp)
                ·rw [if_neg c90] at H
                 exact absurd H (by simp)
        ·rw [if_neg c42] at H
         exact absurd H (by simp)
       ·rw [if_neg c41] at H
        have c41b0 : decide (x10_1 < (t227.length : Int)) = false := decide_eq_false c41
        clear c41
        simp only [Option.some.injEq, Prod.mk.injEq] at H
        obtain ⟨rfl, rfl, rfl, rfl, rfl⟩ := H
        have hnb115 := NB233_225.out
        have hnc115 := NB225_233.out
        have hnb116 := NB233_226.out
        have hnc116 := NB226_233.out
        have hcz117_0 : wr.cell? ⟨gb233, 0, none⟩ = some (.int .i64 t232) := (blk_cell BK233.out 0).trans rfl
        have hcz117_1 : wr.cell? ⟨gb233, 1, none⟩ = some (.int .i64 x234001_1) := (blk_cell BK233.out 1).trans rfl
        have hcz117_2 : wr.cell? ⟨gb233, 2, none⟩ = some (.bool x234002_1) := (blk_cell BK233.out 2).trans rfl
        have hfz117_0 := blk_frozen BK233.out 0
        have hfz117_1 := blk_frozen BK233.out 1
        have hfz117_2 := blk_frozen BK233.out 2
        have hnb118 := NB225_226.out
        have hnc118 := NB226_225.out
        have hcz119_0 : wr.cell? ⟨gb225, 0, none⟩ = some (.int .i64 x226000_1) := (blk_cell BK225.out 0).trans rfl
        have hcz119_1 : wr.cell? ⟨gb225, 1, none⟩ = some (.int .i64 x226001_1) := (blk_cell BK225.out 1).trans rfl
        have hcz119_2 : wr.cell? ⟨gb225, 2, none⟩ = some (.bool x226002_1) := (blk_cell BK225.out 2).trans rfl
        have hfz119_0 := blk_frozen BK225.out 0
        have hfz119_1 := blk_frozen BK225.out 1
        have hfz119_2 := blk_frozen BK225.out 2
        go_wp2
        refine bodyPost_ret (results_ctt rfl _ _ gb225 25 #[.int .i64 t232, .int .i64 x234001_1, .bool x234002_1] (0, 0) _ rfl (by (with_reducible repeat (first | refine cn ?_ _ | refine cd ?_ | refine ca ?_ _)); refine blk_put (cs := #[.int .i64 t232, .int .i64 x234001_1, .bool x226002_1]) ?_ 2 _ rfl; (with_reducible repeat (first | refine cn ?_ _ | refine cd ?_ | refine ca ?_ _)); refine blk_put (cs := #[.int .i64 t232, .int .i64 x226001_1, .bool x226002_1]) ?_ 1 _ rfl; (with_reducible repeat (first | refine cn ?_ _ | refine cd ?_ | refine ca ?_ _)); refine blk_put (cs := #[.int .i64 x226000_1, .int .i64 x226001_1, .bool x226002_1]) ?_ 0 _ rfl; (with_reducible repeat (first | refine cn ?_ _ | refine cd ?_ | refine ca ?_ _)); exact BK225.out) Try.underlying25 rfl (by kernel_rfl)) rfl ?_
        exact ⟨by first | rfl | (simp [errW_none, errW_some] <;> rfl) | (simp [*, errW_none, errW_some] <;> rfl), by repeat (first | (with_reducible first | exact HB.out | apply qa | apply qn | apply qd | refine qs ?_ GE225.out | refine qs ?_ GE226.out | refine qs ?_ GE233.out) | exact HB.out)⟩
   ·rw [if_neg c13] at H
    exact absurd H (by simp)
 ·rw [if_neg c3] at H
  have c3b0 : (t228 == 0) = false := beq_eq_false_iff_ne.mpr c3
  have c3b1 : (t228 != 0) = true := bne_iff_ne.mpr c3
  simp only [Option.some.injEq, Prod.mk.injEq] at H
  obtain ⟨rfl, rfl, rfl, rfl, rfl⟩ := H
  go_enter Try.func11, Try.ntmps11
  go_wp2_with (first | ((with_reducible refine gate_dst (N := 2) rfl ?_); refine box_event ?hg (N := 2) ?hd (cs := #[.int .i64 0, .int .i64 0, .bool false]) (t := 25) ?hr ?_; (case hd => rfl); (case hg => rfl); (case hr => first | (go_simp; done) | (go_simp; rfl)); intro gb225 hg w120 hbox hb; have n0_ := Aside0.mk (below_step (by repeat (first | (with_reducible first | exact HB.out | apply qa | apply qn | apply qd) | exact HB.out)) hb); have n1_ := Aside0.mk (hbox); have n2_ := bgw HB hg; have n3_ := bgw HB hg; clear HB; have HB := n0_; have BK225 := n1_; have GW225 := n2_; have GE225 := n3_; clear n0_ n1_ n2_ n3_; clear hb hbox hg) | ((with_reducible refine gate_dst (N := 5) rfl ?_); refine box_event ?hg (N := 5) ?hd (cs := #[.int .i64 0, .int .i64 0, .bool false]) (t := 25) ?hr ?_; (case hd => rfl); (case hg => rfl); (case hr => first | (go_simp; done) | (go_simp; rfl)); intro gb226 hg w121 hbox hb; have n0_ := bb BK225 hb; have n1_ := Aside0.mk (below_step (by repeat (first | (with_reducible first | exact HB.out | apply qa | apply qn | apply qd | refine qs ?_ GE225.out) | exact HB.out)) hb); have n2_ := Aside0.mk (hbox); have n3_ := bgw HB hg; have n4_ := bgw HB hg; have n5_ := bnl BK225 hg; have n6_ := bng BK225 hg; clear BK225; clear HB; have BK225 := n0_; have HB := n1_; have BK226 := n2_; have GW226 := n3_; have GE226 := n4_; have NB225_226 := n5_; have NB226_225 := n6_; clear n0_ n1_ n2_ n3_ n4_ n5_ n6_; clear hb hbox hg; have hnb122 := NB226_225.out; have hnc122 := NB225_226.out; have hcz123_0 : w121.cell? ⟨gb226, 0, none⟩ = some (.int .i64 0) := (blk_cell BK226.out 0).trans rfl; have hcz123_1 : w121.cell? ⟨gb226, 1, none⟩ = some (.int .i64 0) := (blk_cell BK226.out 1).trans rfl; have hcz123_2 : w121.cell? ⟨gb226, 2, none⟩ = some (.bool false) := (blk_cell BK226.out 2).trans rfl; have hfz123_0 := blk_frozen BK226.out 0; have hfz123_1 := blk_frozen BK226.out 1; have hfz123_2 := blk_frozen BK226.out 2) | ((with_reducible refine gate_callee (f := 25) rfl ?_); refine goesL_ (some 17) rfl rfl Try.func25 (by kernel_rfl) rfl #[.slice A0 l0.length c0] rfl (by (try simp only [List.map_toArray, List.map_cons, List.map_nil]); first | done | rfl | (simp only [List.length_drop, List.length_take]; rfl)) ?_; (with_reducible refine (parquetref02_All.calls k _ _ l0 t227 t228 _ ?side1 ?side2 A2.out).mono ?_); (case side1 => exact Kd.C_below HR0.out (by repeat (first | (with_reducible first | exact HB.out | apply qa | apply qn | apply qd | refine qs ?_ GE225.out | refine qs ?_ GE226.out) | exact HB.out))); (case side2 => exact HC0.out); rintro e w124 ⟨v229, rfl, ho0, hb⟩; refine ⟨_, rfl, ?_⟩; have n0_ := Aside0.mk (Kd.R_lower ho0 (below_size (by repeat (first | (with_reducible first | exact HB.out | apply qa | apply qn | apply qd | refine qs ?_ GE225.out | refine qs ?_ GE226.out) | exact HB.out)))); have n1_ := Aside0.mk (blk_below (g := gb225) (o := .cells #[.int .i64 0, .int .i64 0, .bool false] 25 (0, 0)) (by repeat (with_reducible first | exact lb BK225.out | refine blk_far ?_ NB225_226.out _ | refine cn ?_ _ | refine cd ?_ | refine ca ?_ _)) hb); have n2_ := Aside0.mk (blk_below (g := gb226) (o := .cells #[.int .i64 0, .int .i64 0, .bool false] 25 (0, 0)) (by (with_reducible repeat (first | refine cn ?_ _ | refine cd ?_ | refine ca ?_ _)); refine blk_put (cs := #[.int .i64 0, .int .i64 0, .bool false]) ?_ 2 _ rfl; (with_reducible repeat (first | refine cn ?_ _ | refine cd ?_ | refine ca ?_ _)); refine blk_put (cs := #[.int .i64 0, .int .i64 0, .bool false]) ?_ 1 _ rfl; (with_reducible repeat (first | refine cn ?_ _ | refine cd ?_ | refine ca ?_ _)); refine blk_put (cs := #[.int .i64 0, .int .i64 0, .bool false]) ?_ 0 _ rfl; (with_reducible repeat (first | refine cn ?_ _ | refine cd ?_ | refine ca ?_ _)); exact BK226.out) hb); have n3_ := Aside0.mk (below_step (by repeat (first | (with_reducible first | exact HB.out | apply qa | apply qn | apply qd | refine qs ?_ GE225.out | refine qs ?_ GE226.out) | exact HB.out)) hb); clear BK225; clear BK226; clear HB; have HO230 := n0_; have BK225 := n1_; have BK226 := n2_; have HB := n3_; clear n0_ n1_ n2_ n3_; (try clear hb); (try clear hb2); (try clear hk); (try clear hi); (try clear ho0); have hcz125_0 : w124.cell? ⟨gb226, 0, none⟩ = some (.int .i64 0) := (blk_cell BK226.out 0).trans rfl; have hcz125_1 : w124.cell? ⟨gb226, 1, none⟩ = some (.int .i64 0) := (blk_cell BK226.out 1).trans rfl; have hcz125_2 : w124.cell? ⟨gb226, 2, none⟩ = some (.bool false) := (blk_cell BK226.out 2).trans rfl; have hfz125_0 := blk_frozen BK226.out 0; have hfz125_1 := blk_frozen BK226.out 1; have hfz125_2 := blk_frozen BK226.out 2; have hcz126_0 : w124.cell? ⟨gb225, 0, none⟩ = some (.int .i64 0) := (blk_cell BK225.out 0).trans rfl; have hcz126_1 : w124.cell? ⟨gb225, 1, none⟩ = some (.int .i64 0) := (blk_cell BK225.out 1).trans rfl; have hcz126_2 : w124.cell? ⟨gb225, 2, none⟩ = some (.bool false) := (blk_cell BK225.out 2).trans rfl; have hfz126_0 := blk_frozen BK225.out 0; have hfz126_1 := blk_frozen BK225.out 1; have hfz126_2 := blk_frozen BK225.out 2))
  refine bodyPost_ret (results_ctt rfl _ _ gb225 25 #[.int .i64 0, .int .i64 0, .bool false] (0, 0) _ rfl (by (with_reducible repeat (first | refine cn ?_ _ | refine cd ?_ | refine ca ?_ _)); refine blk_put (cs := #[.int .i64 0, .int .i64 0, .bool false]) ?_ 2 _ rfl; (with_reducible repeat (first | refine cn ?_ _ | refine cd ?_ | refine ca ?_ _)); refine blk_put (cs := #[.int .i64 0, .int .i64 0, .bool false]) ?_ 1 _ rfl; (with_reducible repeat (first | refine cn ?_ _ | refine cd ?_ | refine ca ?_ _)); refine blk_put (cs := #[.int .i64 0, .int .i64 0, .bool false]) ?_ 0 _ rfl; (with_reducible repeat (first | refine cn ?_ _ | refine cd ?_ | refine ca ?_ _)); exact BK225.out) Try.underlying25 rfl (by kernel_rfl)) rfl ?_
  exact ⟨by first | rfl | (simp [errW_none, errW_some] <;> rfl) | (simp [*, errW_none, errW_some] <;> rfl), by repeat (first | (with_reducible first | exact HB.out | apply qa | apply qn | apply qd | refine qs ?_ GE225.out | refine qs ?_ GE226.out) | exact HB.out)⟩

end Go.Proofs.Ytbiafpklgkkoaaa.MT

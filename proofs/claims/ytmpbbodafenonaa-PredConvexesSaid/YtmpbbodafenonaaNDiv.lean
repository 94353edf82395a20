/- DivMod of the wide package, printed. -/
import Derived.Test.YtmpbbodafenonaaNMt0
import Derived.Test.YtmpbbodafenonaaNWid
namespace Go.Proofs.Ytmpbbodafenonaa.MT
open Go.RowKit Go.Proofs.YtmpbbodafenonaaW.PrintWords Go.Proofs.YtmpbbodafenonaaW.PrintLast Go.Proofs.YtmpbbodafenonaaW.PrintMore
attribute [local go_sem] max2_int min2_int max_two min_two max_three min_three max_four min_four   -- for this text's walks alone
set_option linter.unusedVariables false
set_option linter.unusedSimpArgs false
/-! ### wide_DivMod: function 23 -/
def wide_DivMod.j0 : Nat → Bool → Bool → Int → Int → Int → Int → Bool → Int → Int → Int → Int → Int → Int → Int → Int → Int → Int → Int → Int → Option (Bool × Int × Int × Int × Int × Bool × Int × Int × Int × Int × Int)
 | 0, _, _, _, _, _, _, _, _, _, _, _, _, _, _, _, _, _, _, _ => none
 | k + 1, x30, x138000, x138001, x138002, x138003, x138004, x139000, x139001, x139002, x139003, x139004, x151000, x151001, x151002, x151003, x152000, x152001, x152002, x152003 => if x30 = true then ((wide_plus.f x151000 x151001 x151002 x151003 1 0 0 0).bind fun bt153 => (if bt153.2.2.2.2 = true then ((wide_less.f x139001 x139002 x139003 x139004 x152000 x152001 x152002 x152003).bind fun bt159 => ((wide_of.f (!(x138000 == x139000)) bt153.1 bt153.2.1 bt153.2.2.1 bt153.2.2.2.1).bind fun bt163 => ((wide_of.f false bt159.1 bt159.2.1 bt159.2.2.1 bt159.2.2.2).bind fun bt168 => (some (bt163.1, bt163.2.1, bt163.2.2.1, bt163.2.2.2.1, bt163.2.2.2.2, bt168.1, bt168.2.1, bt168.2.2.1, bt168.2.2.2.1, bt168.2.2.2.2, 0))))) else (some (false, 0, 0, 0, 0, false, 0, 0, 0, 0, 10)))) else ((wide_of.f (!(x138000 == x139000)) x151000 x151001 x151002 x151003).bind fun bt173 => ((wide_of.f false x152000 x152001 x152002 x152003).bind fun bt178 => (some (bt173.1, bt173.2.1, bt173.2.2.1, bt173.2.2.2.1, bt173.2.2.2.2, bt178.1, bt178.2.1, bt178.2.2.1, bt178.2.2.2.1, bt178.2.2.2.2, 0))))
def wide_DivMod.f (k : Nat) (a0_0 : Bool) (a0_1 : Int) (a0_2 : Int) (a0_3 : Int) (a0_4 : Int) (a1_0 : Bool) (a1_1 : Int) (a1_2 : Int) (a1_3 : Int) (a1_4 : Int) : Option (Bool × Int × Int × Int × Int × Bool × Int × Int × Int × Int × Int) := (wide_none.f a1_1 a1_2 a1_3 a1_4).bind fun t141 => (if t141 = true then (some (false, 0, 0, 0, 0, false, 0, 0, 0, 0, 2)) else ((wide_divide.f a0_1 a0_2 a0_3 a0_4 a1_1 a1_2 a1_3 a1_4).bind fun bt142 => (if a0_0 = true then ((wide_none.f bt142.2.2.2.2.1 bt142.2.2.2.2.2.1 bt142.2.2.2.2.2.2.1 bt142.2.2.2.2.2.2.2).bind fun t152 => (wide_DivMod.j0 k (!t152) a0_0 a0_1 a0_2 a0_3 a0_4 a1_0 a1_1 a1_2 a1_3 a1_4 bt142.1 bt142.2.1 bt142.2.2.1 bt142.2.2.2.1 bt142.2.2.2.2.1 bt142.2.2.2.2.2.1 bt142.2.2.2.2.2.2.1 bt142.2.2.2.2.2.2.2)) else (wide_DivMod.j0 k false a0_0 a0_1 a0_2 a0_3 a0_4 a1_0 a1_1 a1_2 a1_3 a1_4 bt142.1 bt142.2.1 bt142.2.2.1 bt142.2.2.2.1 bt142.2.2.2.2.1 bt142.2.2.2.2.2.1 bt142.2.2.2.2.2.2.1 bt142.2.2.2.2.2.2.2))))
theorem wide_DivMod.mono_l : ∀ k, (∀ y0 y1 y2 y3 y4 y5 y6 y7 y8 y9 y10 y11 y12 y13 y14 y15 y16 y17 y18, LeO (wide_DivMod.j0 k y0 y1 y2 y3 y4 y5 y6 y7 y8 y9 y10 y11 y12 y13 y14 y15 y16 y17 y18) (wide_DivMod.j0 (k + 1) y0 y1 y2 y3 y4 y5 y6 y7 y8 y9 y10 y11 y12 y13 y14 y15 y16 y17 y18))
 | 0 => fun _ _ _ _ _ _ _ _ _ _ _ _ _ _ _ _ _ _ _ r h => by simp [wide_DivMod.j0] at h
 | k + 1 => by
  have ih0 := wide_DivMod.mono_l k
  ·intro y0 y1 y2 y3 y4 y5 y6 y7 y8 y9 y10 y11 y12 y13 y14 y15 y16 y17 y18
   unfold wide_DivMod.j0
   repeat' first
   | (with_reducible exact ih0 _ _ _ _ _ _ _ _ _ _ _ _ _ _ _ _ _ _ _)
   | (with_reducible exact LeO.refl _)
   | (with_reducible exact LeO.none _)
   | (with_reducible refine LeO.ite ?_ ?_)
   | (with_reducible refine LeO.bind ?_ (fun _ => ?_))
   | exact ih0 _ _ _ _ _ _ _ _ _ _ _ _ _ _ _ _ _ _ _
   | exact LeO.none _
   | refine LeO.ite ?_ ?_
   | refine LeO.bind ?_ (fun _ => ?_)
theorem wide_DivMod.mono : ∀ a0 a1 a2 a3 a4 a5 a6 a7 a8 a9 k, LeO (wide_DivMod.f k a0 a1 a2 a3 a4 a5 a6 a7 a8 a9) (wide_DivMod.f (k + 1) a0 a1 a2 a3 a4 a5 a6 a7 a8 a9) := by
 intro a0 a1 a2 a3 a4 a5 a6 a7 a8 a9 k
 have ih0 := wide_DivMod.mono_l k
 unfold wide_DivMod.f
 repeat' first
   | (with_reducible exact ih0 _ _ _ _ _ _ _ _ _ _ _ _ _ _ _ _ _ _ _)
   | (with_reducible exact LeO.refl _)
   | (with_reducible exact LeO.none _)
   | (with_reducible refine LeO.ite ?_ ?_)
   | (with_reducible refine LeO.bind ?_ (fun _ => ?_))
   | exact ih0 _ _ _ _ _ _ _ _ _ _ _ _ _ _ _ _ _ _ _
   | exact LeO.none _
   | refine LeO.ite ?_ ?_
   | refine LeO.bind ?_ (fun _ => ?_)
def wide_DivMod.T9 : Bool × List (List Nat × List Nat) := (true, [([], []), ([0], [0]), ([], []), ([2], [2]), ([1, 3], [1, 3]), ([], []), ([4, 5], [4, 5]), ([], []), ([7, 6], [7]), ([6, 8, 0, 1, 2, 3, 4, 5, 6], [6]), ([8, 9, 0, 1, 2, 3, 4, 5, 6, 7, 8, 9], [8]), ([10, 0, 1, 2, 3, 4, 5, 6, 7, 8, 9, 10], [])])
def wide_DivMod.B9 : List Nat := [0, 1, 0, 4, 15, 0, 63, 0, 255, 511, 1023, 2047]
theorem wide_DivMod.tab9 : rtab .any (opsOf Try.f23 9) = wide_DivMod.T9 := by kernel_rfl
theorem wide_DivMod.bits9 : waitsOk wide_DivMod.T9.2 wide_DivMod.B9 = true := by kernel_rfl
set_option maxHeartbeats 8000000 in
set_option maxRecDepth 100000 in
theorem wide_DivMod.calls (k : Nat) (a0_0 : Bool) (a0_1 : Int) (a0_2 : Int) (a0_3 : Int) (a0_4 : Int) (a1_0 : Bool) (a1_1 : Int) (a1_2 : Int) (a1_3 : Int) (a1_4 : Int) (r1 : Bool) (r2 : Int) (r3 : Int) (r4 : Int) (r5 : Int) (r6 : Bool) (r7 : Int) (r8 : Int) (r9 : Int) (r10 : Int) (r11 : Int) (w : World) (h : wide_DivMod.f k a0_0 a0_1 a0_2 a0_3 a0_4 a1_0 a1_1 a1_2 a1_3 a1_4 = some (r1, r2, r3, r4, r5, r6, r7, r8, r9, r10, r11)) :
  Calls Try.prog 23 #[.agg #[.bool a0_0, .int .u64 a0_1, .int .u64 a0_2, .int .u64 a0_3, .int .u64 a0_4], .agg #[.bool a1_0, .int .u64 a1_1, .int .u64 a1_2, .int .u64 a1_3, .int .u64 a1_4]] w fun e w' => e = .returned (.tuple #[.agg #[.bool r1, .int .u64 r2, .int .u64 r3, .int .u64 r4, .int .u64 r5], .agg #[.bool r6, .int .u64 r7, .int .u64 r8, .int .u64 r9, .int .u64 r10], .int .i64 r11]) ∧ Below w.heap.size w w' := by
 have hu27 := Try.underlying27
 have hu25 := Try.underlying25
 have HB := Aside0.mk (Below.refl w.heap.size w)
 have H : ((wide_none.f a1_1 a1_2 a1_3 a1_4).bind fun t141 => (if t141 = true then (some (false, 0, 0, 0, 0, false, 0, 0, 0, 0, 2)) else ((wide_divide.f a0_1 a0_2 a0_3 a0_4 a1_1 a1_2 a1_3 a1_4).bind fun bt142 => (if a0_0 = true then ((wide_none.f bt142.2.2.2.2.1 bt142.2.2.2.2.2.1 bt142.2.2.2.2.2.2.1 bt142.2.2.2.2.2.2.2).bind fun t152 => (wide_DivMod.j0 k (!t152) a0_0 a0_1 a0_2 a0_3 a0_4 a1_0 a1_1 a1_2 a1_3 a1_4 bt142.1 bt142.2.1 bt142.2.2.1 bt142.2.2.2.1 bt142.2.2.2.2.1 bt142.2.2.2.2.2.1 bt142.2.2.2.2.2.2.1 bt142.2.2.2.2.2.2.2)) else (wide_DivMod.j0 k false a0_0 a0_1 a0_2 a0_3 a0_4 a1_0 a1_1 a1_2 a1_3 a1_4 bt142.1 bt142.2.1 bt142.2.2.1 bt142.2.2.2.1 bt142.2.2.2.2.1 bt142.2.2.2.2.2.1 bt142.2.2.2.2.2.2.1 bt142.2.2.2.2.2.2.2))))) = some (r1, r2, r3, r4, r5, r6, r7, r8, r9, r10, r11) := h
 clear h
 replace H := Option.bind_eq_some_iff.mp H
 obtain ⟨t141, A30, H⟩ := H
 replace H : (if t141 = true then (some (false, 0, 0, 0, 0, false, 0, 0, 0, 0, 2)) else ((wide_divide.f a0_1 a0_2 a0_3 a0_4 a1_1 a1_2 a1_3 a1_4).bind fun bt142 => (if a0_0 = true then ((wide_none.f bt142.2.2.2.2.1 bt142.2.2.2.2.2.1 bt142.2.2.2.2.2.2.1 bt142.2.2.2.2.2.2.2).bind fun t152 => (wide_DivMod.j0 k (!t152) a0_0 a0_1 a0_2 a0_3 a0_4 a1_0 a1_1 a1_2 a1_3 a1_4 bt142.1 bt142.2.1 bt142.2.2.1 bt142.2.2.2.1 bt142.2.2.2.2.1 bt142.2.2.2.2.2.1 bt142.2.2.2.2.2.2.1 bt142.2.2.2.2.2.2.2)) else (wide_DivMod.j0 k false a0_0 a0_1 a0_2 a0_3 a0_4 a1_0 a1_1 a1_2 a1_3 a1_4 bt142.1 bt142.2.1 bt142.2.2.1 bt142.2.2.2.1 bt142.2.2.2.2.1 bt142.2.2.2.2.2.1 bt142.2.2.2.2.2.2.1 bt142.2.2.2.2.2.2.2)))) = some (r1, r2, r3, r4, r5, r6, r7, r8, r9, r10, r11) := H
 have A3 := Aside0.mk A30
 clear A30
 by_cases c4 : t141 = true
 ·subst c4
  have H1 : (some (false, 0, 0, 0, 0, false, 0, 0, 0, 0, 2)) = some (r1, r2, r3, r4, r5, r6, r7, r8, r9, r10, r11) := by rw [if_pos rfl] at H; exact H
  clear H
  have H := H1
  clear H1
  simp only [Option.some.injEq, Prod.mk.injEq] at H
  obtain ⟨rfl, rfl, rfl, rfl, rfl, rfl, rfl, rfl, rfl, rfl, rfl⟩ := H
  go_enter Try.func23, Try.ntmps23
  go_wp2_with (first | ((with_reducible refine gate_dst (N := 2) rfl ?_); refine box_event ?hg (N := 2) ?hd (cs := #[.bool a0_0, .int .u64 a0_1, .int .u64 a0_2, .int .u64 a0_3, .int .u64 a0_4]) (t := 27) ?hr ?_; (case hd => rfl); (case hg => rfl); (case hr => first | (go_simp; done) | (go_simp; rfl)); intro gb137 hg w5 hbox hb; have n0_ := Aside0.mk (below_step (by repeat (first | (with_reducible first | exact HB.out | apply qa | apply qn | apply qd) | exact HB.out)) hb); have n1_ := Aside0.mk (hbox); have n2_ := bgw HB hg; have n3_ := bgw HB hg; clear HB; have HB := n0_; have BK137 := n1_; have GW137 := n2_; have GE137 := n3_; clear n0_ n1_ n2_ n3_; clear hb hbox hg) | ((with_reducible refine gate_dst (N := 3) rfl ?_); refine box_event ?hg (N := 3) ?hd (cs := #[.bool a1_0, .int .u64 a1_1, .int .u64 a1_2, .int .u64 a1_3, .int .u64 a1_4]) (t := 27) ?hr ?_; (case hd => rfl); (case hg => rfl); (case hr => first | (go_simp; done) | (go_simp; rfl)); intro gb138 hg w6 hbox hb; have n0_ := bb BK137 hb; have n1_ := Aside0.mk (below_step (by repeat (first | (with_reducible first | exact HB.out | apply qa | apply qn | apply qd | refine qs ?_ GE137.out) | exact HB.out)) hb); have n2_ := Aside0.mk (hbox); have n3_ := bgw HB hg; have n4_ := bgw HB hg; have n5_ := bnl BK137 hg; have n6_ := bng BK137 hg; clear BK137; clear HB; have BK137 := n0_; have HB := n1_; have BK138 := n2_; have GW138 := n3_; have GE138 := n4_; have NB137_138 := n5_; have NB138_137 := n6_; clear n0_ n1_ n2_ n3_ n4_ n5_ n6_; clear hb hbox hg) | ((with_reducible refine gate_dst (N := 4) rfl ?_); refine box_event ?hg (N := 4) ?hd (cs := #[.bool false, .int .u64 0, .int .u64 0, .int .u64 0, .int .u64 0]) (t := 27) ?hr ?_; (case hd => rfl); (case hg => rfl); (case hr => first | (go_simp; done) | (go_simp; rfl)); intro gb139 hg w7 hbox hb; have n0_ := bb BK137 hb; have n1_ := bb BK138 hb; have n2_ := Aside0.mk (below_step (by repeat (first | (with_reducible first | exact HB.out | apply qa | apply qn | apply qd | refine qs ?_ GE137.out | refine qs ?_ GE138.out) | exact HB.out)) hb); have n3_ := Aside0.mk (hbox); have n4_ := bgw HB hg; have n5_ := bgw HB hg; have n6_ := bnl BK137 hg; have n7_ := bng BK137 hg; have n8_ := bnl BK138 hg; have n9_ := bng BK138 hg; clear BK137; clear BK138; clear HB; have BK137 := n0_; have BK138 := n1_; have HB := n2_; have BK139 := n3_; have GW139 := n4_; have GE139 := n5_; have NB137_139 := n6_; have NB139_137 := n7_; have NB138_139 := n8_; have NB139_138 := n9_; clear n0_ n1_ n2_ n3_ n4_ n5_ n6_ n7_ n8_ n9_; clear hb hbox hg) | ((with_reducible refine gate_dst (N := 5) rfl ?_); refine box_event ?hg (N := 5) ?hd (cs := #[.bool false, .int .u64 0, .int .u64 0, .int .u64 0, .int .u64 0]) (t := 27) ?hr ?_; (case hd => rfl); (case hg => rfl); (case hr => first | (go_simp; done) | (go_simp; rfl)); intro gb140 hg w8 hbox hb; have n0_ := bb BK137 hb; have n1_ := bb BK138 hb; have n2_ := bb BK139 hb; have n3_ := Aside0.mk (below_step (by repeat (first | (with_reducible first | exact HB.out | apply qa | apply qn | apply qd | refine qs ?_ GE137.out | refine qs ?_ GE138.out | refine qs ?_ GE139.out) | exact HB.out)) hb); have n4_ := Aside0.mk (hbox); have n5_ := bgw HB hg; have n6_ := bgw HB hg; have n7_ := bnl BK137 hg; have n8_ := bng BK137 hg; have n9_ := bnl BK138 hg; have n10_ := bng BK138 hg; have n11_ := bnl BK139 hg; have n12_ := bng BK139 hg; clear BK137; clear BK138; clear BK139; clear HB; have BK137 := n0_; have BK138 := n1_; have BK139 := n2_; have HB := n3_; have BK140 := n4_; have GW140 := n5_; have GE140 := n6_; have NB137_140 := n7_; have NB140_137 := n8_; have NB138_140 := n9_; have NB140_138 := n10_; have NB139_140 := n11_; have NB140_139 := n12_; clear n0_ n1_ n2_ n3_ n4_ n5_ n6_ n7_ n8_ n9_ n10_ n11_ n12_; clear hb hbox hg; have hnb9 := NB138_137.out; have hnc9 := NB137_138.out; have hnb10 := NB138_139.out; have hnc10 := NB139_138.out; have hnb11 := NB138_140.out; have hnc11 := NB140_138.out; obtain ⟨hcz12_0, hcz12_1, hcz12_2, hcz12_3, hcz12_4⟩ := cl5 BK138.out; obtain ⟨hfz12_0, hfz12_1, hfz12_2, hfz12_3, hfz12_4⟩ := fr5 BK138.out) | ((with_reducible refine gate_callee (f := 69) rfl ?_); refine goesL_ (some 13) rfl rfl Try.func69 (by kernel_rfl) rfl #[.agg #[.int .u64 a1_1, .int .u64 a1_2, .int .u64 a1_3, .int .u64 a1_4]] rfl (by (try simp only [List.map_toArray, List.map_cons, List.map_nil]); first | done | rfl | (simp only [List.length_drop, List.length_take]; rfl)) ?_; (with_reducible refine (wide_none.calls a1_1 a1_2 a1_3 a1_4 true _ A3.out).mono ?_); rintro e w13 ⟨rfl, hb⟩; refine ⟨_, rfl, ?_⟩; have n0_ := bb BK137 hb; have n1_ := bb BK138 hb; have n2_ := bb BK139 hb; have n3_ := bb BK140 hb; have n4_ := Aside0.mk (below_step (by repeat (first | (with_reducible first | exact HB.out | apply qa | apply qn | apply qd | refine qs ?_ GE137.out | refine qs ?_ GE138.out | refine qs ?_ GE139.out | refine qs ?_ GE140.out) | exact HB.out)) hb); clear BK137; clear BK138; clear BK139; clear BK140; clear HB; have BK137 := n0_; have BK138 := n1_; have BK139 := n2_; have BK140 := n3_; have HB := n4_; clear n0_ n1_ n2_ n3_ n4_; (try clear hb); (try clear hb2); (try clear hk); (try clear hi); have hnb14 := NB139_137.out; have hnc14 := NB137_139.out; have hnb15 := NB139_140.out; have hnc15 := NB140_139.out; obtain ⟨hcz16_0, hcz16_1, hcz16_2, hcz16_3, hcz16_4⟩ := cl5 BK139.out; obtain ⟨hfz16_0, hfz16_1, hfz16_2, hfz16_3, hfz16_4⟩ := fr5 BK139.out; have hnb17 := NB140_137.out; have hnc17 := NB137_140.out; obtain ⟨hcz18_0, hcz18_1, hcz18_2, hcz18_3, hcz18_4⟩ := cl5 BK140.out; obtain ⟨hfz18_0, hfz18_1, hfz18_2, hfz18_3, hfz18_4⟩ := fr5 BK140.out))
  refine bodyPost_ret (results_list (rs := [.cell 4 27, .cell 5 27, .tmp 6]) rfl (by simp) (.cell gb139 27 #[.bool false, .int .u64 0, .int .u64 0, .int .u64 0, .int .u64 0] (0, 0) _ rfl (by repeat (with_reducible first | exact bp5 (lb BK139.out) | refine blk_far ?_ NB139_140.out _ | refine cn ?_ _ | refine cd ?_ | refine ca ?_ _)) Try.underlying27 rfl (by kernel_rfl) (.cell gb140 27 #[.bool false, .int .u64 0, .int .u64 0, .int .u64 0, .int .u64 0] (0, 0) _ rfl (by (with_reducible repeat (first | refine cn ?_ _ | refine cd ?_ | refine ca ?_ _)); refine blk_put (cs := #[.bool false, .int .u64 0, .int .u64 0, .int .u64 0, .int .u64 0]) ?_ 4 _ rfl; (with_reducible repeat (first | refine cn ?_ _ | refine cd ?_ | refine ca ?_ _)); refine blk_put (cs := #[.bool false, .int .u64 0, .int .u64 0, .int .u64 0, .int .u64 0]) ?_ 3 _ rfl; (with_reducible repeat (first | refine cn ?_ _ | refine cd ?_ | refine ca ?_ _)); refine blk_put (cs := #[.bool false, .int .u64 0, .int .u64 0, .int .u64 0, .int .u64 0]) ?_ 2 _ rfl; (with_reducible repeat (first | refine cn ?_ _ | refine cd ?_ | refine ca ?_ _)); refine blk_put (cs := #[.bool false, .int .u64 0, .int .u64 0, .int .u64 0, .int .u64 0]) ?_ 1 _ rfl; (with_reducible repeat (first | refine cn ?_ _ | refine cd ?_ | refine ca ?_ _)); refine blk_put (cs := #[.bool false, .int .u64 0, .int .u64 0, .int .u64 0, .int .u64 0]) ?_ 0 _ rfl; (with_reducible repeat (first | refine cn ?_ _ | refine cd ?_ | refine ca ?_ _)); refine blk_far ?_ NB140_139.out _; (with_reducible repeat (first | refine cn ?_ _ | refine cd ?_ | refine ca ?_ _)); refine blk_far ?_ NB140_139.out _; (with_reducible repeat (first | refine cn ?_ _ | refine cd ?_ | refine ca ?_ _)); refine blk_far ?_ NB140_139.out _; (with_reducible repeat (first | refine cn ?_ _ | refine cd ?_ | refine ca ?_ _)); refine blk_far ?_ NB140_139.out _; (with_reducible repeat (first | refine cn ?_ _ | refine cd ?_ | refine ca ?_ _)); refine blk_far ?_ NB140_139.out _; (with_reducible repeat (first | refine cn ?_ _ | refine cd ?_ | refine ca ?_ _)); exact BK140.out) Try.underlying27 rfl (by kernel_rfl) (.tmp .nil)))) rfl ?_
  exact ⟨by first | rfl | (simp [errW_none, errW_some] <;> rfl) | (simp [*, errW_none, errW_some] <;> rfl), by repeat (first | (with_reducible first | exact HB.out | apply qa | apply qn | apply qd | refine qs ?_ GE137.out | refine qs ?_ GE138.out | refine qs ?_ GE139.out | refine qs ?_ GE140.out) | exact HB.out)⟩
 replace c4 := Bool.eq_false_iff.mpr c4
 subst c4
 have H1 : ((wide_divide.f a0_1 a0_2 a0_3 a0_4 a1_1 a1_2 a1_3 a1_4).bind fun bt142 => (if a0_0 = true then ((wide_none.f bt142.2.2.2.2.1 bt142.2.2.2.2.2.1 bt142.2.2.2.2.2.2.1 bt142.2.2.2.2.2.2.2).bind fun t152 => (wide_DivMod.j0 k (!t152) a0_0 a0_1 a0_2 a0_3 a0_4 a1_0 a1_1 a1_2 a1_3 a1_4 bt142.1 bt142.2.1 bt142.2.2.1 bt142.2.2.2.1 bt142.2.2.2.2.1 bt142.2.2.2.2.2.1 bt142.2.2.2.2.2.2.1 bt142.2.2.2.2.2.2.2)) else (wide_DivMod.j0 k false a0_0 a0_1 a0_2 a0_3 a0_4 a1_0 a1_1 a1_2 a1_3 a1_4 bt142.1 bt142.2.1 bt142.2.2.1 bt142.2.2.2.1 bt142.2.2.2.2.1 bt142.2.2.2.2.2.1 bt142.2.2.2.2.2.2.1 bt142.2.2.2.2.2.2.2))) = some (r1, r2, r3, r4, r5, r6, r7, r8, r9, r10, r11) := by rw [if_neg (show ¬ (false = true) by decide)] at H; exact H
 clear H
 have H := H1
 clear H1
 replace H := Option.bind_eq_some_iff.mp H
 obtain ⟨⟨t142, t143, t144, t145, t146, t147, t148, t149⟩, A190, H⟩ := H
 replace H : (if a0_0 = true then ((wide_none.f t146 t147 t148 t149).bind fun t152 => (wide_DivMod.j0 k (!t152) a0_0 a0_1 a0_2 a0_3 a0_4 a1_0 a1_1 a1_2 a1_3 a1_4 t142 t143 t144 t145 t146 t147 t148 t149)) else (wide_DivMod.j0 k false a0_0 a0_1 a0_2 a0_3 a0_4 a1_0 a1_1 a1_2 a1_3 a1_4 t142 t143 t144 t145 t146 t147 t148 t149)) = some (r1, r2, r3, r4, r5, r6, r7, r8, r9, r10, r11) := H
 have A19 := Aside0.mk A190
 clear A190
 have HC20 := Aside0.mk H
 clear H
 go_enter Try.func23, Try.ntmps23
 go_upto_region 4 with (first | ((with_reducible refine gate_dst (N := 2) rfl ?_); refine box_event ?hg (N := 2) ?hd (cs := #[.bool a0_0, .int .u64 a0_1, .int .u64 a0_2, .int .u64 a0_3, .int .u64 a0_4]) (t := 27) ?hr ?_; (case hd => rfl); (case hg => rfl); (case hr => first | (go_simp; done) | (go_simp; rfl)); intro gb137 hg w21 hbox hb; have n0_ := Aside0.mk (below_step (by repeat (first | (with_reducible first | exact HB.out | apply qa | apply qn | apply qd) | exact HB.out)) hb); have n1_ := Aside0.mk (hbox); have n2_ := bgw HB hg; have n3_ := bgw HB hg; clear HB; have HB := n0_; have BK137 := n1_; have GW137 := n2_; have GE137 := n3_; clear n0_ n1_ n2_ n3_; clear hb hbox hg) | ((with_reducible refine gate_dst (N := 3) rfl ?_); refine box_event ?hg (N := 3) ?hd (cs := #[.bool a1_0, .int .u64 a1_1, .int .u64 a1_2, .int .u64 a1_3, .int .u64 a1_4]) (t := 27) ?hr ?_; (case hd => rfl); (case hg => rfl); (case hr => first | (go_simp; done) | (go_simp; rfl)); intro gb138 hg w22 hbox hb; have n0_ := bb BK137 hb; have n1_ := Aside0.mk (below_step (by repeat (first | (with_reducible first | exact HB.out | apply qa | apply qn | apply qd | refine qs ?_ GE137.out) | exact HB.out)) hb); have n2_ := Aside0.mk (hbox); have n3_ := bgw HB hg; have n4_ := bgw HB hg; have n5_ := bnl BK137 hg; have n6_ := bng BK137 hg; clear BK137; clear HB; have BK137 := n0_; have HB := n1_; have BK138 := n2_; have GW138 := n3_; have GE138 := n4_; have NB137_138 := n5_; have NB138_137 := n6_; clear n0_ n1_ n2_ n3_ n4_ n5_ n6_; clear hb hbox hg) | ((with_reducible refine gate_dst (N := 4) rfl ?_); refine box_event ?hg (N := 4) ?hd (cs := #[.bool false, .int .u64 0, .int .u64 0, .int .u64 0, .int .u64 0]) (t := 27) ?hr ?_; (case hd => rfl); (case hg => rfl); (case hr => first | (go_simp; done) | (go_simp; rfl)); intro gb139 hg w23 hbox hb; have n0_ := bb BK137 hb; have n1_ := bb BK138 hb; have n2_ := Aside0.mk (below_step (by repeat (first | (with_reducible first | exact HB.out | apply qa | apply qn | apply qd | refine qs ?_ GE137.out | refine qs ?_ GE138.out) | exact HB.out)) hb); have n3_ := Aside0.mk (hbox); have n4_ := bgw HB hg; have n5_ := bgw HB hg; have n6_ := bnl BK137 hg; have n7_ := bng BK137 hg; have n8_ := bnl BK138 hg; have n9_ := bng BK138 hg; clear BK137; clear BK138; clear HB; have BK137 := n0_; have BK138 := n1_; have HB := n2_; have BK139 := n3_; have GW139 := n4_; have GE139 := n5_; have NB137_139 := n6_; have NB139_137 := n7_; have NB138_139 := n8_; have NB139_138 := n9_; clear n0_ n1_ n2_ n3_ n4_ n5_ n6_ n7_ n8_ n9_; clear hb hbox hg) | ((with_reducible refine gate_dst (N := 5) rfl ?_); refine box_event ?hg (N := 5) ?hd (cs := #[.bool false, .int .u64 0, .int .u64 0, .int .u64 0, .int .u64 0]) (t := 27) ?hr ?_; (case hd => rfl); (case hg => rfl); (case hr => first | (go_simp; done) | (go_simp; rfl)); intro gb140 hg w24 hbox hb; have n0_ := bb BK137 hb; have n1_ := bb BK138 hb; have n2_ := bb BK139 hb; have n3_ := Aside0.mk (below_step (by repeat (first | (with_reducible first | exact HB.out | apply qa | apply qn | apply qd | refine qs ?_ GE137.out | refine qs ?_ GE138.out | refine qs ?_ GE139.out) | exact HB.out)) hb); have n4_ := Aside0.mk (hbox); have n5_ := bgw HB hg; have n6_ := bgw HB hg; have n7_ := bnl BK137 hg; have n8_ := bng BK137 hg; have n9_ := bnl BK138 hg; have n10_ := bng BK138 hg; have n11_ := bnl BK139 hg; have n12_ := bng BK139 hg; clear BK137; clear BK138; clear BK139; clear HB; have BK137 := n0_; have BK138 := n1_; have BK139 := n2_; have HB := n3_; have BK140 := n4_; have GW140 := n5_; have GE140 := n6_; have NB137_140 := n7_; have NB140_137 := n8_; have NB138_140 := n9_; have NB140_138 := n10_; have NB139_140 := n11_; have NB140_139 := n12_; clear n0_ n1_ n2_ n3_ n4_ n5_ n6_ n7_ n8_ n9_ n10_ n11_ n12_; clear hb hbox hg; have hnb25 := NB138_137.out; have hnc25 := NB137_138.out; have hnb26 := NB138_139.out; have hnc26 := NB139_138.out; have hnb27 := NB138_140.out; have hnc27 := NB140_138.out; obtain ⟨hcz28_0, hcz28_1, hcz28_2, hcz28_3, hcz28_4⟩ := cl5 BK138.out; obtain ⟨hfz28_0, hfz28_1, hfz28_2, hfz28_3, hfz28_4⟩ := fr5 BK138.out) | ((with_reducible refine gate_callee (f := 69) rfl ?_); refine goesL_ (some 13) rfl rfl Try.func69 (by kernel_rfl) rfl #[.agg #[.int .u64 a1_1, .int .u64 a1_2, .int .u64 a1_3, .int .u64 a1_4]] rfl (by (try simp only [List.map_toArray, List.map_cons, List.map_nil]); first | done | rfl | (simp only [List.length_drop, List.length_take]; rfl)) ?_; (with_reducible refine (wide_none.calls a1_1 a1_2 a1_3 a1_4 false _ A3.out).mono ?_); rintro e w29 ⟨rfl, hb⟩; refine ⟨_, rfl, ?_⟩; have n0_ := bb BK137 hb; have n1_ := bb BK138 hb; have n2_ := bb BK139 hb; have n3_ := bb BK140 hb; have n4_ := Aside0.mk (below_step (by repeat (first | (with_reducible first | exact HB.out | apply qa | apply qn | apply qd | refine qs ?_ GE137.out | refine qs ?_ GE138.out | refine qs ?_ GE139.out | refine qs ?_ GE140.out) | exact HB.out)) hb); clear BK137; clear BK138; clear BK139; clear BK140; clear HB; have BK137 := n0_; have BK138 := n1_; have BK139 := n2_; have BK140 := n3_; have HB := n4_; clear n0_ n1_ n2_ n3_ n4_; (try clear hb); (try clear hb2); (try clear hk); (try clear hi); have hnb30 := NB137_139.out; have hnc30 := NB139_137.out; have hnb31 := NB137_140.out; have hnc31 := NB140_137.out; obtain ⟨hcz32_0, hcz32_1, hcz32_2, hcz32_3, hcz32_4⟩ := cl5 BK137.out; obtain ⟨hfz32_0, hfz32_1, hfz32_2, hfz32_3, hfz32_4⟩ := fr5 BK137.out; obtain ⟨hcz33_0, hcz33_1, hcz33_2, hcz33_3, hcz33_4⟩ := cl5 BK138.out; obtain ⟨hfz33_0, hfz33_1, hfz33_2, hfz33_3, hfz33_4⟩ := fr5 BK138.out) | ((with_reducible refine gate_callee (f := 70) rfl ?_); refine goesL_ (some 21) rfl rfl Try.func70 (by kernel_rfl) rfl #[.agg #[.int .u64 a0_1, .int .u64 a0_2, .int .u64 a0_3, .int .u64 a0_4], .agg #[.int .u64 a1_1, .int .u64 a1_2, .int .u64 a1_3, .int .u64 a1_4]] rfl (by (try simp only [List.map_toArray, List.map_cons, List.map_nil]); first | done | rfl | (simp only [List.length_drop, List.length_take]; rfl)) ?_; (with_reducible refine (wide_divide.calls a0_1 a0_2 a0_3 a0_4 a1_1 a1_2 a1_3 a1_4 t142 t143 t144 t145 t146 t147 t148 t149 _ A19.out).mono ?_); rintro e w34 ⟨rfl, hb⟩; refine ⟨_, rfl, ?_⟩; have n0_ := bb BK137 hb; have n1_ := bb BK138 hb; have n2_ := bb BK139 hb; have n3_ := bb BK140 hb; have n4_ := Aside0.mk (below_step (by repeat (first | (with_reducible first | exact HB.out | apply qa | apply qn | apply qd | refine qs ?_ GE137.out | refine qs ?_ GE138.out | refine qs ?_ GE139.out | refine qs ?_ GE140.out) | exact HB.out)) hb); clear BK137; clear BK138; clear BK139; clear BK140; clear HB; have BK137 := n0_; have BK138 := n1_; have BK139 := n2_; have BK140 := n3_; have HB := n4_; clear n0_ n1_ n2_ n3_ n4_; (try clear hb); (try clear hb2); (try clear hk); (try clear hi)) | ((with_reducible refine gate_dst (N := 7) rfl ?_); refine box_event ?hg (N := 7) ?hd (cs := #[.int .u64 0, .int .u64 0, .int .u64 0, .int .u64 0]) (t := 25) ?hr ?_; (case hd => rfl); (case hg => rfl); (case hr => first | (go_simp; done) | (go_simp; rfl)); intro gb150 hg w35 hbox hb; have n0_ := bb BK137 hb; have n1_ := bb BK138 hb; have n2_ := bb BK139 hb; have n3_ := bb BK140 hb; have n4_ := Aside0.mk (below_step (by repeat (first | (with_reducible first | exact HB.out | apply qa | apply qn | apply qd | refine qs ?_ GE137.out | refine qs ?_ GE138.out | refine qs ?_ GE139.out | refine qs ?_ GE140.out) | exact HB.out)) hb); have n5_ := Aside0.mk (hbox); have n6_ := bgw HB hg; have n7_ := bgw HB hg; have n8_ := bnl BK137 hg; have n9_ := bng BK137 hg; have n10_ := bnl BK138 hg; have n11_ := bng BK138 hg; have n12_ := bnl BK139 hg; have n13_ := bng BK139 hg; have n14_ := bnl BK140 hg; have n15_ := bng BK140 hg; clear BK137; clear BK138; clear BK139; clear BK140; clear HB; have BK137 := n0_; have BK138 := n1_; have BK139 := n2_; have BK140 := n3_; have HB := n4_; have BK150 := n5_; have GW150 := n6_; have GE150 := n7_; have NB137_150 := n8_; have NB150_137 := n9_; have NB138_150 := n10_; have NB150_138 := n11_; have NB139_150 := n12_; have NB150_139 := n13_; have NB140_150 := n14_; have NB150_140 := n15_; clear n0_ n1_ n2_ n3_ n4_ n5_ n6_ n7_ n8_ n9_ n10_ n11_ n12_ n13_ n14_ n15_; clear hb hbox hg) | ((with_reducible refine gate_dst (N := 8) rfl ?_); refine box_event ?hg (N := 8) ?hd (cs := #[.int .u64 0, .int .u64 0, .int .u64 0, .int .u64 0]) (t := 25) ?hr ?_; (case hd => rfl); (case hg => rfl); (case hr => first | (go_simp; done) | (go_simp; rfl)); intro gb151 hg w36 hbox hb; have n0_ := bb BK137 hb; have n1_ := bb BK138 hb; have n2_ := bb BK139 hb; have n3_ := bb BK140 hb; have n4_ := bb BK150 hb; have n5_ := Aside0.mk (below_step (by repeat (first | (with_reducible first | exact HB.out | apply qa | apply qn | apply qd | refine qs ?_ GE137.out | refine qs ?_ GE138.out | refine qs ?_ GE139.out | refine qs ?_ GE140.out | refine qs ?_ GE150.out) | exact HB.out)) hb); have n6_ := Aside0.mk (hbox); have n7_ := bgw HB hg; have n8_ := bgw HB hg; have n9_ := bnl BK137 hg; have n10_ := bng BK137 hg; have n11_ := bnl BK138 hg; have n12_ := bng BK138 hg; have n13_ := bnl BK139 hg; have n14_ := bng BK139 hg; have n15_ := bnl BK140 hg; have n16_ := bng BK140 hg; have n17_ := bnl BK150 hg; have n18_ := bng BK150 hg; clear BK137; clear BK138; clear BK139; clear BK140; clear BK150; clear HB; have BK137 := n0_; have BK138 := n1_; have BK139 := n2_; have BK140 := n3_; have BK150 := n4_; have HB := n5_; have BK151 := n6_; have GW151 := n7_; have GE151 := n8_; have NB137_151 := n9_; have NB151_137 := n10_; have NB138_151 := n11_; have NB151_138 := n12_; have NB139_151 := n13_; have NB151_139 := n14_; have NB140_151 := n15_; have NB151_140 := n16_; have NB150_151 := n17_; have NB151_150 := n18_; clear n0_ n1_ n2_ n3_ n4_ n5_ n6_ n7_ n8_ n9_ n10_ n11_ n12_ n13_ n14_ n15_ n16_ n17_ n18_; clear hb hbox hg; have hnb37 := NB150_137.out; have hnc37 := NB137_150.out; have hnb38 := NB150_138.out; have hnc38 := NB138_150.out; have hnb39 := NB150_139.out; have hnc39 := NB139_150.out; have hnb40 := NB150_140.out; have hnc40 := NB140_150.out; have hnb41 := NB150_151.out; have hnc41 := NB151_150.out; obtain ⟨hcz42_0, hcz42_1, hcz42_2, hcz42_3⟩ := cl4 BK150.out; obtain ⟨hfz42_0, hfz42_1, hfz42_2, hfz42_3⟩ := fr4 BK150.out; have hnb43 := NB151_137.out; have hnc43 := NB137_151.out; have hnb44 := NB151_138.out; have hnc44 := NB138_151.out; have hnb45 := NB151_139.out; have hnc45 := NB139_151.out; have hnb46 := NB151_140.out; have hnc46 := NB140_151.out; obtain ⟨hcz47_0, hcz47_1, hcz47_2, hcz47_3⟩ := cl4 BK151.out; obtain ⟨hfz47_0, hfz47_1, hfz47_2, hfz47_3⟩ := fr4 BK151.out))
 (try simp only [Act.put, List.setIfInBounds_toArray, List.set_cons_zero, List.set_cons_succ])
 go_cut [30] (fun v30 wc => ∃ (kq : Nat) (x30_19 : Bool), v30 = .bool x30_19 ∧ Aside0 (wide_DivMod.j0 kq x30_19 a0_0 a0_1 a0_2 a0_3 a0_4 a1_0 a1_1 a1_2 a1_3 a1_4 t142 t143 t144 t145 t146 t147 t148 t149 = some (r1, r2, r3, r4, r5, r6, r7, r8, r9, r10, r11)) ∧ Aside0 (kq ≤ k) ∧ Aside0 (wc.heap[gb137]? = some (.cells #[.bool a0_0, .int .u64 a0_1, .int .u64 a0_2, .int .u64 a0_3, .int .u64 a0_4] 27 (0, 0))) ∧ Aside0 (wc.heap[gb138]? = some (.cells #[.bool a1_0, .int .u64 a1_1, .int .u64 a1_2, .int .u64 a1_3, .int .u64 a1_4] 27 (0, 0))) ∧ Aside0 (wc.heap[gb139]? = some (.cells #[.bool false, .int .u64 0, .int .u64 0, .int .u64 0, .int .u64 0] 27 (0, 0))) ∧ Aside0 (wc.heap[gb140]? = some (.cells #[.bool false, .int .u64 0, .int .u64 0, .int .u64 0, .int .u64 0] 27 (0, 0))) ∧ Aside0 (wc.heap[gb150]? = some (.cells #[.int .u64 t142, .int .u64 t143, .int .u64 t144, .int .u64 t145] 25 (0, 0))) ∧ Aside0 (wc.heap[gb151]? = some (.cells #[.int .u64 t146, .int .u64 t147, .int .u64 t148, .int .u64 t149] 25 (0, 0))) ∧ Aside0 (Below w.heap.size w wc))
 case first =>
  have H := HC20.out
  clear HC20
  by_cases c48 : a0_0 = true
  rotate_left
  ·replace c48 := Bool.eq_false_iff.mpr c48
   subst c48
   have H1 : (wide_DivMod.j0 k false false a0_1 a0_2 a0_3 a0_4 a1_0 a1_1 a1_2 a1_3 a1_4 t142 t143 t144 t145 t146 t147 t148 t149) = some (r1, r2, r3, r4, r5, r6, r7, r8, r9, r10, r11) := by rw [if_neg (show ¬ (false = true) by decide)] at H; exact H
   clear H
   have H := H1
   clear H1
   have H' := Aside0.mk H
   clear H
   have hnb62 := NB137_138.out
   have hnc62 := NB138_137.out
   have hnb63 := NB137_139.out
   have hnc63 := NB139_137.out
   have hnb64 := NB137_140.out
   have hnc64 := NB140_137.out
   have hnb65 := NB137_150.out
   have hnc65 := NB150_137.out
   have hnb66 := NB137_151.out
   have hnc66 := NB151_137.out
   obtain ⟨hcz67_0, hcz67_1, hcz67_2, hcz67_3, hcz67_4⟩ := cl5 BK137.out
   obtain ⟨hfz67_0, hfz67_1, hfz67_2, hfz67_3, hfz67_4⟩ := fr5 BK137.out
   go_wp2
   go_meet
   case rel => exact ⟨_, (false), (by first | rfl | (simp; done) | (simp [*]; done)), H', ⟨by first | omega | exact Nat.le_refl _⟩, ⟨by repeat (with_reducible first | exact lb BK137.out | refine blk_far ?_ NB137_151.out _ | refine blk_far ?_ NB137_150.out _ | refine cn ?_ _ | refine cd ?_ | refine ca ?_ _)⟩, ⟨by repeat (with_reducible first | exact lb BK138.out | refine blk_far ?_ NB138_151.out _ | refine blk_far ?_ NB138_150.out _ | refine cn ?_ _ | refine cd ?_ | refine ca ?_ _)⟩, ⟨by repeat (with_reducible first | exact lb BK139.out | refine blk_far ?_ NB139_151.out _ | refine blk_far ?_ NB139_150.out _ | refine cn ?_ _ | refine cd ?_ | refine ca ?_ _)⟩, ⟨by repeat (with_reducible first | exact lb BK140.out | refine blk_far ?_ NB140_151.out _ | refine blk_far ?_ NB140_150.out _ | refine cn ?_ _ | refine cd ?_ | refine ca ?_ _)⟩, ⟨by repeat (with_reducible first | exact bp4 (lb BK150.out) | refine blk_far ?_ NB150_151.out _ | refine cn ?_ _ | refine cd ?_ | refine ca ?_ _)⟩, ⟨by (with_reducible repeat (first | refine cn ?_ _ | refine cd ?_ | refine ca ?_ _)); refine blk_put (cs := #[.int .u64 t146, .int .u64 t147, .int .u64 t148, .int .u64 0]) ?_ 3 _ rfl; (with_reducible repeat (first | refine cn ?_ _ | refine cd ?_ | refine ca ?_ _)); refine blk_put (cs := #[.int .u64 t146, .int .u64 t147, .int .u64 0, .int .u64 0]) ?_ 2 _ rfl; (with_reducible repeat (first | refine cn ?_ _ | refine cd ?_ | refine ca ?_ _)); refine blk_put (cs := #[.int .u64 t146, .int .u64 0, .int .u64 0, .int .u64 0]) ?_ 1 _ rfl; (with_reducible repeat (first | refine cn ?_ _ | refine cd ?_ | refine ca ?_ _)); refine blk_put (cs := #[.int .u64 0, .int .u64 0, .int .u64 0, .int .u64 0]) ?_ 0 _ rfl; (with_reducible repeat (first | refine cn ?_ _ | refine cd ?_ | refine ca ?_ _)); refine blk_far ?_ NB151_150.out _; (with_reducible repeat (first | refine cn ?_ _ | refine cd ?_ | refine ca ?_ _)); refine blk_far ?_ NB151_150.out _; (with_reducible repeat (first | refine cn ?_ _ | refine cd ?_ | refine ca ?_ _)); refine blk_far ?_ NB151_150.out _; (with_reducible repeat (first | refine cn ?_ _ | refine cd ?_ | refine ca ?_ _)); refine blk_far ?_ NB151_150.out _; (with_reducible repeat (first | refine cn ?_ _ | refine cd ?_ | refine ca ?_ _)); exact BK151.out⟩, ⟨by repeat (first | (with_reducible first | exact HB.out | apply qa | apply qn | apply qd | refine qs ?_ GE137.out | refine qs ?_ GE138.out | refine qs ?_ GE139.out | refine qs ?_ GE140.out | refine qs ?_ GE150.out | refine qs ?_ GE151.out) | exact HB.out)⟩⟩
  subst c48
  have H1 : ((wide_none.f t146 t147 t148 t149).bind fun t152 => (wide_DivMod.j0 k (!t152) true a0_1 a0_2 a0_3 a0_4 a1_0 a1_1 a1_2 a1_3 a1_4 t142 t143 t144 t145 t146 t147 t148 t149)) = some (r1, r2, r3, r4, r5, r6, r7, r8, r9, r10, r11) := by rw [if_pos rfl] at H; exact H
  clear H
  have H := H1
  clear H1
  replace H := Option.bind_eq_some_iff.mp H
  obtain ⟨t152, A490, H⟩ := H
  replace H : (wide_DivMod.j0 k (!t152) true a0_1 a0_2 a0_3 a0_4 a1_0 a1_1 a1_2 a1_3 a1_4 t142 t143 t144 t145 t146 t147 t148 t149) = some (r1, r2, r3, r4, r5, r6, r7, r8, r9, r10, r11) := H
  have A49 := Aside0.mk A490
  clear A490
  have H' := Aside0.mk H
  clear H
  have hnb50 := NB137_138.out
  have hnc50 := NB138_137.out
  have hnb51 := NB137_139.out
  have hnc51 := NB139_137.out
  have hnb52 := NB137_140.out
  have hnc52 := NB140_137.out
  have hnb53 := NB137_150.out
  have hnc53 := NB150_137.out
  have hnb54 := NB137_151.out
  have hnc54 := NB151_137.out
  obtain ⟨hcz55_0, hcz55_1, hcz55_2, hcz55_3, hcz55_4⟩ := cl5 BK137.out
  obtain ⟨hfz55_0, hfz55_1, hfz55_2, hfz55_3, hfz55_4⟩ := fr5 BK137.out
  have hnb56 := NB151_138.out
  have hnc56 := NB138_151.out
  have hnb57 := NB151_139.out
  have hnc57 := NB139_151.out
  have hnb58 := NB151_140.out
  have hnc58 := NB140_151.out
  have hnb59 := NB151_150.out
  have hnc59 := NB150_151.out
  obtain ⟨hcz60_0, hcz60_1, hcz60_2, hcz60_3⟩ := cl4 BK151.out
  obtain ⟨hfz60_0, hfz60_1, hfz60_2, hfz60_3⟩ := fr4 BK151.out
  go_wp2_with (first | (go_at_call 69; (with_reducible refine (wide_none.calls t146 t147 t148 t149 t152 _ A49.out).mono ?_); rintro e w61 ⟨rfl, hb⟩; have n0_ := Aside0.mk (blk_below (g := gb137) (o := .cells #[.bool true, .int .u64 a0_1, .int .u64 a0_2, .int .u64 a0_3, .int .u64 a0_4] 27 (0, 0)) (by repeat (with_reducible first | exact lb BK137.out | refine blk_far ?_ NB137_151.out _ | refine blk_far ?_ NB137_150.out _ | refine cn ?_ _ | refine cd ?_ | refine ca ?_ _)) hb); have n1_ := Aside0.mk (blk_below (g := gb138) (o := .cells #[.bool a1_0, .int .u64 a1_1, .int .u64 a1_2, .int .u64 a1_3, .int .u64 a1_4] 27 (0, 0)) (by repeat (with_reducible first | exact lb BK138.out | refine blk_far ?_ NB138_151.out _ | refine blk_far ?_ NB138_150.out _ | refine cn ?_ _ | refine cd ?_ | refine ca ?_ _)) hb); have n2_ := Aside0.mk (blk_below (g := gb139) (o := .cells #[.bool false, .int .u64 0, .int .u64 0, .int .u64 0, .int .u64 0] 27 (0, 0)) (by repeat (with_reducible first | exact lb BK139.out | refine blk_far ?_ NB139_151.out _ | refine blk_far ?_ NB139_150.out _ | refine cn ?_ _ | refine cd ?_ | refine ca ?_ _)) hb); have n3_ := Aside0.mk (blk_below (g := gb140) (o := .cells #[.bool false, .int .u64 0, .int .u64 0, .int .u64 0, .int .u64 0] 27 (0, 0)) (by repeat (with_reducible first | exact lb BK140.out | refine blk_far ?_ NB140_151.out _ | refine blk_far ?_ NB140_150.out _ | refine cn ?_ _ | refine cd ?_ | refine ca ?_ _)) hb); have n4_ := Aside0.mk (blk_below (g := gb150) (o := .cells #[.int .u64 t142, .int .u64 t143, .int .u64 t144, .int .u64 t145] 25 (0, 0)) (by repeat (with_reducible first | exact bp4 (lb BK150.out) | refine blk_far ?_ NB150_151.out _ | refine cn ?_ _ | refine cd ?_ | refine ca ?_ _)) hb); have n5_ := Aside0.mk (blk_below (g := gb151) (o := .cells #[.int .u64 t146, .int .u64 t147, .int .u64 t148, .int .u64 t149] 25 (0, 0)) (by (with_reducible repeat (first | refine cn ?_ _ | refine cd ?_ | refine ca ?_ _)); refine blk_put (cs := #[.int .u64 t146, .int .u64 t147, .int .u64 t148, .int .u64 0]) ?_ 3 _ rfl; (with_reducible repeat (first | refine cn ?_ _ | refine cd ?_ | refine ca ?_ _)); refine blk_put (cs := #[.int .u64 t146, .int .u64 t147, .int .u64 0, .int .u64 0]) ?_ 2 _ rfl; (with_reducible repeat (first | refine cn ?_ _ | refine cd ?_ | refine ca ?_ _)); refine blk_put (cs := #[.int .u64 t146, .int .u64 0, .int .u64 0, .int .u64 0]) ?_ 1 _ rfl; (with_reducible repeat (first | refine cn ?_ _ | refine cd ?_ | refine ca ?_ _)); refine blk_put (cs := #[.int .u64 0, .int .u64 0, .int .u64 0, .int .u64 0]) ?_ 0 _ rfl; (with_reducible repeat (first | refine cn ?_ _ | refine cd ?_ | refine ca ?_ _)); refine blk_far ?_ NB151_150.out _; (with_reducible repeat (first | refine cn ?_ _ | refine cd ?_ | refine ca ?_ _)); refine blk_far ?_ NB151_150.out _; (with_reducible repeat (first | refine cn ?_ _ | refine cd ?_ | refine ca ?_ _)); refine blk_far ?_ NB151_150.out _; (with_reducible repeat (first | refine cn ?_ _ | refine cd ?_ | refine ca ?_ _)); refine blk_far ?_ NB151_150.out _; (with_reducible repeat (first | refine cn ?_ _ | refine cd ?_ | refine ca ?_ _)); exact BK151.out) hb); have n6_ := Aside0.mk (below_step (by repeat (first | (with_reducible first | exact HB.out | apply qa | apply qn | apply qd | refine qs ?_ GE137.out | refine qs ?_ GE138.out | refine qs ?_ GE139.out | refine qs ?_ GE140.out | refine qs ?_ GE150.out | refine qs ?_ GE151.out) | exact HB.out)) hb); clear BK137; clear BK138; clear BK139; clear BK140; clear BK150; clear BK151; clear HB; have BK137 := n0_; have BK138 := n1_; have BK139 := n2_; have BK140 := n3_; have BK150 := n4_; have BK151 := n5_; have HB := n6_; clear n0_ n1_ n2_ n3_ n4_ n5_ n6_; (try clear hb); (try clear hb2); (try clear hk); (try clear hi)))
  go_meet
  case rel => exact ⟨_, (!t152), (by first | rfl | (simp; done) | (simp [*]; done)), H', ⟨by first | omega | exact Nat.le_refl _⟩, ⟨by (with_reducible repeat (first | refine cn ?_ _ | refine cd ?_ | refine ca ?_ _)); exact BK137.out⟩, ⟨by (with_reducible repeat (first | refine cn ?_ _ | refine cd ?_ | refine ca ?_ _)); exact BK138.out⟩, ⟨by (with_reducible repeat (first | refine cn ?_ _ | refine cd ?_ | refine ca ?_ _)); exact BK139.out⟩, ⟨by (with_reducible repeat (first | refine cn ?_ _ | refine cd ?_ | refine ca ?_ _)); exact BK140.out⟩, ⟨by (with_reducible repeat (first | refine cn ?_ _ | refine cd ?_ | refine ca ?_ _)); exact BK150.out⟩, ⟨by (with_reducible repeat (first | refine cn ?_ _ | refine cd ?_ | refine ca ?_ _)); exact BK151.out⟩, ⟨by repeat (first | (with_reducible first | exact HB.out | apply qa | apply qn | apply qd | refine qs ?_ GE137.out | refine qs ?_ GE138.out | refine qs ?_ GE139.out | refine qs ?_ GE140.out | refine qs ?_ GE150.out | refine qs ?_ GE151.out) | exact HB.out)⟩⟩
 case rest =>
  clear HC20
  try clear c1
  try clear c2
  try clear p2
  try clear c3
  try clear c4
  try clear c5
  try clear c6
  try clear c7
  try clear c9
  try clear c10
  try clear c11
  try clear c14
  try clear c15
  try clear c17
  try clear c23
  try clear c25
  try clear c26
  try clear c27
  try clear c30
  try clear c31
  try clear c37
  try clear c38
  try clear c39
  try clear c40
  try clear c41
  try clear c43
  try clear c44
  try clear c45
  try clear c46
  try clear c48
  try clear c50
  try clear c51
  try clear c52
  try clear c53
  try clear c54
  try clear c56
  try clear c57
  try clear c58
  try clear c59
  try clear c62
  try clear c63
  try clear c64
  try clear c65
  try clear c66
  try clear hcz12_0
  try clear hcz12_1
  try clear hcz12_2
  try clear hcz12_3
  try clear hcz12_4
  try clear hcz16_0
  try clear hcz16_1
  try clear hcz16_2
  try clear hcz16_3
  try clear hcz16_4
  try clear hcz18_0
  try clear hcz18_1
  try clear hcz18_2
  try clear hcz18_3
  try clear hcz18_4
  try clear hcz28_0
  try clear hcz28_1
  try clear hcz28_2
  try clear hcz28_3
  try clear hcz28_4
  try clear hcz32_0
  try clear hcz32_1
  try clear hcz32_2
  try clear hcz32_3
  try clear hcz32_4
  try clear hcz33_0
  try clear hcz33_1
  try clear hcz33_2
  try clear hcz33_3
  try clear hcz33_4
  try clear hcz42_0
  try clear hcz42_1
  try clear hcz42_2
  try clear hcz42_3
  try clear hcz47_0
  try clear hcz47_1
  try clear hcz47_2
  try clear hcz47_3
  try clear hcz55_0
  try clear hcz55_1
  try clear hcz55_2
  try clear hcz55_3
  try clear hcz55_4
  try clear hcz60_0
  try clear hcz60_1
  try clear hcz60_2
  try clear hcz60_3
  try clear hcz67_0
  try clear hcz67_1
  try clear hcz67_2
  try clear hcz67_3
  try clear hcz67_4
  try clear hfz12_0
  try clear hfz12_1
  try clear hfz12_2
  try clear hfz12_3
  try clear hfz12_4
  try clear hfz16_0
  try clear hfz16_1
  try clear hfz16_2
  try clear hfz16_3
  try clear hfz16_4
  try clear hfz18_0
  try clear hfz18_1
  try clear hfz18_2
  try clear hfz18_3
  try clear hfz18_4
  try clear hfz28_0
  try clear hfz28_1
  try clear hfz28_2
  try clear hfz28_3
  try clear hfz28_4
  try clear hfz32_0
  try clear hfz32_1
  try clear hfz32_2
  try clear hfz32_3
  try clear hfz32_4
  try clear hfz33_0
  try clear hfz33_1
  try clear hfz33_2
  try clear hfz33_3
  try clear hfz33_4
  try clear hfz42_0
  try clear hfz42_1
  try clear hfz42_2
  try clear hfz42_3
  try clear hfz47_0
  try clear hfz47_1
  try clear hfz47_2
  try clear hfz47_3
  try clear hfz55_0
  try clear hfz55_1
  try clear hfz55_2
  try clear hfz55_3
  try clear hfz55_4
  try clear hfz60_0
  try clear hfz60_1
  try clear hfz60_2
  try clear hfz60_3
  try clear hfz67_0
  try clear hfz67_1
  try clear hfz67_2
  try clear hfz67_3
  try clear hfz67_4
  obtain ⟨kq, x30_19, rfl, HA, HJ19, BK137, BK138, BK139, BK140, BK150, BK151, HB⟩ := hcut
  cases kq with
  | zero => exact absurd HA.out (by simp [wide_DivMod.j0])
  | succ kj19 =>
   have H := HA.out
   clear HA
   simp only [wide_DivMod.j0] at H
   by_cases c68 : x30_19 = true
   rotate_left
   ·replace c68 := Bool.eq_false_iff.mpr c68
    subst c68
    have H1 : ((wide_of.f (!(a0_0 == a1_0)) t142 t143 t144 t145).bind fun bt173 => ((wide_of.f false t146 t147 t148 t149).bind fun bt178 => (some (bt173.1, bt173.2.1, bt173.2.2.1, bt173.2.2.2.1, bt173.2.2.2.2, bt178.1, bt178.2.1, bt178.2.2.1, bt178.2.2.2.1, bt178.2.2.2.2, 0)))) = some (r1, r2, r3, r4, r5, r6, r7, r8, r9, r10, r11) := by rw [if_neg (show ¬ (false = true) by decide)] at H; exact H
    clear H
    have H := H1
    clear H1
    replace H := Option.bind_eq_some_iff.mp H
    obtain ⟨⟨t173, t174, t175, t176, t177⟩, A1380, H⟩ := H
    replace H : ((wide_of.f false t146 t147 t148 t149).bind fun bt178 => (some (t173, t174, t175, t176, t177, bt178.1, bt178.2.1, bt178.2.2.1, bt178.2.2.2.1, bt178.2.2.2.2, 0))) = some (r1, r2, r3, r4, r5, r6, r7, r8, r9, r10, r11) := H
    have A138 := Aside0.mk A1380
    clear A1380
    replace H := Option.bind_eq_some_iff.mp H
    obtain ⟨⟨t178, t179, t180, t181, t182⟩, A1390, H⟩ := H
    replace H : (some (t173, t174, t175, t176, t177, t178, t179, t180, t181, t182, 0)) = some (r1, r2, r3, r4, r5, r6, r7, r8, r9, r10, r11) := H
    have A139 := Aside0.mk A1390
    clear A1390
    simp only [Option.some.injEq, Prod.mk.injEq] at H
    obtain ⟨rfl, rfl, rfl, rfl, rfl, rfl, rfl, rfl, rfl, rfl, rfl⟩ := H
    try go_wp2
    have n0_ := Aside0.mk (blk_drew BK137.out)
    have n1_ := Aside0.mk (blk_drew BK138.out)
    have n2_ := Aside0.mk (blk_drew BK139.out)
    have n3_ := Aside0.mk (blk_drew BK140.out)
    have n4_ := Aside0.mk (blk_drew BK150.out)
    have n5_ := Aside0.mk (blk_drew BK151.out)
    have n6_ := Aside0.mk (below_drew1 HB.out)
    clear BK137
    clear BK138
    clear BK139
    clear BK140
    clear BK150
    clear BK151
    clear HB
    have BK137 := n0_
    have BK138 := n1_
    have BK139 := n2_
    have BK140 := n3_
    have BK150 := n4_
    have BK151 := n5_
    have HB := n6_
    clear n0_ n1_ n2_ n3_ n4_ n5_ n6_
    refine start_ (n := 12) (S := fun w' => w'.cell? ⟨gb137, 0, none⟩ = some (.bool a0_0) ∧ w'.cell? ⟨gb137, 1, none⟩ = some (.int .u64 a0_1) ∧ w'.cell? ⟨gb137, 2, none⟩ = some (.int .u64 a0_2) ∧ w'.cell? ⟨gb137, 3, none⟩ = some (.int .u64 a0_3) ∧ w'.cell? ⟨gb137, 4, none⟩ = some (.int .u64 a0_4) ∧ w'.cell? ⟨gb138, 0, none⟩ = some (.bool a1_0) ∧ w'.cell? ⟨gb138, 1, none⟩ = some (.int .u64 a1_1) ∧ w'.cell? ⟨gb138, 2, none⟩ = some (.int .u64 a1_2) ∧ w'.cell? ⟨gb138, 3, none⟩ = some (.int .u64 a1_3) ∧ w'.cell? ⟨gb138, 4, none⟩ = some (.int .u64 a1_4) ∧ w'.cell? ⟨gb150, 0, none⟩ = some (.int .u64 t142) ∧ w'.cell? ⟨gb150, 1, none⟩ = some (.int .u64 t143) ∧ w'.cell? ⟨gb150, 2, none⟩ = some (.int .u64 t144) ∧ w'.cell? ⟨gb150, 3, none⟩ = some (.int .u64 t145) ∧ w'.cell? ⟨gb151, 0, none⟩ = some (.int .u64 t146) ∧ w'.cell? ⟨gb151, 1, none⟩ = some (.int .u64 t147) ∧ w'.cell? ⟨gb151, 2, none⟩ = some (.int .u64 t148) ∧ w'.cell? ⟨gb151, 3, none⟩ = some (.int .u64 t149)) (ds := []) #[Ff, Ff, Ff, Ff, Ff, Ff, Ff, Ff, Ff, Ff, Ff, Ff] (by kernel_rfl) rfl rfl ⟨(blk_cell BK137.out 0).trans rfl, (blk_cell BK137.out 1).trans rfl, (blk_cell BK137.out 2).trans rfl, (blk_cell BK137.out 3).trans rfl, (blk_cell BK137.out 4).trans rfl, (blk_cell BK138.out 0).trans rfl, (blk_cell BK138.out 1).trans rfl, (blk_cell BK138.out 2).trans rfl, (blk_cell BK138.out 3).trans rfl, (blk_cell BK138.out 4).trans rfl, (blk_cell BK150.out 0).trans rfl, (blk_cell BK150.out 1).trans rfl, (blk_cell BK150.out 2).trans rfl, (blk_cell BK150.out 3).trans rfl, (blk_cell BK151.out 0).trans rfl, (blk_cell BK151.out 1).trans rfl, (blk_cell BK151.out 2).trans rfl, (blk_cell BK151.out 3).trans rfl⟩ (fun hHeld => ?_); refine with_tabW wide_DivMod.tab9 wide_DivMod.bits9 (fun HT_ HW_ => ?_)
    generalize wc.drew = w140 at BK137 BK138 BK139 BK140 BK150 BK151 HB hHeld ⊢
    refine pure_ (i := 0) (N := some 46) (v := ?_) (a' := ?_) #[Tt, Ff, Ff, Ff, Ff, Ff, Ff, Ff, Ff, Ff, Ff, Ff] rfl rfl (any_of HT_.out (by kernel_rfl)) (fun _ _ _ h => h) (Or.inl ⟨by rfl, ?_⟩) ?_ ?_
    rotate_left
    ·intro w'
     go_simp
     with_reducible rfl
    rotate_left
    ·simp only [Act.put, List.setIfInBounds_toArray, List.set_cons_zero, List.set_cons_succ, i64_w, i32_w]
     rfl
    refine pure_ (i := 2) (N := some 48) (v := ?_) (a' := ?_) #[Tt, Ff, Tt, Ff, Ff, Ff, Ff, Ff, Ff, Ff, Ff, Ff] rfl rfl (any_of HT_.out (by kernel_rfl)) (fun _ _ _ h => h) (Or.inl ⟨by rfl, ?_⟩) ?_ ?_
    rotate_left
    ·intro w'
     go_simp
     with_reducible rfl
    rotate_left
    ·simp only [Act.put, List.setIfInBounds_toArray, List.set_cons_zero, List.set_cons_succ, i64_w, i32_w]
     rfl
    refine take_ (i := 1) (N := some 47) (v := ?_) (a' := ?_) #[Tt, Tt, Tt, Ff, Ff, Ff, Ff, Ff, Ff, Ff, Ff, Ff] rfl rfl (take_ofW HT_.out HW_.out (by kernel_rfl)) (fun _ _ _ h => h) (Or.inl ⟨by rfl, ?_⟩) hHeld ?_ ?_
    rotate_left
    ·rintro w' ⟨s0, s1, s2, s3, s4, s5, s6, s7, s8, s9, s10, s11, s12, s13, s14, s15, s16, s17⟩
     go_simp
     with_reducible rfl
    rotate_left
    ·simp only [Act.put, List.setIfInBounds_toArray, List.set_cons_zero, List.set_cons_succ, i64_w, i32_w]
     rfl
    refine take_ (i := 3) (N := some 49) (v := ?_) (a' := ?_) #[Tt, Tt, Tt, Tt, Ff, Ff, Ff, Ff, Ff, Ff, Ff, Ff] rfl rfl (take_ofW HT_.out HW_.out (by kernel_rfl)) (fun _ _ _ h => h) (Or.inl ⟨by rfl, ?_⟩) hHeld ?_ ?_
    rotate_left
    ·rintro w' ⟨s0, s1, s2, s3, s4, s5, s6, s7, s8, s9, s10, s11, s12, s13, s14, s15, s16, s17⟩
     go_simp
     with_reducible rfl
    rotate_left
    ·simp only [Act.put, List.setIfInBounds_toArray, List.set_cons_zero, List.set_cons_succ, i64_w, i32_w]
     rfl
    refine pure_ (i := 4) (N := some 50) (v := ?_) (a' := ?_) #[Tt, Tt, Tt, Tt, Tt, Ff, Ff, Ff, Ff, Ff, Ff, Ff] rfl rfl (any_of HT_.out (by kernel_rfl)) (fun _ _ _ h => h) (Or.inl ⟨by rfl, ?_⟩) ?_ ?_
    rotate_left
    ·intro w'
     go_simp
     with_reducible rfl
    rotate_left
    ·simp only [Act.put, List.setIfInBounds_toArray, List.set_cons_zero, List.set_cons_succ, i64_w, i32_w]
     rfl
    refine take_ (i := 5) (N := some 51) (v := ?_) (a' := ?_) #[Tt, Tt, Tt, Tt, Tt, Tt, Ff, Ff, Ff, Ff, Ff, Ff] rfl rfl (take_ofW HT_.out HW_.out (by kernel_rfl)) (fun _ _ _ h => h) (Or.inl ⟨by rfl, ?_⟩) hHeld ?_ ?_
    rotate_left
    ·rintro w' ⟨s0, s1, s2, s3, s4, s5, s6, s7, s8, s9, s10, s11, s12, s13, s14, s15, s16, s17⟩
     go_simp
     with_reducible rfl
    rotate_left
    ·simp only [Act.put, List.setIfInBounds_toArray, List.set_cons_zero, List.set_cons_succ, i64_w, i32_w]
     rfl
    refine take_ (i := 7) (N := some 53) (v := ?_) (a' := ?_) #[Tt, Tt, Tt, Tt, Tt, Tt, Ff, Tt, Ff, Ff, Ff, Ff] rfl rfl (take_ofW HT_.out HW_.out (by kernel_rfl)) (fun _ _ _ h => h) (Or.inl ⟨by rfl, ?_⟩) hHeld ?_ ?_
    rotate_left
    ·rintro w' ⟨s0, s1, s2, s3, s4, s5, s6, s7, s8, s9, s10, s11, s12, s13, s14, s15, s16, s17⟩
     go_simp
     with_reducible rfl
    rotate_left
    ·simp only [Act.put, List.setIfInBounds_toArray, List.set_cons_zero, List.set_cons_succ, i64_w, i32_w]
     rfl
    refine one_ (i := 6) (N := some 52) #[Tt, Tt, Tt, Tt, Tt, Tt, Tt, Tt, Ff, Ff, Ff, Ff] rfl rfl (one_of HT_.out (by kernel_rfl)) (by decide) (fun K hK => ?_)
    refine goes_ Try.func67 (by kernel_rfl) rfl #[.bool (!(a0_0 == a1_0)), .agg #[.int .u64 t142, .int .u64 t143, .int .u64 t144, .int .u64 t145]] (by rfl) rfl rfl (by (try simp only [List.map_toArray, List.map_cons, List.map_nil]); first | done | rfl | (simp only [List.length_drop, List.length_take]; rfl)) ?_
    with_reducible refine (wide_of.calls (!(a0_0 == a1_0)) t142 t143 t144 t145 t173 t174 t175 t176 t177 _ A138.out).mono ?_
    rintro e w141 ⟨rfl, hb⟩
    refine ⟨_, rfl, ?_⟩
    have n0_ := bb BK137 hb
    have n1_ := bb BK138 hb
    have n2_ := bb BK139 hb
    have n3_ := bb BK140 hb
    have n4_ := bb BK150 hb
    have n5_ := bb BK151 hb
    have n6_ := Aside0.mk (below_step (by repeat (first | (with_reducible first | exact HB.out | apply qa | apply qn | apply qd | refine qs ?_ GE137.out | refine qs ?_ GE138.out | refine qs ?_ GE139.out | refine qs ?_ GE140.out | refine qs ?_ GE150.out | refine qs ?_ GE151.out) | exact HB.out)) hb)
    clear BK137
    clear BK138
    clear BK139
    clear BK140
    clear BK150
    clear BK151
    clear HB
    have BK137 := n0_
    have BK138 := n1_
    have BK139 := n2_
    have BK140 := n3_
    have BK150 := n4_
    have BK151 := n5_
    have HB := n6_
    clear n0_ n1_ n2_ n3_ n4_ n5_ n6_
    (try clear hb)
    (try clear hb2)
    (try clear hk)
    (try clear hi)
    refine hK.out _ _ ⟨(blk_cell BK137.out 0).trans rfl, (blk_cell BK137.out 1).trans rfl, (blk_cell BK137.out 2).trans rfl, (blk_cell BK137.out 3).trans rfl, (blk_cell BK137.out 4).trans rfl, (blk_cell BK138.out 0).trans rfl, (blk_cell BK138.out 1).trans rfl, (blk_cell BK138.out 2).trans rfl, (blk_cell BK138.out 3).trans rfl, (blk_cell BK138.out 4).trans rfl, (blk_cell BK150.out 0).trans rfl, (blk_cell BK150.out 1).trans rfl, (blk_cell BK150.out 2).trans rfl, (blk_cell BK150.out 3).trans rfl, (blk_cell BK151.out 0).trans rfl, (blk_cell BK151.out 1).trans rfl, (blk_cell BK151.out 2).trans rfl, (blk_cell BK151.out 3).trans rfl⟩ (fun hHeld => ?_)
    clear hK K
    refine norm_ (a' := ?_) ?_ ?_
    rotate_left
    ·show Act.put _ (some 52) _ = _
     simp only [Act.put, List.setIfInBounds_toArray, List.set_cons_zero, List.set_cons_succ, i64_w, i32_w]
     rfl
    refine one_ (i := 8) (N := some 54) #[Tt, Tt, Tt, Tt, Tt, Tt, Tt, Tt, Tt, Ff, Ff, Ff] rfl rfl (one_of HT_.out (by kernel_rfl)) (by decide) (fun K hK => ?_)
    refine goes_ Try.func67 (by kernel_rfl) rfl #[.bool false, .agg #[.int .u64 t146, .int .u64 t147, .int .u64 t148, .int .u64 t149]] (by rfl) rfl rfl (by (try simp only [List.map_toArray, List.map_cons, List.map_nil]); first | done | rfl | (simp only [List.length_drop, List.length_take]; rfl)) ?_
    with_reducible refine (wide_of.calls false t146 t147 t148 t149 t178 t179 t180 t181 t182 _ A139.out).mono ?_
    rintro e w142 ⟨rfl, hb⟩
    refine ⟨_, rfl, ?_⟩
    have n0_ := bb BK137 hb
    have n1_ := bb BK138 hb
    have n2_ := bb BK139 hb
    have n3_ := bb BK140 hb
    have n4_ := bb BK150 hb
    have n5_ := bb BK151 hb
    have n6_ := Aside0.mk (below_step (by repeat (first | (with_reducible first | exact HB.out | apply qa | apply qn | apply qd | refine qs ?_ GE137.out | refine qs ?_ GE138.out | refine qs ?_ GE139.out | refine qs ?_ GE140.out | refine qs ?_ GE150.out | refine qs ?_ GE151.out) | exact HB.out)) hb)
    clear BK137
    clear BK138
    clear BK139
    clear BK140
    clear BK150
    clear BK151
    clear HB
    have BK137 := n0_
    have BK138 := n1_
    have BK139 := n2_
    have BK140 := n3_
    have BK150 := n4_
    have BK151 := n5_
    have HB := n6_
    clear n0_ n1_ n2_ n3_ n4_ n5_ n6_
    (try clear hb)
    (try clear hb2)
    (try clear hk)
    (try clear hi)
    refine hK.out _ _ ⟨(blk_cell BK137.out 0).trans rfl, (blk_cell BK137.out 1).trans rfl, (blk_cell BK137.out 2).trans rfl, (blk_cell BK137.out 3).trans rfl, (blk_cell BK137.out 4).trans rfl, (blk_cell BK138.out 0).trans rfl, (blk_cell BK138.out 1).trans rfl, (blk_cell BK138.out 2).trans rfl, (blk_cell BK138.out 3).trans rfl, (blk_cell BK138.out 4).trans rfl, (blk_cell BK150.out 0).trans rfl, (blk_cell BK150.out 1).trans rfl, (blk_cell BK150.out 2).trans rfl, (blk_cell BK150.out 3).trans rfl, (blk_cell BK151.out 0).trans rfl, (blk_cell BK151.out 1).trans rfl, (blk_cell BK151.out 2).trans rfl, (blk_cell BK151.out 3).trans rfl⟩ (fun hHeld => ?_)
    clear hK K
    refine norm_ (a' := ?_) ?_ ?_
    rotate_left
    ·show Act.put _ (some 54) _ = _
     simp only [Act.put, List.setIfInBounds_toArray, List.set_cons_zero, List.set_cons_succ, i64_w, i32_w]
     rfl
    refine one_ (i := 9) (N := none) #[Tt, Tt, Tt, Tt, Tt, Tt, Tt, Tt, Tt, Tt, Ff, Ff] rfl rfl (one_of HT_.out (by kernel_rfl)) (by decide) (fun K hK => ?_)
    have hs143 : w142.cell? ⟨gb139, 0, none⟩ = some (.bool false) := (blk_cell BK139.out 0).trans rfl
    have hfs143 := blk_frozen BK139.out 0
    have hns143_0 := NB137_139.out
    have hns143_1 := NB138_139.out
    have hns143_3 := NB140_139.out
    have hns143_4 := NB150_139.out
    have hns143_5 := NB151_139.out
    have hms143_0 := NB139_137.out
    have hms143_1 := NB139_138.out
    have hms143_3 := NB139_140.out
    have hms143_4 := NB139_150.out
    have hms143_5 := NB139_151.out
    have hs144 : w142.cell? ⟨gb139, 1, none⟩ = some (.int .u64 0) := (blk_cell BK139.out 1).trans rfl
    have hfs144 := blk_frozen BK139.out 1
    have hns144_0 := NB137_139.out
    have hns144_1 := NB138_139.out
    have hns144_3 := NB140_139.out
    have hns144_4 := NB150_139.out
    have hns144_5 := NB151_139.out
    have hms144_0 := NB139_137.out
    have hms144_1 := NB139_138.out
    have hms144_3 := NB139_140.out
    have hms144_4 := NB139_150.out
    have hms144_5 := NB139_151.out
    have hs145 : w142.cell? ⟨gb139, 2, none⟩ = some (.int .u64 0) := (blk_cell BK139.out 2).trans rfl
    have hfs145 := blk_frozen BK139.out 2
    have hns145_0 := NB137_139.out
    have hns145_1 := NB138_139.out
    have hns145_3 := NB140_139.out
    have hns145_4 := NB150_139.out
    have hns145_5 := NB151_139.out
    have hms145_0 := NB139_137.out
    have hms145_1 := NB139_138.out
    have hms145_3 := NB139_140.out
    have hms145_4 := NB139_150.out
    have hms145_5 := NB139_151.out
    have hs146 : w142.cell? ⟨gb139, 3, none⟩ = some (.int .u64 0) := (blk_cell BK139.out 3).trans rfl
    have hfs146 := blk_frozen BK139.out 3
    have hns146_0 := NB137_139.out
    have hns146_1 := NB138_139.out
    have hns146_3 := NB140_139.out
    have hns146_4 := NB150_139.out
    have hns146_5 := NB151_139.out
    have hms146_0 := NB139_137.out
    have hms146_1 := NB139_138.out
    have hms146_3 := NB139_140.out
    have hms146_4 := NB139_150.out
    have hms146_5 := NB139_151.out
    have hs147 : w142.cell? ⟨gb139, 4, none⟩ = some (.int .u64 0) := (blk_cell BK139.out 4).trans rfl
    have hfs147 := blk_frozen BK139.out 4
    have hns147_0 := NB137_139.out
    have hns147_1 := NB138_139.out
    have hns147_3 := NB140_139.out
    have hns147_4 := NB150_139.out
    have hns147_5 := NB151_139.out
    have hms147_0 := NB139_137.out
    have hms147_1 := NB139_138.out
    have hms147_3 := NB139_140.out
    have hms147_4 := NB139_150.out
    have hms147_5 := NB139_151.out
    refine skip_ (w1 := ?_) (by rfl) rfl ?_ ?_
    rotate_left
    ·go_simp
     rfl
    refine hK.out _ _ ⟨(cf5 NB137_139.out hHeld.1), (cf5 NB137_139.out hHeld.2.1), (cf5 NB137_139.out hHeld.2.2.1), (cf5 NB137_139.out hHeld.2.2.2.1), (cf5 NB137_139.out hHeld.2.2.2.2.1), (cf5 NB138_139.out hHeld.2.2.2.2.2.1), (cf5 NB138_139.out hHeld.2.2.2.2.2.2.1), (cf5 NB138_139.out hHeld.2.2.2.2.2.2.2.1), (cf5 NB138_139.out hHeld.2.2.2.2.2.2.2.2.1), (cf5 NB138_139.out hHeld.2.2.2.2.2.2.2.2.2.1), (cf5 NB150_139.out hHeld.2.2.2.2.2.2.2.2.2.2.1), (cf5 NB150_139.out hHeld.2.2.2.2.2.2.2.2.2.2.2.1), (cf5 NB150_139.out hHeld.2.2.2.2.2.2.2.2.2.2.2.2.1), (cf5 NB150_139.out hHeld.2.2.2.2.2.2.2.2.2.2.2.2.2.1), (cf5 NB151_139.out hHeld.2.2.2.2.2.2.2.2.2.2.2.2.2.2.1), (cf5 NB151_139.out hHeld.2.2.2.2.2.2.2.2.2.2.2.2.2.2.2.1), (cf5 NB151_139.out hHeld.2.2.2.2.2.2.2.2.2.2.2.2.2.2.2.2.1), (cf5 NB151_139.out hHeld.2.2.2.2.2.2.2.2.2.2.2.2.2.2.2.2.2)⟩ (fun hHeld => ?_)
    clear hK K
    refine one_ (i := 10) (N := none) #[Tt, Tt, Tt, Tt, Tt, Tt, Tt, Tt, Tt, Tt, Tt, Ff] rfl rfl (one_of HT_.out (by kernel_rfl)) (by decide) (fun K hK => ?_)
    have hs148 : w142.cell? ⟨gb140, 0, none⟩ = some (.bool false) := (blk_cell BK140.out 0).trans rfl
    have hfs148 := blk_frozen BK140.out 0
    have hns148_0 := NB137_140.out
    have hns148_1 := NB138_140.out
    have hns148_2 := NB139_140.out
    have hns148_4 := NB150_140.out
    have hns148_5 := NB151_140.out
    have hms148_0 := NB140_137.out
    have hms148_1 := NB140_138.out
    have hms148_2 := NB140_139.out
    have hms148_4 := NB140_150.out
    have hms148_5 := NB140_151.out
    have hs149 : w142.cell? ⟨gb140, 1, none⟩ = some (.int .u64 0) := (blk_cell BK140.out 1).trans rfl
    have hfs149 := blk_frozen BK140.out 1
    have hns149_0 := NB137_140.out
    have hns149_1 := NB138_140.out
    have hns149_2 := NB139_140.out
    have hns149_4 := NB150_140.out
    have hns149_5 := NB151_140.out
    have hms149_0 := NB140_137.out
    have hms149_1 := NB140_138.out
    have hms149_2 := NB140_139.out
    have hms149_4 := NB140_150.out
    have hms149_5 := NB140_151.out
    have hs150 : w142.cell? ⟨gb140, 2, none⟩ = some (.int .u64 0) := (blk_cell BK140.out 2).trans rfl
    have hfs150 := blk_frozen BK140.out 2
    have hns150_0 := NB137_140.out
    have hns150_1 := NB138_140.out
    have hns150_2 := NB139_140.out
    have hns150_4 := NB150_140.out
    have hns150_5 := NB151_140.out
    have hms150_0 := NB140_137.out
    have hms150_1 := NB140_138.out
    have hms150_2 := NB140_139.out
    have hms150_4 := NB140_150.out
    have hms150_5 := NB140_151.out
    have hs151 : w142.cell? ⟨gb140, 3, none⟩ = some (.int .u64 0) := (blk_cell BK140.out 3).trans rfl
    have hfs151 := blk_frozen BK140.out 3
    have hns151_0 := NB137_140.out
    have hns151_1 := NB138_140.out
    have hns151_2 := NB139_140.out
    have hns151_4 := NB150_140.out
    have hns151_5 := NB151_140.out
    have hms151_0 := NB140_137.out
    have hms151_1 := NB140_138.out
    have hms151_2 := NB140_139.out
    have hms151_4 := NB140_150.out
    have hms151_5 := NB140_151.out
    have hs152 : w142.cell? ⟨gb140, 4, none⟩ = some (.int .u64 0) := (blk_cell BK140.out 4).trans rfl
    have hfs152 := blk_frozen BK140.out 4
    have hns152_0 := NB137_140.out
    have hns152_1 := NB138_140.out
    have hns152_2 := NB139_140.out
    have hns152_4 := NB150_140.out
    have hns152_5 := NB151_140.out
    have hms152_0 := NB140_137.out
    have hms152_1 := NB140_138.out
    have hms152_2 := NB140_139.out
    have hms152_4 := NB140_150.out
    have hms152_5 := NB140_151.out
    refine skip_ (w1 := ?_) (by rfl) rfl ?_ ?_
    rotate_left
    ·go_simp
     rfl
    refine hK.out _ _ ⟨(cf5 NB137_140.out hHeld.1), (cf5 NB137_140.out hHeld.2.1), (cf5 NB137_140.out hHeld.2.2.1), (cf5 NB137_140.out hHeld.2.2.2.1), (cf5 NB137_140.out hHeld.2.2.2.2.1), (cf5 NB138_140.out hHeld.2.2.2.2.2.1), (cf5 NB138_140.out hHeld.2.2.2.2.2.2.1), (cf5 NB138_140.out hHeld.2.2.2.2.2.2.2.1), (cf5 NB138_140.out hHeld.2.2.2.2.2.2.2.2.1), (cf5 NB138_140.out hHeld.2.2.2.2.2.2.2.2.2.1), (cf5 NB150_140.out hHeld.2.2.2.2.2.2.2.2.2.2.1), (cf5 NB150_140.out hHeld.2.2.2.2.2.2.2.2.2.2.2.1), (cf5 NB150_140.out hHeld.2.2.2.2.2.2.2.2.2.2.2.2.1), (cf5 NB150_140.out hHeld.2.2.2.2.2.2.2.2.2.2.2.2.2.1), (cf5 NB151_140.out hHeld.2.2.2.2.2.2.2.2.2.2.2.2.2.2.1), (cf5 NB151_140.out hHeld.2.2.2.2.2.2.2.2.2.2.2.2.2.2.2.1), (cf5 NB151_140.out hHeld.2.2.2.2.2.2.2.2.2.2.2.2.2.2.2.2.1), (cf5 NB151_140.out hHeld.2.2.2.2.2.2.2.2.2.2.2.2.2.2.2.2.2)⟩ (fun hHeld => ?_)
    clear hK K
    refine pure_ (i := 11) (N := some 6) (v := ?_) (a' := ?_) #[Tt, Tt, Tt, Tt, Tt, Tt, Tt, Tt, Tt, Tt, Tt, Tt] rfl rfl (any_of HT_.out (by kernel_rfl)) (fun _ _ _ h => h) (Or.inl ⟨by rfl, ?_⟩) ?_ ?_
    rotate_left
    ·intro w'
     go_simp
     with_reducible rfl
    rotate_left
    ·simp only [Act.put, List.setIfInBounds_toArray, List.set_cons_zero, List.set_cons_succ, i64_w, i32_w]
     rfl
    refine done_ (done_of HT_.out (by kernel_rfl)) ?_
    try go_wp2
    refine bodyPost_ret (results_list (rs := [.cell 4 27, .cell 5 27, .tmp 6]) rfl (by simp) (.cell gb139 27 #[.bool t173, .int .u64 t174, .int .u64 t175, .int .u64 t176, .int .u64 t177] (0, 0) _ rfl (by repeat (with_reducible first | exact bp5 (lb BK139.out) | refine blk_far ?_ NB139_140.out _ | refine cn ?_ _ | refine cd ?_ | refine ca ?_ _)) Try.underlying27 rfl (by kernel_rfl) (.cell gb140 27 #[.bool t178, .int .u64 t179, .int .u64 t180, .int .u64 t181, .int .u64 t182] (0, 0) _ rfl (by (with_reducible repeat (first | refine cn ?_ _ | refine cd ?_ | refine ca ?_ _)); refine blk_put (cs := #[.bool t178, .int .u64 t179, .int .u64 t180, .int .u64 t181, .int .u64 0]) ?_ 4 _ rfl; (with_reducible repeat (first | refine cn ?_ _ | refine cd ?_ | refine ca ?_ _)); refine blk_put (cs := #[.bool t178, .int .u64 t179, .int .u64 t180, .int .u64 0, .int .u64 0]) ?_ 3 _ rfl; (with_reducible repeat (first | refine cn ?_ _ | refine cd ?_ | refine ca ?_ _)); refine blk_put (cs := #[.bool t178, .int .u64 t179, .int .u64 0, .int .u64 0, .int .u64 0]) ?_ 2 _ rfl; (with_reducible repeat (first | refine cn ?_ _ | refine cd ?_ | refine ca ?_ _)); refine blk_put (cs := #[.bool t178, .int .u64 0, .int .u64 0, .int .u64 0, .int .u64 0]) ?_ 1 _ rfl; (with_reducible repeat (first | refine cn ?_ _ | refine cd ?_ | refine ca ?_ _)); refine blk_put (cs := #[.bool false, .int .u64 0, .int .u64 0, .int .u64 0, .int .u64 0]) ?_ 0 _ rfl; (with_reducible repeat (first | refine cn ?_ _ | refine cd ?_ | refine ca ?_ _)); refine blk_far ?_ NB140_139.out _; (with_reducible repeat (first | refine cn ?_ _ | refine cd ?_ | refine ca ?_ _)); refine blk_far ?_ NB140_139.out _; (with_reducible repeat (first | refine cn ?_ _ | refine cd ?_ | refine ca ?_ _)); refine blk_far ?_ NB140_139.out _; (with_reducible repeat (first | refine cn ?_ _ | refine cd ?_ | refine ca ?_ _)); refine blk_far ?_ NB140_139.out _; (with_reducible repeat (first | refine cn ?_ _ | refine cd ?_ | refine ca ?_ _)); refine blk_far ?_ NB140_139.out _; (with_reducible repeat (first | refine cn ?_ _ | refine cd ?_ | refine ca ?_ _)); exact BK140.out) Try.underlying27 rfl (by kernel_rfl) (.tmp .nil)))) rfl ?_
    exact ⟨by first | rfl | (simp [errW_none, errW_some] <;> rfl) | (simp [*, errW_none, errW_some] <;> rfl), by repeat (first | (with_reducible first | exact HB.out | apply qa | apply qn | apply qd | refine qs ?_ GE137.out | refine qs ?_ GE138.out | refine qs ?_ GE139.out | refine qs ?_ GE140.out | refine qs ?_ GE150.out | refine qs ?_ GE151.out) | exact HB.out)⟩
   subst c68
   have H1 : ((wide_plus.f t142 t143 t144 t145 1 0 0 0).bind fun bt153 => (if bt153.2.2.2.2 = true then ((wide_less.f a1_1 a1_2 a1_3 a1_4 t146 t147 t148 t149).bind fun bt159 => ((wide_of.f (!(a0_0 == a1_0)) bt153.1 bt153.2.1 bt153.2.2.1 bt153.2.2.2.1).bind fun bt163 => ((wide_of.f false bt159.1 bt159.2.1 bt159.2.2.1 bt159.2.2.2).bind fun bt168 => (some (bt163.1, bt163.2.1, bt163.2.2.1, bt163.2.2.2.1, bt163.2.2.2.2, bt168.1, bt168.2.1, bt168.2.2.1, bt168.2.2.2.1, bt168.2.2.2.2, 0))))) else (some (false, 0, 0, 0, 0, false, 0, 0, 0, 0, 10)))) = some (r1, r2, r3, r4, r5, r6, r7, r8, r9, r10, r11) := by rw [if_pos rfl] at H; exact H
   clear H
   have H := H1
   clear H1
   replace H := Option.bind_eq_some_iff.mp H
   obtain ⟨⟨t153, t154, t155, t156, t157⟩, A690, H⟩ := H
   replace H : (if t157 = true then ((wide_less.f a1_1 a1_2 a1_3 a1_4 t146 t147 t148 t149).bind fun bt159 => ((wide_of.f (!(a0_0 == a1_0)) t153 t154 t155 t156).bind fun bt163 => ((wide_of.f false bt159.1 bt159.2.1 bt159.2.2.1 bt159.2.2.2).bind fun bt168 => (some (bt163.1, bt163.2.1, bt163.2.2.1, bt163.2.2.2.1, bt163.2.2.2.2, bt168.1, bt168.2.1, bt168.2.2.1, bt168.2.2.2.1, bt168.2.2.2.2, 0))))) else (some (false, 0, 0, 0, 0, false, 0, 0, 0, 0, 10))) = some (r1, r2, r3, r4, r5, r6, r7, r8, r9, r10, r11) := H
   have A69 := Aside0.mk A690
   clear A690
   by_cases c70 : t157 = true
   rotate_left
   ·replace c70 := Bool.eq_false_iff.mpr c70
    subst c70
    have H1 : (some (false, 0, 0, 0, 0, false, 0, 0, 0, 0, 10)) = some (r1, r2, r3, r4, r5, r6, r7, r8, r9, r10, r11) := by rw [if_neg (show ¬ (false = true) by decide)] at H; exact H
    clear H
    have H := H1
    clear H1
    simp only [Option.some.injEq, Prod.mk.injEq] at H
    obtain ⟨rfl, rfl, rfl, rfl, rfl, rfl, rfl, rfl, rfl, rfl, rfl⟩ := H
    have hnb114 := NB150_137.out
    have hnc114 := NB137_150.out
    have hnb115 := NB150_138.out
    have hnc115 := NB138_150.out
    have hnb116 := NB150_139.out
    have hnc116 := NB139_150.out
    have hnb117 := NB150_140.out
    have hnc117 := NB140_150.out
    have hnb118 := NB150_151.out
    have hnc118 := NB151_150.out
    obtain ⟨hcz119_0, hcz119_1, hcz119_2, hcz119_3⟩ := cl4 BK150.out
    obtain ⟨hfz119_0, hfz119_1, hfz119_2, hfz119_3⟩ := fr4 BK150.out
    go_wp2_with (first | ((with_reducible refine gate_callee (f := 71) rfl ?_); refine goesL_ (some 34) rfl rfl Try.func71 (by kernel_rfl) rfl #[.agg #[.int .u64 t142, .int .u64 t143, .int .u64 t144, .int .u64 t145], .agg #[.int .u64 1, .int .u64 0, .int .u64 0, .int .u64 0]] rfl (by (try simp only [List.map_toArray, List.map_cons, List.map_nil]); first | done | rfl | (simp only [List.length_drop, List.length_take]; rfl)) ?_; (with_reducible refine (wide_plus.calls t142 t143 t144 t145 1 0 0 0 t153 t154 t155 t156 false _ A69.out).mono ?_); rintro e w120 ⟨rfl, hb⟩; refine ⟨_, rfl, ?_⟩; have n0_ := bb BK137 hb; have n1_ := bb BK138 hb; have n2_ := bb BK139 hb; have n3_ := bb BK140 hb; have n4_ := bb BK150 hb; have n5_ := bb BK151 hb; have n6_ := Aside0.mk (below_step (by repeat (first | (with_reducible first | exact HB.out | apply qa | apply qn | apply qd | refine qs ?_ GE137.out | refine qs ?_ GE138.out | refine qs ?_ GE139.out | refine qs ?_ GE140.out | refine qs ?_ GE150.out | refine qs ?_ GE151.out) | exact HB.out)) hb); clear BK137; clear BK138; clear BK139; clear BK140; clear BK150; clear BK151; clear HB; have BK137 := n0_; have BK138 := n1_; have BK139 := n2_; have BK140 := n3_; have BK150 := n4_; have BK151 := n5_; have HB := n6_; clear n0_ n1_ n2_ n3_ n4_ n5_ n6_; (try clear hb); (try clear hb2); (try clear hk); (try clear hi)) | ((with_reducible refine gate_dst (N := 9) rfl ?_); refine box_event ?hg (N := 9) ?hd (cs := #[.int .u64 0, .int .u64 0, .int .u64 0, .int .u64 0]) (t := 25) ?hr ?_; (case hd => rfl); (case hg => rfl); (case hr => first | (go_simp; done) | (go_simp; rfl)); intro gb158 hg w121 hbox hb; have n0_ := bb BK137 hb; have n1_ := bb BK138 hb; have n2_ := bb BK139 hb; have n3_ := bb BK140 hb; have n4_ := bb BK150 hb; have n5_ := bb BK151 hb; have n6_ := Aside0.mk (below_step (by repeat (first | (with_reducible first | exact HB.out | apply qa | apply qn | apply qd | refine qs ?_ GE137.out | refine qs ?_ GE138.out | refine qs ?_ GE139.out | refine qs ?_ GE140.out | refine qs ?_ GE150.out | refine qs ?_ GE151.out) | exact HB.out)) hb); have n7_ := Aside0.mk (hbox); have n8_ := bgw HB hg; have n9_ := bgw HB hg; have n10_ := bnl BK137 hg; have n11_ := bng BK137 hg; have n12_ := bnl BK138 hg; have n13_ := bng BK138 hg; have n14_ := bnl BK139 hg; have n15_ := bng BK139 hg; have n16_ := bnl BK140 hg; have n17_ := bng BK140 hg; have n18_ := bnl BK150 hg; have n19_ := bng BK150 hg; have n20_ := bnl BK151 hg; have n21_ := bng BK151 hg; clear BK137; clear BK138; clear BK139; clear BK140; clear BK150; clear BK151; clear HB; have BK137 := n0_; have BK138 := n1_; have BK139 := n2_; have BK140 := n3_; have BK150 := n4_; have BK151 := n5_; have HB := n6_; have BK158 := n7_; have GW158 := n8_; have GE158 := n9_; have NB137_158 := n10_; have NB158_137 := n11_; have NB138_158 := n12_; have NB158_138 := n13_; have NB139_158 := n14_; have NB158_139 := n15_; have NB140_158 := n16_; have NB158_140 := n17_; have NB150_158 := n18_; have NB158_150 := n19_; have NB151_158 := n20_; have NB158_151 := n21_; clear n0_ n1_ n2_ n3_ n4_ n5_ n6_ n7_ n8_ n9_ n10_ n11_ n12_ n13_ n14_ n15_ n16_ n17_ n18_ n19_ n20_ n21_; clear hb hbox hg; have hnb122 := NB158_137.out; have hnc122 := NB137_158.out; have hnb123 := NB158_138.out; have hnc123 := NB138_158.out; have hnb124 := NB158_139.out; have hnc124 := NB139_158.out; have hnb125 := NB158_140.out; have hnc125 := NB140_158.out; have hnb126 := NB158_150.out; have hnc126 := NB150_158.out; have hnb127 := NB158_151.out; have hnc127 := NB151_158.out; obtain ⟨hcz128_0, hcz128_1, hcz128_2, hcz128_3⟩ := cl4 BK158.out; obtain ⟨hfz128_0, hfz128_1, hfz128_2, hfz128_3⟩ := fr4 BK158.out; have hnb129 := NB139_137.out; have hnc129 := NB137_139.out; have hnb130 := NB139_138.out; have hnc130 := NB138_139.out; have hnb131 := NB139_140.out; have hnc131 := NB140_139.out; have hnb132 := NB139_151.out; have hnc132 := NB151_139.out; obtain ⟨hcz133_0, hcz133_1, hcz133_2, hcz133_3, hcz133_4⟩ := cl5 BK139.out; obtain ⟨hfz133_0, hfz133_1, hfz133_2, hfz133_3, hfz133_4⟩ := fr5 BK139.out; have hnb134 := NB140_137.out; have hnc134 := NB137_140.out; have hnb135 := NB140_138.out; have hnc135 := NB138_140.out; have hnb136 := NB140_151.out; have hnc136 := NB151_140.out; obtain ⟨hcz137_0, hcz137_1, hcz137_2, hcz137_3, hcz137_4⟩ := cl5 BK140.out; obtain ⟨hfz137_0, hfz137_1, hfz137_2, hfz137_3, hfz137_4⟩ := fr5 BK140.out))
    refine bodyPost_ret (results_list (rs := [.cell 4 27, .cell 5 27, .tmp 6]) rfl (by simp) (.cell gb139 27 #[.bool false, .int .u64 0, .int .u64 0, .int .u64 0, .int .u64 0] (0, 0) _ rfl (by (with_reducible repeat (first | refine cn ?_ _ | refine cd ?_ | refine ca ?_ _)); refine blk_far ?_ NB139_140.out _; (with_reducible repeat (first | refine cn ?_ _ | refine cd ?_ | refine ca ?_ _)); refine blk_far ?_ NB139_140.out _; (with_reducible repeat (first | refine cn ?_ _ | refine cd ?_ | refine ca ?_ _)); refine blk_far ?_ NB139_140.out _; (with_reducible repeat (first | refine cn ?_ _ | refine cd ?_ | refine ca ?_ _)); refine blk_far ?_ NB139_140.out _; (with_reducible repeat (first | refine cn ?_ _ | refine cd ?_ | refine ca ?_ _)); refine blk_far ?_ NB139_140.out _; (with_reducible repeat (first | refine cn ?_ _ | refine cd ?_ | refine ca ?_ _)); refine blk_put (cs := #[.bool false, .int .u64 0, .int .u64 0, .int .u64 0, .int .u64 0]) ?_ 4 _ rfl; (with_reducible repeat (first | refine cn ?_ _ | refine cd ?_ | refine ca ?_ _)); refine blk_put (cs := #[.bool false, .int .u64 0, .int .u64 0, .int .u64 0, .int .u64 0]) ?_ 3 _ rfl; (with_reducible repeat (first | refine cn ?_ _ | refine cd ?_ | refine ca ?_ _)); refine blk_put (cs := #[.bool false, .int .u64 0, .int .u64 0, .int .u64 0, .int .u64 0]) ?_ 2 _ rfl; (with_reducible repeat (first | refine cn ?_ _ | refine cd ?_ | refine ca ?_ _)); refine blk_put (cs := #[.bool false, .int .u64 0, .int .u64 0, .int .u64 0, .int .u64 0]) ?_ 1 _ rfl; (with_reducible repeat (first | refine cn ?_ _ | refine cd ?_ | refine ca ?_ _)); refine blk_put (cs := #[.bool false, .int .u64 0, .int .u64 0, .int .u64 0, .int .u64 0]) ?_ 0 _ rfl; (with_reducible repeat (first | refine cn ?_ _ | refine cd ?_ | refine ca ?_ _)); refine blk_far ?_ NB139_158.out _; (with_reducible repeat (first | refine cn ?_ _ | refine cd ?_ | refine ca ?_ _)); refine blk_far ?_ NB139_158.out _; (with_reducible repeat (first | refine cn ?_ _ | refine cd ?_ | refine ca ?_ _)); refine blk_far ?_ NB139_158.out _; (with_reducible repeat (first | refine cn ?_ _ | refine cd ?_ | refine ca ?_ _)); refine blk_far ?_ NB139_158.out _; (with_reducible repeat (first | refine cn ?_ _ | refine cd ?_ | refine ca ?_ _)); exact BK139.out) Try.underlying27 rfl (by kernel_rfl) (.cell gb140 27 #[.bool false, .int .u64 0, .int .u64 0, .int .u64 0, .int .u64 0] (0, 0) _ rfl (by (with_reducible repeat (first | refine cn ?_ _ | refine cd ?_ | refine ca ?_ _)); refine blk_put (cs := #[.bool false, .int .u64 0, .int .u64 0, .int .u64 0, .int .u64 0]) ?_ 4 _ rfl; (with_reducible repeat (first | refine cn ?_ _ | refine cd ?_ | refine ca ?_ _)); refine blk_put (cs := #[.bool false, .int .u64 0, .int .u64 0, .int .u64 0, .int .u64 0]) ?_ 3 _ rfl; (with_reducible repeat (first | refine cn ?_ _ | refine cd ?_ | refine ca ?_ _)); refine blk_put (cs := #[.bool false, .int .u64 0, .int .u64 0, .int .u64 0, .int .u64 0]) ?_ 2 _ rfl; (with_reducible repeat (first | refine cn ?_ _ | refine cd ?_ | refine ca ?_ _)); refine blk_put (cs := #[.bool false, .int .u64 0, .int .u64 0, .int .u64 0, .int .u64 0]) ?_ 1 _ rfl; (with_reducible repeat (first | refine cn ?_ _ | refine cd ?_ | refine ca ?_ _)); refine blk_put (cs := #[.bool false, .int .u64 0, .int .u64 0, .int .u64 0, .int .u64 0]) ?_ 0 _ rfl; (with_reducible repeat (first | refine cn ?_ _ | refine cd ?_ | refine ca ?_ _)); refine blk_far ?_ NB140_139.out _; (with_reducible repeat (first | refine cn ?_ _ | refine cd ?_ | refine ca ?_ _)); refine blk_far ?_ NB140_139.out _; (with_reducible repeat (first | refine cn ?_ _ | refine cd ?_ | refine ca ?_ _)); refine blk_far ?_ NB140_139.out _; (with_reducible repeat (first | refine cn ?_ _ | refine cd ?_ | refine ca ?_ _)); refine blk_far ?_ NB140_139.out _; (with_reducible repeat (first | refine cn ?_ _ | refine cd ?_ | refine ca ?_ _)); refine blk_far ?_ NB140_139.out _; (with_reducible repeat (first | refine cn ?_ _ | refine cd ?_ | refine ca ?_ _)); refine blk_far ?_ NB140_158.out _; (with_reducible repeat (first | refine cn ?_ _ | refine cd ?_ | refine ca ?_ _)); refine blk_far ?_ NB140_158.out _; (with_reducible repeat (first | refine cn ?_ _ | refine cd ?_ | refine ca ?_ _)); refine blk_far ?_ NB140_158.out _; (with_reducible repeat (first | refine cn ?_ _ | refine cd ?_ | refine ca ?_ _)); refine blk_far ?_ NB140_158.out _; (with_reducible repeat (first | refine cn ?_ _ | refine cd ?_ | refine ca ?_ _)); exact BK140.out) Try.underlying27 rfl (by kernel_rfl) (.tmp .nil)))) rfl ?_
    exact ⟨by first | rfl | (simp [errW_none, errW_some] <;> rfl) | (simp [*, errW_none, errW_some] <;> rfl), by repeat (first | (with_reducible first | exact HB.out | apply qa | apply qn | apply qd | refine qs ?_ GE137.out | refine qs ?_ GE138.out | refine qs ?_ GE139.out | refine qs ?_ GE140.out | refine qs ?_ GE150.out | refine qs ?_ GE151.out | refine qs ?_ GE158.out) | exact HB.out)⟩
   subst c70
   have H1 : ((wide_less.f a1_1 a1_2 a1_3 a1_4 t146 t147 t148 t149).bind fun bt159 => ((wide_of.f (!(a0_0 == a1_0)) t153 t154 t155 t156).bind fun bt163 => ((wide_of.f false bt159.1 bt159.2.1 bt159.2.2.1 bt159.2.2.2).bind fun bt168 => (some (bt163.1, bt163.2.1, bt163.2.2.1, bt163.2.2.2.1, bt163.2.2.2.2, bt168.1, bt168.2.1, bt168.2.2.1, bt168.2.2.2.1, bt168.2.2.2.2, 0))))) = some (r1, r2, r3, r4, r5, r6, r7, r8, r9, r10, r11) := by rw [if_pos rfl] at H; exact H
   clear H
   have H := H1
   clear H1
   replace H := Option.bind_eq_some_iff.mp H
   obtain ⟨⟨t159, t160, t161, t162⟩, A710, H⟩ := H
   replace H : ((wide_of.f (!(a0_0 == a1_0)) t153 t154 t155 t156).bind fun bt163 => ((wide_of.f false t159 t160 t161 t162).bind fun bt168 => (some (bt163.1, bt163.2.1, bt163.2.2.1, bt163.2.2.2.1, bt163.2.2.2.2, bt168.1, bt168.2.1, bt168.2.2.1, bt168.2.2.2.1, bt168.2.2.2.2, 0)))) = some (r1, r2, r3, r4, r5, r6, r7, r8, r9, r10, r11) := H
   have A71 := Aside0.mk A710
   clear A710
   replace H := Option.bind_eq_some_iff.mp H
   obtain ⟨⟨t163, t164, t165, t166, t167⟩, A720, H⟩ := H
   replace H : ((wide_of.f false t159 t160 t161 t162).bind fun bt168 => (some (t163, t164, t165, t166, t167, bt168.1, bt168.2.1, bt168.2.2.1, bt168.2.2.2.1, bt168.2.2.2.2, 0))) = some (r1, r2, r3, r4, r5, r6, r7, r8, r9, r10, r11) := H
   have A72 := Aside0.mk A720
   clear A720
   replace H := Option.bind_eq_some_iff.mp H
   obtain ⟨⟨t168, t169, t170, t171, t172⟩, A730, H⟩ := H
   replace H : (some (t163, t164, t165, t166, t167, t168, t169, t170, t171, t172, 0)) = some (r1, r2, r3, r4, r5, r6, r7, r8, r9, r10, r11) := H
   have A73 := Aside0.mk A730
   clear A730
   simp only [Option.some.injEq, Prod.mk.injEq] at H
   obtain ⟨rfl, rfl, rfl, rfl, rfl, rfl, rfl, rfl, rfl, rfl, rfl⟩ := H
   have hnb74 := NB150_137.out
   have hnc74 := NB137_150.out
   have hnb75 := NB150_138.out
   have hnc75 := NB138_150.out
   have hnb76 := NB150_139.out
   have hnc76 := NB139_150.out
   have hnb77 := NB150_140.out
   have hnc77 := NB140_150.out
   have hnb78 := NB150_151.out
   have hnc78 := NB151_150.out
   obtain ⟨hcz79_0, hcz79_1, hcz79_2, hcz79_3⟩ := cl4 BK150.out
   obtain ⟨hfz79_0, hfz79_1, hfz79_2, hfz79_3⟩ := fr4 BK150.out
   try go_wp2_with (first | ((with_reducible refine gate_callee (f := 71) rfl ?_); refine goesL_ (some 34) rfl rfl Try.func71 (by kernel_rfl) rfl #[.agg #[.int .u64 t142, .int .u64 t143, .int .u64 t144, .int .u64 t145], .agg #[.int .u64 1, .int .u64 0, .int .u64 0, .int .u64 0]] rfl (by (try simp only [List.map_toArray, List.map_cons, List.map_nil]); first | done | rfl | (simp only [List.length_drop, List.length_take]; rfl)) ?_; (with_reducible refine (wide_plus.calls t142 t143 t144 t145 1 0 0 0 t153 t154 t155 t156 true _ A69.out).mono ?_); rintro e w80 ⟨rfl, hb⟩; refine ⟨_, rfl, ?_⟩; have n0_ := bb BK137 hb; have n1_ := bb BK138 hb; have n2_ := bb BK139 hb; have n3_ := bb BK140 hb; have n4_ := bb BK150 hb; have n5_ := bb BK151 hb; have n6_ := Aside0.mk (below_step (by repeat (first | (with_reducible first | exact HB.out | apply qa | apply qn | apply qd | refine qs ?_ GE137.out | refine qs ?_ GE138.out | refine qs ?_ GE139.out | refine qs ?_ GE140.out | refine qs ?_ GE150.out | refine qs ?_ GE151.out) | exact HB.out)) hb); clear BK137; clear BK138; clear BK139; clear BK140; clear BK150; clear BK151; clear HB; have BK137 := n0_; have BK138 := n1_; have BK139 := n2_; have BK140 := n3_; have BK150 := n4_; have BK151 := n5_; have HB := n6_; clear n0_ n1_ n2_ n3_ n4_ n5_ n6_; (try clear hb); (try clear hb2); (try clear hk); (try clear hi)) | ((with_reducible refine gate_dst (N := 9) rfl ?_); refine box_event ?hg (N := 9) ?hd (cs := #[.int .u64 0, .int .u64 0, .int .u64 0, .int .u64 0]) (t := 25) ?hr ?_; (case hd => rfl); (case hg => rfl); (case hr => first | (go_simp; done) | (go_simp; rfl)); intro gb158 hg w81 hbox hb; have n0_ := bb BK137 hb; have n1_ := bb BK138 hb; have n2_ := bb BK139 hb; have n3_ := bb BK140 hb; have n4_ := bb BK150 hb; have n5_ := bb BK151 hb; have n6_ := Aside0.mk (below_step (by repeat (first | (with_reducible first | exact HB.out | apply qa | apply qn | apply qd | refine qs ?_ GE137.out | refine qs ?_ GE138.out | refine qs ?_ GE139.out | refine qs ?_ GE140.out | refine qs ?_ GE150.out | refine qs ?_ GE151.out) | exact HB.out)) hb); have n7_ := Aside0.mk (hbox); have n8_ := bgw HB hg; have n9_ := bgw HB hg; have n10_ := bnl BK137 hg; have n11_ := bng BK137 hg; have n12_ := bnl BK138 hg; have n13_ := bng BK138 hg; have n14_ := bnl BK139 hg; have n15_ := bng BK139 hg; have n16_ := bnl BK140 hg; have n17_ := bng BK140 hg; have n18_ := bnl BK150 hg; have n19_ := bng BK150 hg; have n20_ := bnl BK151 hg; have n21_ := bng BK151 hg; clear BK137; clear BK138; clear BK139; clear BK140; clear BK150; clear BK151; clear HB; have BK137 := n0_; have BK138 := n1_; have BK139 := n2_; have BK140 := n3_; have BK150 := n4_; have BK151 := n5_; have HB := n6_; have BK158 := n7_; have GW158 := n8_; have GE158 := n9_; have NB137_158 := n10_; have NB158_137 := n11_; have NB138_158 := n12_; have NB158_138 := n13_; have NB139_158 := n14_; have NB158_139 := n15_; have NB140_158 := n16_; have NB158_140 := n17_; have NB150_158 := n18_; have NB158_150 := n19_; have NB151_158 := n20_; have NB158_151 := n21_; clear n0_ n1_ n2_ n3_ n4_ n5_ n6_ n7_ n8_ n9_ n10_ n11_ n12_ n13_ n14_ n15_ n16_ n17_ n18_ n19_ n20_ n21_; clear hb hbox hg; have hnb82 := NB158_137.out; have hnc82 := NB137_158.out; have hnb83 := NB158_138.out; have hnc83 := NB138_158.out; have hnb84 := NB158_139.out; have hnc84 := NB139_158.out; have hnb85 := NB158_140.out; have hnc85 := NB140_158.out; have hnb86 := NB158_150.out; have hnc86 := NB150_158.out; have hnb87 := NB158_151.out; have hnc87 := NB151_158.out; obtain ⟨hcz88_0, hcz88_1, hcz88_2, hcz88_3⟩ := cl4 BK158.out; obtain ⟨hfz88_0, hfz88_1, hfz88_2, hfz88_3⟩ := fr4 BK158.out))
   have n0_ : Aside0 (((((w81.setCell ⟨gb158, 0, none⟩ (.int .u64 t153)).setCell ⟨gb158, 1, none⟩ (.int .u64 t154)).setCell ⟨gb158, 2, none⟩ (.int .u64 t155)).setCell ⟨gb158, 3, none⟩ (.int .u64 t156)).heap[gb137]? = some (.cells #[.bool a0_0, .int .u64 a0_1, .int .u64 a0_2, .int .u64 a0_3, .int .u64 a0_4] 27 (0, 0))) := ⟨by repeat (with_reducible first | exact lb BK137.out | refine blk_far ?_ NB137_158.out _ | refine cn ?_ _ | refine cd ?_ | refine ca ?_ _)⟩
   have n1_ : Aside0 (((((w81.setCell ⟨gb158, 0, none⟩ (.int .u64 t153)).setCell ⟨gb158, 1, none⟩ (.int .u64 t154)).setCell ⟨gb158, 2, none⟩ (.int .u64 t155)).setCell ⟨gb158, 3, none⟩ (.int .u64 t156)).heap[gb138]? = some (.cells #[.bool a1_0, .int .u64 a1_1, .int .u64 a1_2, .int .u64 a1_3, .int .u64 a1_4] 27 (0, 0))) := ⟨by repeat (with_reducible first | exact lb BK138.out | refine blk_far ?_ NB138_158.out _ | refine cn ?_ _ | refine cd ?_ | refine ca ?_ _)⟩
   have n2_ : Aside0 (((((w81.setCell ⟨gb158, 0, none⟩ (.int .u64 t153)).setCell ⟨gb158, 1, none⟩ (.int .u64 t154)).setCell ⟨gb158, 2, none⟩ (.int .u64 t155)).setCell ⟨gb158, 3, none⟩ (.int .u64 t156)).heap[gb139]? = some (.cells #[.bool false, .int .u64 0, .int .u64 0, .int .u64 0, .int .u64 0] 27 (0, 0))) := ⟨by repeat (with_reducible first | exact lb BK139.out | refine blk_far ?_ NB139_158.out _ | refine cn ?_ _ | refine cd ?_ | refine ca ?_ _)⟩
   have n3_ : Aside0 (((((w81.setCell ⟨gb158, 0, none⟩ (.int .u64 t153)).setCell ⟨gb158, 1, none⟩ (.int .u64 t154)).setCell ⟨gb158, 2, none⟩ (.int .u64 t155)).setCell ⟨gb158, 3, none⟩ (.int .u64 t156)).heap[gb140]? = some (.cells #[.bool false, .int .u64 0, .int .u64 0, .int .u64 0, .int .u64 0] 27 (0, 0))) := ⟨by repeat (with_reducible first | exact lb BK140.out | refine blk_far ?_ NB140_158.out _ | refine cn ?_ _ | refine cd ?_ | refine ca ?_ _)⟩
   have n4_ : Aside0 (((((w81.setCell ⟨gb158, 0, none⟩ (.int .u64 t153)).setCell ⟨gb158, 1, none⟩ (.int .u64 t154)).setCell ⟨gb158, 2, none⟩ (.int .u64 t155)).setCell ⟨gb158, 3, none⟩ (.int .u64 t156)).heap[gb150]? = some (.cells #[.int .u64 t142, .int .u64 t143, .int .u64 t144, .int .u64 t145] 25 (0, 0))) := ⟨by repeat (with_reducible first | exact lb BK150.out | refine blk_far ?_ NB150_158.out _ | refine cn ?_ _ | refine cd ?_ | refine ca ?_ _)⟩
   have n5_ : Aside0 (((((w81.setCell ⟨gb158, 0, none⟩ (.int .u64 t153)).setCell ⟨gb158, 1, none⟩ (.int .u64 t154)).setCell ⟨gb158, 2, none⟩ (.int .u64 t155)).setCell ⟨gb158, 3, none⟩ (.int .u64 t156)).heap[gb151]? = some (.cells #[.int .u64 t146, .int .u64 t147, .int .u64 t148, .int .u64 t149] 25 (0, 0))) := ⟨by repeat (with_reducible first | exact lb BK151.out | refine blk_far ?_ NB151_158.out _ | refine cn ?_ _ | refine cd ?_ | refine ca ?_ _)⟩
   have n6_ : Aside0 (((((w81.setCell ⟨gb158, 0, none⟩ (.int .u64 t153)).setCell ⟨gb158, 1, none⟩ (.int .u64 t154)).setCell ⟨gb158, 2, none⟩ (.int .u64 t155)).setCell ⟨gb158, 3, none⟩ (.int .u64 t156)).heap[gb158]? = some (.cells #[.int .u64 t153, .int .u64 t154, .int .u64 t155, .int .u64 t156] 25 (0, 0))) := ⟨by repeat (with_reducible first | exact bp4 (lb BK158.out) | refine cn ?_ _ | refine cd ?_ | refine ca ?_ _)⟩
   have n7_ : Aside0 (Below w.heap.size w ((((w81.setCell ⟨gb158, 0, none⟩ (.int .u64 t153)).setCell ⟨gb158, 1, none⟩ (.int .u64 t154)).setCell ⟨gb158, 2, none⟩ (.int .u64 t155)).setCell ⟨gb158, 3, none⟩ (.int .u64 t156))) := ⟨by repeat (first | (with_reducible first | exact HB.out | apply qa | apply qn | apply qd | refine qs ?_ GE137.out | refine qs ?_ GE138.out | refine qs ?_ GE139.out | refine qs ?_ GE140.out | refine qs ?_ GE150.out | refine qs ?_ GE151.out | refine qs ?_ GE158.out) | exact HB.out)⟩
   (try clear BK137)
   (try clear BK138)
   (try clear BK139)
   (try clear BK140)
   (try clear BK150)
   (try clear BK151)
   (try clear BK158)
   (try clear HB)
   generalize ((((w81.setCell ⟨gb158, 0, none⟩ (.int .u64 t153)).setCell ⟨gb158, 1, none⟩ (.int .u64 t154)).setCell ⟨gb158, 2, none⟩ (.int .u64 t155)).setCell ⟨gb158, 3, none⟩ (.int .u64 t156)) = w89 at n0_ n1_ n2_ n3_ n4_ n5_ n6_ n7_ ⊢
   have BK137 := n0_
   have BK138 := n1_
   have BK139 := n2_
   have BK140 := n3_
   have BK150 := n4_
   have BK151 := n5_
   have BK158 := n6_
   have HB := n7_
   clear n0_ n1_ n2_ n3_ n4_ n5_ n6_ n7_
   have n0_ := Aside0.mk (blk_drew BK137.out)
   have n1_ := Aside0.mk (blk_drew BK138.out)
   have n2_ := Aside0.mk (blk_drew BK139.out)
   have n3_ := Aside0.mk (blk_drew BK140.out)
   have n4_ := Aside0.mk (blk_drew BK150.out)
   have n5_ := Aside0.mk (blk_drew BK151.out)
   have n6_ := Aside0.mk (blk_drew BK158.out)
   have n7_ := Aside0.mk (below_drew1 HB.out)
   clear BK137
   clear BK138
   clear BK139
   clear BK140
   clear BK150
   clear BK151
   clear BK158
   clear HB
   have BK137 := n0_
   have BK138 := n1_
   have BK139 := n2_
   have BK140 := n3_
   have BK150 := n4_
   have BK151 := n5_
   have BK158 := n6_
   have HB := n7_
   clear n0_ n1_ n2_ n3_ n4_ n5_ n6_ n7_
   refine start_ (n := 7) (S := fun w' => w'.cell? ⟨gb158, 0, none⟩ = some (.int .u64 t153) ∧ w'.cell? ⟨gb158, 1, none⟩ = some (.int .u64 t154) ∧ w'.cell? ⟨gb158, 2, none⟩ = some (.int .u64 t155) ∧ w'.cell? ⟨gb158, 3, none⟩ = some (.int .u64 t156) ∧ w'.cell? ⟨gb138, 0, none⟩ = some (.bool a1_0) ∧ w'.cell? ⟨gb138, 1, none⟩ = some (.int .u64 a1_1) ∧ w'.cell? ⟨gb138, 2, none⟩ = some (.int .u64 a1_2) ∧ w'.cell? ⟨gb138, 3, none⟩ = some (.int .u64 a1_3) ∧ w'.cell? ⟨gb138, 4, none⟩ = some (.int .u64 a1_4) ∧ w'.cell? ⟨gb151, 0, none⟩ = some (.int .u64 t146) ∧ w'.cell? ⟨gb151, 1, none⟩ = some (.int .u64 t147) ∧ w'.cell? ⟨gb151, 2, none⟩ = some (.int .u64 t148) ∧ w'.cell? ⟨gb151, 3, none⟩ = some (.int .u64 t149)) (ds := [6]) #[Ff, Ff, Ff, Ff, Ff, Ff, Ff] (by kernel_rfl) rfl rfl ⟨(blk_cell BK158.out 0).trans rfl, (blk_cell BK158.out 1).trans rfl, (blk_cell BK158.out 2).trans rfl, (blk_cell BK158.out 3).trans rfl, (blk_cell BK138.out 0).trans rfl, (blk_cell BK138.out 1).trans rfl, (blk_cell BK138.out 2).trans rfl, (blk_cell BK138.out 3).trans rfl, (blk_cell BK138.out 4).trans rfl, (blk_cell BK151.out 0).trans rfl, (blk_cell BK151.out 1).trans rfl, (blk_cell BK151.out 2).trans rfl, (blk_cell BK151.out 3).trans rfl⟩ (fun hHeld => ?_)
   generalize w89.drew = w90 at BK137 BK138 BK139 BK140 BK150 BK151 BK158 HB hHeld ⊢
   refine pure_ (i := 1) (N := some 42) (v := ?_) (a' := ?_) #[Ff, Tt, Ff, Ff, Ff, Ff, Ff] rfl rfl (by kernel_rfl) (fun _ _ _ h => h) (Or.inl ⟨by rfl, ?_⟩) ?_ ?_
   rotate_left
   ·intro w'
    go_simp
    with_reducible rfl
   rotate_left
   ·simp only [Act.put, List.setIfInBounds_toArray, List.set_cons_zero, List.set_cons_succ, i64_w, i32_w]
    rfl
   refine take_ (i := 0) (N := some 41) (v := ?_) (a' := ?_) #[Tt, Tt, Ff, Ff, Ff, Ff, Ff] rfl rfl (by kernel_rfl) (fun _ _ _ h => h) (Or.inl ⟨by rfl, ?_⟩) hHeld ?_ ?_
   rotate_left
   ·rintro w' ⟨s0, s1, s2, s3, s4, s5, s6, s7, s8, s9, s10, s11, s12⟩
    go_simp
    with_reducible rfl
   rotate_left
   ·simp only [Act.put, List.setIfInBounds_toArray, List.set_cons_zero, List.set_cons_succ, i64_w, i32_w]
    rfl
   refine take_ (i := 2) (N := some 43) (v := ?_) (a' := ?_) #[Tt, Tt, Tt, Ff, Ff, Ff, Ff] rfl rfl (by kernel_rfl) (fun _ _ _ h => h) (Or.inl ⟨by rfl, ?_⟩) hHeld ?_ ?_
   rotate_left
   ·rintro w' ⟨s0, s1, s2, s3, s4, s5, s6, s7, s8, s9, s10, s11, s12⟩
    go_simp
    with_reducible rfl
   rotate_left
   ·simp only [Act.put, List.setIfInBounds_toArray, List.set_cons_zero, List.set_cons_succ, i64_w, i32_w]
    rfl
   refine take_ (i := 3) (N := some 44) (v := ?_) (a' := ?_) #[Tt, Tt, Tt, Tt, Ff, Ff, Ff] rfl rfl (by kernel_rfl) (fun _ _ _ h => h) (Or.inl ⟨by rfl, ?_⟩) hHeld ?_ ?_
   rotate_left
   ·rintro w' ⟨s0, s1, s2, s3, s4, s5, s6, s7, s8, s9, s10, s11, s12⟩
    go_simp
    with_reducible rfl
   rotate_left
   ·simp only [Act.put, List.setIfInBounds_toArray, List.set_cons_zero, List.set_cons_succ, i64_w, i32_w]
    rfl
   refine one_ (i := 4) (N := some 45) #[Tt, Tt, Tt, Tt, Tt, Ff, Ff] rfl rfl (by kernel_rfl) (by decide) (fun K hK => ?_)
   refine goes_ Try.func72 (by kernel_rfl) rfl #[.agg #[.int .u64 a1_1, .int .u64 a1_2, .int .u64 a1_3, .int .u64 a1_4], .agg #[.int .u64 t146, .int .u64 t147, .int .u64 t148, .int .u64 t149]] (by rfl) rfl rfl (by (try simp only [List.map_toArray, List.map_cons, List.map_nil]); first | done | rfl | (simp only [List.length_drop, List.length_take]; rfl)) ?_
   with_reducible refine (wide_less.calls a1_1 a1_2 a1_3 a1_4 t146 t147 t148 t149 t159 t160 t161 t162 _ A71.out).mono ?_
   rintro e w91 ⟨rfl, hb⟩
   refine ⟨_, rfl, ?_⟩
   have n0_ := bb BK137 hb
   have n1_ := bb BK138 hb
   have n2_ := bb BK139 hb
   have n3_ := bb BK140 hb
   have n4_ := bb BK150 hb
   have n5_ := bb BK151 hb
   have n6_ := bb BK158 hb
   have n7_ := Aside0.mk (below_step (by repeat (first | (with_reducible first | exact HB.out | apply qa | apply qn | apply qd | refine qs ?_ GE137.out | refine qs ?_ GE138.out | refine qs ?_ GE139.out | refine qs ?_ GE140.out | refine qs ?_ GE150.out | refine qs ?_ GE151.out | refine qs ?_ GE158.out) | exact HB.out)) hb)
   clear BK137
   clear BK138
   clear BK139
   clear BK140
   clear BK150
   clear BK151
   clear BK158
   clear HB
   have BK137 := n0_
   have BK138 := n1_
   have BK139 := n2_
   have BK140 := n3_
   have BK150 := n4_
   have BK151 := n5_
   have BK158 := n6_
   have HB := n7_
   clear n0_ n1_ n2_ n3_ n4_ n5_ n6_ n7_
   (try clear hb)
   (try clear hb2)
   (try clear hk)
   (try clear hi)
   refine hK.out _ _ ⟨(blk_cell BK158.out 0).trans rfl, (blk_cell BK158.out 1).trans rfl, (blk_cell BK158.out 2).trans rfl, (blk_cell BK158.out 3).trans rfl, (blk_cell BK138.out 0).trans rfl, (blk_cell BK138.out 1).trans rfl, (blk_cell BK138.out 2).trans rfl, (blk_cell BK138.out 3).trans rfl, (blk_cell BK138.out 4).trans rfl, (blk_cell BK151.out 0).trans rfl, (blk_cell BK151.out 1).trans rfl, (blk_cell BK151.out 2).trans rfl, (blk_cell BK151.out 3).trans rfl⟩ (fun hHeld => ?_)
   clear hK K
   refine norm_ (a' := ?_) ?_ ?_
   rotate_left
   ·show Act.put _ (some 45) _ = _
    simp only [Act.put, List.setIfInBounds_toArray, List.set_cons_zero, List.set_cons_succ, i64_w, i32_w]
    rfl
   refine one_ (i := 5) (N := none) #[Tt, Tt, Tt, Tt, Tt, Tt, Ff] rfl rfl (by kernel_rfl) (by decide) (fun K hK => ?_)
   have hs92 : w91.cell? ⟨gb150, 0, none⟩ = some (.int .u64 t142) := (blk_cell BK150.out 0).trans rfl
   have hfs92 := blk_frozen BK150.out 0
   have hns92_0 := NB137_150.out
   have hns92_1 := NB138_150.out
   have hns92_2 := NB139_150.out
   have hns92_3 := NB140_150.out
   have hns92_5 := NB151_150.out
   have hns92_6 := NB158_150.out
   have hms92_0 := NB150_137.out
   have hms92_1 := NB150_138.out
   have hms92_2 := NB150_139.out
   have hms92_3 := NB150_140.out
   have hms92_5 := NB150_151.out
   have hms92_6 := NB150_158.out
   have hs93 : w91.cell? ⟨gb150, 1, none⟩ = some (.int .u64 t143) := (blk_cell BK150.out 1).trans rfl
   have hfs93 := blk_frozen BK150.out 1
   have hns93_0 := NB137_150.out
   have hns93_1 := NB138_150.out
   have hns93_2 := NB139_150.out
   have hns93_3 := NB140_150.out
   have hns93_5 := NB151_150.out
   have hns93_6 := NB158_150.out
   have hms93_0 := NB150_137.out
   have hms93_1 := NB150_138.out
   have hms93_2 := NB150_139.out
   have hms93_3 := NB150_140.out
   have hms93_5 := NB150_151.out
   have hms93_6 := NB150_158.out
   have hs94 : w91.cell? ⟨gb150, 2, none⟩ = some (.int .u64 t144) := (blk_cell BK150.out 2).trans rfl
   have hfs94 := blk_frozen BK150.out 2
   have hns94_0 := NB137_150.out
   have hns94_1 := NB138_150.out
   have hns94_2 := NB139_150.out
   have hns94_3 := NB140_150.out
   have hns94_5 := NB151_150.out
   have hns94_6 := NB158_150.out
   have hms94_0 := NB150_137.out
   have hms94_1 := NB150_138.out
   have hms94_2 := NB150_139.out
   have hms94_3 := NB150_140.out
   have hms94_5 := NB150_151.out
   have hms94_6 := NB150_158.out
   have hs95 : w91.cell? ⟨gb150, 3, none⟩ = some (.int .u64 t145) := (blk_cell BK150.out 3).trans rfl
   have hfs95 := blk_frozen BK150.out 3
   have hns95_0 := NB137_150.out
   have hns95_1 := NB138_150.out
   have hns95_2 := NB139_150.out
   have hns95_3 := NB140_150.out
   have hns95_5 := NB151_150.out
   have hns95_6 := NB158_150.out
   have hms95_0 := NB150_137.out
   have hms95_1 := NB150_138.out
   have hms95_2 := NB150_139.out
   have hms95_3 := NB150_140.out
   have hms95_5 := NB150_151.out
   have hms95_6 := NB150_158.out
   refine skip_ (w1 := ?_) (by rfl) rfl ?_ ?_
   rotate_left
   ·go_simp
    rfl
   refine hK.out _ _ ⟨(cf4 NB158_150.out hHeld.1), (cf4 NB158_150.out hHeld.2.1), (cf4 NB158_150.out hHeld.2.2.1), (cf4 NB158_150.out hHeld.2.2.2.1), (cf4 NB138_150.out hHeld.2.2.2.2.1), (cf4 NB138_150.out hHeld.2.2.2.2.2.1), (cf4 NB138_150.out hHeld.2.2.2.2.2.2.1), (cf4 NB138_150.out hHeld.2.2.2.2.2.2.2.1), (cf4 NB138_150.out hHeld.2.2.2.2.2.2.2.2.1), (cf4 NB151_150.out hHeld.2.2.2.2.2.2.2.2.2.1), (cf4 NB151_150.out hHeld.2.2.2.2.2.2.2.2.2.2.1), (cf4 NB151_150.out hHeld.2.2.2.2.2.2.2.2.2.2.2.1), (cf4 NB151_150.out hHeld.2.2.2.2.2.2.2.2.2.2.2.2)⟩ (fun hHeld => ?_)
   clear hK K
   refine last_ (i := 6) (N := none) #[Tt, Tt, Tt, Tt, Tt, Tt, Tt] rfl rfl (by kernel_rfl) (by decide) (fun K hK => ?_)
   have hs96 : w91.cell? ⟨gb151, 0, none⟩ = some (.int .u64 t146) := (blk_cell BK151.out 0).trans rfl
   have hfs96 := blk_frozen BK151.out 0
   have hns96_0 := NB137_151.out
   have hns96_1 := NB138_151.out
   have hns96_2 := NB139_151.out
   have hns96_3 := NB140_151.out
   have hns96_4 := NB150_151.out
   have hns96_6 := NB158_151.out
   have hms96_0 := NB151_137.out
   have hms96_1 := NB151_138.out
   have hms96_2 := NB151_139.out
   have hms96_3 := NB151_140.out
   have hms96_4 := NB151_150.out
   have hms96_6 := NB151_158.out
   have hs97 : w91.cell? ⟨gb151, 1, none⟩ = some (.int .u64 t147) := (blk_cell BK151.out 1).trans rfl
   have hfs97 := blk_frozen BK151.out 1
   have hns97_0 := NB137_151.out
   have hns97_1 := NB138_151.out
   have hns97_2 := NB139_151.out
   have hns97_3 := NB140_151.out
   have hns97_4 := NB150_151.out
   have hns97_6 := NB158_151.out
   have hms97_0 := NB151_137.out
   have hms97_1 := NB151_138.out
   have hms97_2 := NB151_139.out
   have hms97_3 := NB151_140.out
   have hms97_4 := NB151_150.out
   have hms97_6 := NB151_158.out
   have hs98 : w91.cell? ⟨gb151, 2, none⟩ = some (.int .u64 t148) := (blk_cell BK151.out 2).trans rfl
   have hfs98 := blk_frozen BK151.out 2
   have hns98_0 := NB137_151.out
   have hns98_1 := NB138_151.out
   have hns98_2 := NB139_151.out
   have hns98_3 := NB140_151.out
   have hns98_4 := NB150_151.out
   have hns98_6 := NB158_151.out
   have hms98_0 := NB151_137.out
   have hms98_1 := NB151_138.out
   have hms98_2 := NB151_139.out
   have hms98_3 := NB151_140.out
   have hms98_4 := NB151_150.out
   have hms98_6 := NB151_158.out
   have hs99 : w91.cell? ⟨gb151, 3, none⟩ = some (.int .u64 t149) := (blk_cell BK151.out 3).trans rfl
   have hfs99 := blk_frozen BK151.out 3
   have hns99_0 := NB137_151.out
   have hns99_1 := NB138_151.out
   have hns99_2 := NB139_151.out
   have hns99_3 := NB140_151.out
   have hns99_4 := NB150_151.out
   have hns99_6 := NB158_151.out
   have hms99_0 := NB151_137.out
   have hms99_1 := NB151_138.out
   have hms99_2 := NB151_139.out
   have hms99_3 := NB151_140.out
   have hms99_4 := NB151_150.out
   have hms99_6 := NB151_158.out
   refine skip_ (w1 := ?_) (by rfl) rfl ?_ ?_
   rotate_left
   ·go_simp
    rfl
   refine hK.out _ _ ?_
   clear hK K
   refine done_ (by kernel_rfl) ?_
   try go_wp2
   have n0_ : Aside0 (((((((((w91.setCell ⟨gb150, 0, none⟩ (.int .u64 t153)).setCell ⟨gb150, 1, none⟩ (.int .u64 t154)).setCell ⟨gb150, 2, none⟩ (.int .u64 t155)).setCell ⟨gb150, 3, none⟩ (.int .u64 t156)).setCell ⟨gb151, 0, none⟩ (.int .u64 t159)).setCell ⟨gb151, 1, none⟩ (.int .u64 t160)).setCell ⟨gb151, 2, none⟩ (.int .u64 t161)).setCell ⟨gb151, 3, none⟩ (.int .u64 t162)).heap[gb137]? = some (.cells #[.bool a0_0, .int .u64 a0_1, .int .u64 a0_2, .int .u64 a0_3, .int .u64 a0_4] 27 (0, 0))) := ⟨by repeat (with_reducible first | exact lb BK137.out | refine blk_far ?_ NB137_151.out _ | refine blk_far ?_ NB137_150.out _ | refine cn ?_ _ | refine cd ?_ | refine ca ?_ _)⟩
   have n1_ : Aside0 (((((((((w91.setCell ⟨gb150, 0, none⟩ (.int .u64 t153)).setCell ⟨gb150, 1, none⟩ (.int .u64 t154)).setCell ⟨gb150, 2, none⟩ (.int .u64 t155)).setCell ⟨gb150, 3, none⟩ (.int .u64 t156)).setCell ⟨gb151, 0, none⟩ (.int .u64 t159)).setCell ⟨gb151, 1, none⟩ (.int .u64 t160)).setCell ⟨gb151, 2, none⟩ (.int .u64 t161)).setCell ⟨gb151, 3, none⟩ (.int .u64 t162)).heap[gb138]? = some (.cells #[.bool a1_0, .int .u64 a1_1, .int .u64 a1_2, .int .u64 a1_3, .int .u64 a1_4] 27 (0, 0))) := ⟨by repeat (with_reducible first | exact lb BK138.out | refine blk_far ?_ NB138_151.out _ | refine blk_far ?_ NB138_150.out _ | refine cn ?_ _ | refine cd ?_ | refine ca ?_ _)⟩
   have n2_ : Aside0 (((((((((w91.setCell ⟨gb150, 0, none⟩ (.int .u64 t153)).setCell ⟨gb150, 1, none⟩ (.int .u64 t154)).setCell ⟨gb150, 2, none⟩ (.int .u64 t155)).setCell ⟨gb150, 3, none⟩ (.int .u64 t156)).setCell ⟨gb151, 0, none⟩ (.int .u64 t159)).setCell ⟨gb151, 1, none⟩ (.int .u64 t160)).setCell ⟨gb151, 2, none⟩ (.int .u64 t161)).setCell ⟨gb151, 3, none⟩ (.int .u64 t162)).heap[gb139]? = some (.cells #[.bool false, .int .u64 0, .int .u64 0, .int .u64 0, .int .u64 0] 27 (0, 0))) := ⟨by repeat (with_reducible first | exact lb BK139.out | refine blk_far ?_ NB139_151.out _ | refine blk_far ?_ NB139_150.out _ | refine cn ?_ _ | refine cd ?_ | refine ca ?_ _)⟩
   have n3_ : Aside0 (((((((((w91.setCell ⟨gb150, 0, none⟩ (.int .u64 t153)).setCell ⟨gb150, 1, none⟩ (.int .u64 t154)).setCell ⟨gb150, 2, none⟩ (.int .u64 t155)).setCell ⟨gb150, 3, none⟩ (.int .u64 t156)).setCell ⟨gb151, 0, none⟩ (.int .u64 t159)).setCell ⟨gb151, 1, none⟩ (.int .u64 t160)).setCell ⟨gb151, 2, none⟩ (.int .u64 t161)).setCell ⟨gb151, 3, none⟩ (.int .u64 t162)).heap[gb140]? = some (.cells #[.bool false, .int .u64 0, .int .u64 0, .int .u64 0, .int .u64 0] 27 (0, 0))) := ⟨by repeat (with_reducible first | exact lb BK140.out | refine blk_far ?_ NB140_151.out _ | refine blk_far ?_ NB140_150.out _ | refine cn ?_ _ | refine cd ?_ | refine ca ?_ _)⟩
   have n4_ : Aside0 (((((((((w91.setCell ⟨gb150, 0, none⟩ (.int .u64 t153)).setCell ⟨gb150, 1, none⟩ (.int .u64 t154)).setCell ⟨gb150, 2, none⟩ (.int .u64 t155)).setCell ⟨gb150, 3, none⟩ (.int .u64 t156)).setCell ⟨gb151, 0, none⟩ (.int .u64 t159)).setCell ⟨gb151, 1, none⟩ (.int .u64 t160)).setCell ⟨gb151, 2, none⟩ (.int .u64 t161)).setCell ⟨gb151, 3, none⟩ (.int .u64 t162)).heap[gb150]? = some (.cells #[.int .u64 t153, .int .u64 t154, .int .u64 t155, .int .u64 t156] 25 (0, 0))) := ⟨by repeat (with_reducible first | exact bp4 (lb BK150.out) | refine blk_far ?_ NB150_151.out _ | refine cn ?_ _ | refine cd ?_ | refine ca ?_ _)⟩
   have n5_ : Aside0 (((((((((w91.setCell ⟨gb150, 0, none⟩ (.int .u64 t153)).setCell ⟨gb150, 1, none⟩ (.int .u64 t154)).setCell ⟨gb150, 2, none⟩ (.int .u64 t155)).setCell ⟨gb150, 3, none⟩ (.int .u64 t156)).setCell ⟨gb151, 0, none⟩ (.int .u64 t159)).setCell ⟨gb151, 1, none⟩ (.int .u64 t160)).setCell ⟨gb151, 2, none⟩ (.int .u64 t161)).setCell ⟨gb151, 3, none⟩ (.int .u64 t162)).heap[gb151]? = some (.cells #[.int .u64 t159, .int .u64 t160, .int .u64 t161, .int .u64 t162] 25 (0, 0))) := ⟨by (with_reducible repeat (first | refine cn ?_ _ | refine cd ?_ | refine ca ?_ _)); refine blk_put (cs := #[.int .u64 t159, .int .u64 t160, .int .u64 t161, .int .u64 t149]) ?_ 3 _ rfl; (with_reducible repeat (first | refine cn ?_ _ | refine cd ?_ | refine ca ?_ _)); refine blk_put (cs := #[.int .u64 t159, .int .u64 t160, .int .u64 t148, .int .u64 t149]) ?_ 2 _ rfl; (with_reducible repeat (first | refine cn ?_ _ | refine cd ?_ | refine ca ?_ _)); refine blk_put (cs := #[.int .u64 t159, .int .u64 t147, .int .u64 t148, .int .u64 t149]) ?_ 1 _ rfl; (with_reducible repeat (first | refine cn ?_ _ | refine cd ?_ | refine ca ?_ _)); refine blk_put (cs := #[.int .u64 t146, .int .u64 t147, .int .u64 t148, .int .u64 t149]) ?_ 0 _ rfl; (with_reducible repeat (first | refine cn ?_ _ | refine cd ?_ | refine ca ?_ _)); refine blk_far ?_ NB151_150.out _; (with_reducible repeat (first | refine cn ?_ _ | refine cd ?_ | refine ca ?_ _)); refine blk_far ?_ NB151_150.out _; (with_reducible repeat (first | refine cn ?_ _ | refine cd ?_ | refine ca ?_ _)); refine blk_far ?_ NB151_150.out _; (with_reducible repeat (first | refine cn ?_ _ | refine cd ?_ | refine ca ?_ _)); refine blk_far ?_ NB151_150.out _; (with_reducible repeat (first | refine cn ?_ _ | refine cd ?_ | refine ca ?_ _)); exact BK151.out⟩
   have n6_ : Aside0 (((((((((w91.setCell ⟨gb150, 0, none⟩ (.int .u64 t153)).setCell ⟨gb150, 1, none⟩ (.int .u64 t154)).setCell ⟨gb150, 2, none⟩ (.int .u64 t155)).setCell ⟨gb150, 3, none⟩ (.int .u64 t156)).setCell ⟨gb151, 0, none⟩ (.int .u64 t159)).setCell ⟨gb151, 1, none⟩ (.int .u64 t160)).setCell ⟨gb151, 2, none⟩ (.int .u64 t161)).setCell ⟨gb151, 3, none⟩ (.int .u64 t162)).heap[gb158]? = some (.cells #[.int .u64 t153, .int .u64 t154, .int .u64 t155, .int .u64 t156] 25 (0, 0))) := ⟨by repeat (with_reducible first | exact lb BK158.out | refine blk_far ?_ NB158_151.out _ | refine blk_far ?_ NB158_150.out _ | refine cn ?_ _ | refine cd ?_ | refine ca ?_ _)⟩
   have n7_ : Aside0 (Below w.heap.size w ((((((((w91.setCell ⟨gb150, 0, none⟩ (.int .u64 t153)).setCell ⟨gb150, 1, none⟩ (.int .u64 t154)).setCell ⟨gb150, 2, none⟩ (.int .u64 t155)).setCell ⟨gb150, 3, none⟩ (.int .u64 t156)).setCell ⟨gb151, 0, none⟩ (.int .u64 t159)).setCell ⟨gb151, 1, none⟩ (.int .u64 t160)).setCell ⟨gb151, 2, none⟩ (.int .u64 t161)).setCell ⟨gb151, 3, none⟩ (.int .u64 t162))) := ⟨by repeat (first | (with_reducible first | exact HB.out | apply qa | apply qn | apply qd | refine qs ?_ GE137.out | refine qs ?_ GE138.out | refine qs ?_ GE139.out | refine qs ?_ GE140.out | refine qs ?_ GE150.out | refine qs ?_ GE151.out | refine qs ?_ GE158.out) | exact HB.out)⟩
   (try clear BK137)
   (try clear BK138)
   (try clear BK139)
   (try clear BK140)
   (try clear BK150)
   (try clear BK151)
   (try clear BK158)
   (try clear HB)
   generalize ((((((((w91.setCell ⟨gb150, 0, none⟩ (.int .u64 t153)).setCell ⟨gb150, 1, none⟩ (.int .u64 t154)).setCell ⟨gb150, 2, none⟩ (.int .u64 t155)).setCell ⟨gb150, 3, none⟩ (.int .u64 t156)).setCell ⟨gb151, 0, none⟩ (.int .u64 t159)).setCell ⟨gb151, 1, none⟩ (.int .u64 t160)).setCell ⟨gb151, 2, none⟩ (.int .u64 t161)).setCell ⟨gb151, 3, none⟩ (.int .u64 t162)) = w100 at n0_ n1_ n2_ n3_ n4_ n5_ n6_ n7_ ⊢
   have BK137 := n0_
   have BK138 := n1_
   have BK139 := n2_
   have BK140 := n3_
   have BK150 := n4_
   have BK151 := n5_
   have BK158 := n6_
   have HB := n7_
   clear n0_ n1_ n2_ n3_ n4_ n5_ n6_ n7_
   have n0_ := Aside0.mk (blk_drew BK137.out)
   have n1_ := Aside0.mk (blk_drew BK138.out)
   have n2_ := Aside0.mk (blk_drew BK139.out)
   have n3_ := Aside0.mk (blk_drew BK140.out)
   have n4_ := Aside0.mk (blk_drew BK150.out)
   have n5_ := Aside0.mk (blk_drew BK151.out)
   have n6_ := Aside0.mk (blk_drew BK158.out)
   have n7_ := Aside0.mk (below_drew1 HB.out)
   clear BK137
   clear BK138
   clear BK139
   clear BK140
   clear BK150
   clear BK151
   clear BK158
   clear HB
   have BK137 := n0_
   have BK138 := n1_
   have BK139 := n2_
   have BK140 := n3_
   have BK150 := n4_
   have BK151 := n5_
   have BK158 := n6_
   have HB := n7_
   clear n0_ n1_ n2_ n3_ n4_ n5_ n6_ n7_
   refine start_ (n := 12) (S := fun w' => w'.cell? ⟨gb137, 0, none⟩ = some (.bool a0_0) ∧ w'.cell? ⟨gb137, 1, none⟩ = some (.int .u64 a0_1) ∧ w'.cell? ⟨gb137, 2, none⟩ = some (.int .u64 a0_2) ∧ w'.cell? ⟨gb137, 3, none⟩ = some (.int .u64 a0_3) ∧ w'.cell? ⟨gb137, 4, none⟩ = some (.int .u64 a0_4) ∧ w'.cell? ⟨gb138, 0, none⟩ = some (.bool a1_0) ∧ w'.cell? ⟨gb138, 1, none⟩ = some (.int .u64 a1_1) ∧ w'.cell? ⟨gb138, 2, none⟩ = some (.int .u64 a1_2) ∧ w'.cell? ⟨gb138, 3, none⟩ = some (.int .u64 a1_3) ∧ w'.cell? ⟨gb138, 4, none⟩ = some (.int .u64 a1_4) ∧ w'.cell? ⟨gb150, 0, none⟩ = some (.int .u64 t153) ∧ w'.cell? ⟨gb150, 1, none⟩ = some (.int .u64 t154) ∧ w'.cell? ⟨gb150, 2, none⟩ = some (.int .u64 t155) ∧ w'.cell? ⟨gb150, 3, none⟩ = some (.int .u64 t156) ∧ w'.cell? ⟨gb151, 0, none⟩ = some (.int .u64 t159) ∧ w'.cell? ⟨gb151, 1, none⟩ = some (.int .u64 t160) ∧ w'.cell? ⟨gb151, 2, none⟩ = some (.int .u64 t161) ∧ w'.cell? ⟨gb151, 3, none⟩ = some (.int .u64 t162)) (ds := []) #[Ff, Ff, Ff, Ff, Ff, Ff, Ff, Ff, Ff, Ff, Ff, Ff] (by kernel_rfl) rfl rfl ⟨(blk_cell BK137.out 0).trans rfl, (blk_cell BK137.out 1).trans rfl, (blk_cell BK137.out 2).trans rfl, (blk_cell BK137.out 3).trans rfl, (blk_cell BK137.out 4).trans rfl, (blk_cell BK138.out 0).trans rfl, (blk_cell BK138.out 1).trans rfl, (blk_cell BK138.out 2).trans rfl, (blk_cell BK138.out 3).trans rfl, (blk_cell BK138.out 4).trans rfl, (blk_cell BK150.out 0).trans rfl, (blk_cell BK150.out 1).trans rfl, (blk_cell BK150.out 2).trans rfl, (blk_cell BK150.out 3).trans rfl, (blk_cell BK151.out 0).trans rfl, (blk_cell BK151.out 1).trans rfl, (blk_cell BK151.out 2).trans rfl, (blk_cell BK151.out 3).trans rfl⟩ (fun hHeld => ?_); refine with_tabW wide_DivMod.tab9 wide_DivMod.bits9 (fun HT_ HW_ => ?_)
   generalize w100.drew = w101 at BK137 BK138 BK139 BK140 BK150 BK151 BK158 HB hHeld ⊢
   refine pure_ (i := 0) (N := some 46) (v := ?_) (a' := ?_) #[Tt, Ff, Ff, Ff, Ff, Ff, Ff, Ff, Ff, Ff, Ff, Ff] rfl rfl (any_of HT_.out (by kernel_rfl)) (fun _ _ _ h => h) (Or.inl ⟨by rfl, ?_⟩) ?_ ?_
   rotate_left
   ·intro w'
    go_simp
    with_reducible rfl
   rotate_left
   ·simp only [Act.put, List.setIfInBounds_toArray, List.set_cons_zero, List.set_cons_succ, i64_w, i32_w]
    rfl
   refine pure_ (i := 2) (N := some 48) (v := ?_) (a' := ?_) #[Tt, Ff, Tt, Ff, Ff, Ff, Ff, Ff, Ff, Ff, Ff, Ff] rfl rfl (any_of HT_.out (by kernel_rfl)) (fun _ _ _ h => h) (Or.inl ⟨by rfl, ?_⟩) ?_ ?_
   rotate_left
   ·intro w'
    go_simp
    with_reducible rfl
   rotate_left
   ·simp only [Act.put, List.setIfInBounds_toArray, List.set_cons_zero, List.set_cons_succ, i64_w, i32_w]
    rfl
   refine take_ (i := 1) (N := some 47) (v := ?_) (a' := ?_) #[Tt, Tt, Tt, Ff, Ff, Ff, Ff, Ff, Ff, Ff, Ff, Ff] rfl rfl (take_ofW HT_.out HW_.out (by kernel_rfl)) (fun _ _ _ h => h) (Or.inl ⟨by rfl, ?_⟩) hHeld ?_ ?_
   rotate_left
   ·rintro w' ⟨s0, s1, s2, s3, s4, s5, s6, s7, s8, s9, s10, s11, s12, s13, s14, s15, s16, s17⟩
    go_simp
    with_reducible rfl
   rotate_left
   ·simp only [Act.put, List.setIfInBounds_toArray, List.set_cons_zero, List.set_cons_succ, i64_w, i32_w]
    rfl
   refine take_ (i := 3) (N := some 49) (v := ?_) (a' := ?_) #[Tt, Tt, Tt, Tt, Ff, Ff, Ff, Ff, Ff, Ff, Ff, Ff] rfl rfl (take_ofW HT_.out HW_.out (by kernel_rfl)) (fun _ _ _ h => h) (Or.inl ⟨by rfl, ?_⟩) hHeld ?_ ?_
   rotate_left
   ·rintro w' ⟨s0, s1, s2, s3, s4, s5, s6, s7, s8, s9, s10, s11, s12, s13, s14, s15, s16, s17⟩
    go_simp
    with_reducible rfl
   rotate_left
   ·simp only [Act.put, List.setIfInBounds_toArray, List.set_cons_zero, List.set_cons_succ, i64_w, i32_w]
    rfl
   refine pure_ (i := 4) (N := some 50) (v := ?_) (a' := ?_) #[Tt, Tt, Tt, Tt, Tt, Ff, Ff, Ff, Ff, Ff, Ff, Ff] rfl rfl (any_of HT_.out (by kernel_rfl)) (fun _ _ _ h => h) (Or.inl ⟨by rfl, ?_⟩) ?_ ?_
   rotate_left
   ·intro w'
    go_simp
    with_reducible rfl
   rotate_left
   ·simp only [Act.put, List.setIfInBounds_toArray, List.set_cons_zero, List.set_cons_succ, i64_w, i32_w]
    rfl
   refine take_ (i := 5) (N := some 51) (v := ?_) (a' := ?_) #[Tt, Tt, Tt, Tt, Tt, Tt, Ff, Ff, Ff, Ff, Ff, Ff] rfl rfl (take_ofW HT_.out HW_.out (by kernel_rfl)) (fun _ _ _ h => h) (Or.inl ⟨by rfl, ?_⟩) hHeld ?_ ?_
   rotate_left
   ·rintro w' ⟨s0, s1, s2, s3, s4, s5, s6, s7, s8, s9, s10, s11, s12, s13, s14, s15, s16, s17⟩
    go_simp
    with_reducible rfl
   rotate_left
   ·simp only [Act.put, List.setIfInBounds_toArray, List.set_cons_zero, List.set_cons_succ, i64_w, i32_w]
    rfl
   refine take_ (i := 7) (N := some 53) (v := ?_) (a' := ?_) #[Tt, Tt, Tt, Tt, Tt, Tt, Ff, Tt, Ff, Ff, Ff, Ff] rfl rfl (take_ofW HT_.out HW_.out (by kernel_rfl)) (fun _ _ _ h => h) (Or.inl ⟨by rfl, ?_⟩) hHeld ?_ ?_
   rotate_left
   ·rintro w' ⟨s0, s1, s2, s3, s4, s5, s6, s7, s8, s9, s10, s11, s12, s13, s14, s15, s16, s17⟩
    go_simp
    with_reducible rfl
   rotate_left
   ·simp only [Act.put, List.setIfInBounds_toArray, List.set_cons_zero, List.set_cons_succ, i64_w, i32_w]
    rfl
   refine one_ (i := 6) (N := some 52) #[Tt, Tt, Tt, Tt, Tt, Tt, Tt, Tt, Ff, Ff, Ff, Ff] rfl rfl (one_of HT_.out (by kernel_rfl)) (by decide) (fun K hK => ?_)
   refine goes_ Try.func67 (by kernel_rfl) rfl #[.bool (!(a0_0 == a1_0)), .agg #[.int .u64 t153, .int .u64 t154, .int .u64 t155, .int .u64 t156]] (by rfl) rfl rfl (by (try simp only [List.map_toArray, List.map_cons, List.map_nil]); first | done | rfl | (simp only [List.length_drop, List.length_take]; rfl)) ?_
   with_reducible refine (wide_of.calls (!(a0_0 == a1_0)) t153 t154 t155 t156 t163 t164 t165 t166 t167 _ A72.out).mono ?_
   rintro e w102 ⟨rfl, hb⟩
   refine ⟨_, rfl, ?_⟩
   have n0_ := bb BK137 hb
   have n1_ := bb BK138 hb
   have n2_ := bb BK139 hb
   have n3_ := bb BK140 hb
   have n4_ := bb BK150 hb
   have n5_ := bb BK151 hb
   have n6_ := bb BK158 hb
   have n7_ := Aside0.mk (below_step (by repeat (first | (with_reducible first | exact HB.out | apply qa | apply qn | apply qd | refine qs ?_ GE137.out | refine qs ?_ GE138.out | refine qs ?_ GE139.out | refine qs ?_ GE140.out | refine qs ?_ GE150.out | refine qs ?_ GE151.out | refine qs ?_ GE158.out) | exact HB.out)) hb)
   clear BK137
   clear BK138
   clear BK139
   clear BK140
   clear BK150
   clear BK151
   clear BK158
   clear HB
   have BK137 := n0_
   have BK138 := n1_
   have BK139 := n2_
   have BK140 := n3_
   have BK150 := n4_
   have BK151 := n5_
   have BK158 := n6_
   have HB := n7_
   clear n0_ n1_ n2_ n3_ n4_ n5_ n6_ n7_
   (try clear hb)
   (try clear hb2)
   (try clear hk)
   (try clear hi)
   refine hK.out _ _ ⟨(blk_cell BK137.out 0).trans rfl, (blk_cell BK137.out 1).trans rfl, (blk_cell BK137.out 2).trans rfl, (blk_cell BK137.out 3).trans rfl, (blk_cell BK137.out 4).trans rfl, (blk_cell BK138.out 0).trans rfl, (blk_cell BK138.out 1).trans rfl, (blk_cell BK138.out 2).trans rfl, (blk_cell BK138.out 3).trans rfl, (blk_cell BK138.out 4).trans rfl, (blk_cell BK150.out 0).trans rfl, (blk_cell BK150.out 1).trans rfl, (blk_cell BK150.out 2).trans rfl, (blk_cell BK150.out 3).trans rfl, (blk_cell BK151.out 0).trans rfl, (blk_cell BK151.out 1).trans rfl, (blk_cell BK151.out 2).trans rfl, (blk_cell BK151.out 3).trans rfl⟩ (fun hHeld => ?_)
   clear hK K
   refine norm_ (a' := ?_) ?_ ?_
   rotate_left
   ·show Act.put _ (some 52) _ = _
    simp only [Act.put, List.setIfInBounds_toArray, List.set_cons_zero, List.set_cons_succ, i64_w, i32_w]
    rfl
   refine one_ (i := 8) (N := some 54) #[Tt, Tt, Tt, Tt, Tt, Tt, Tt, Tt, Tt, Ff, Ff, Ff] rfl rfl (one_of HT_.out (by kernel_rfl)) (by decide) (fun K hK => ?_)
   refine goes_ Try.func67 (by kernel_rfl) rfl #[.bool false, .agg #[.int .u64 t159, .int .u64 t160, .int .u64 t161, .int .u64 t162]] (by rfl) rfl rfl (by (try simp only [List.map_toArray, List.map_cons, List.map_nil]); first | done | rfl | (simp only [List.length_drop, List.length_take]; rfl)) ?_
   with_reducible refine (wide_of.calls false t159 t160 t161 t162 t168 t169 t170 t171 t172 _ A73.out).mono ?_
   rintro e w103 ⟨rfl, hb⟩
   refine ⟨_, rfl, ?_⟩
   have n0_ := bb BK137 hb
   have n1_ := bb BK138 hb
   have n2_ := bb BK139 hb
   have n3_ := bb BK140 hb
   have n4_ := bb BK150 hb
   have n5_ := bb BK151 hb
   have n6_ := bb BK158 hb
   have n7_ := Aside0.mk (below_step (by repeat (first | (with_reducible first | exact HB.out | apply qa | apply qn | apply qd | refine qs ?_ GE137.out | refine qs ?_ GE138.out | refine qs ?_ GE139.out | refine qs ?_ GE140.out | refine qs ?_ GE150.out | refine qs ?_ GE151.out | refine qs ?_ GE158.out) | exact HB.out)) hb)
   clear BK137
   clear BK138
   clear BK139
   clear BK140
   clear BK150
   clear BK151
   clear BK158
   clear HB
   have BK137 := n0_
   have BK138 := n1_
   have BK139 := n2_
   have BK140 := n3_
   have BK150 := n4_
   have BK151 := n5_
   have BK158 := n6_
   have HB := n7_
   clear n0_ n1_ n2_ n3_ n4_ n5_ n6_ n7_
   (try clear hb)
   (try clear hb2)
   (try clear hk)
   (try clear hi)
   refine hK.out _ _ ⟨(blk_cell BK137.out 0).trans rfl, (blk_cell BK137.out 1).trans rfl, (blk_cell BK137.out 2).trans rfl, (blk_cell BK137.out 3).trans rfl, (blk_cell BK137.out 4).trans rfl, (blk_cell BK138.out 0).trans rfl, (blk_cell BK138.out 1).trans rfl, (blk_cell BK138.out 2).trans rfl, (blk_cell BK138.out 3).trans rfl, (blk_cell BK138.out 4).trans rfl, (blk_cell BK150.out 0).trans rfl, (blk_cell BK150.out 1).trans rfl, (blk_cell BK150.out 2).trans rfl, (blk_cell BK150.out 3).trans rfl, (blk_cell BK151.out 0).trans rfl, (blk_cell BK151.out 1).trans rfl, (blk_cell BK151.out 2).trans rfl, (blk_cell BK151.out 3).trans rfl⟩ (fun hHeld => ?_)
   clear hK K
   refine norm_ (a' := ?_) ?_ ?_
   rotate_left
   ·show Act.put _ (some 54) _ = _
    simp only [Act.put, List.setIfInBounds_toArray, List.set_cons_zero, List.set_cons_succ, i64_w, i32_w]
    rfl
   refine one_ (i := 9) (N := none) #[Tt, Tt, Tt, Tt, Tt, Tt, Tt, Tt, Tt, Tt, Ff, Ff] rfl rfl (one_of HT_.out (by kernel_rfl)) (by decide) (fun K hK => ?_)
   have hs104 : w103.cell? ⟨gb139, 0, none⟩ = some (.bool false) := (blk_cell BK139.out 0).trans rfl
   have hfs104 := blk_frozen BK139.out 0
   have hns104_0 := NB137_139.out
   have hns104_1 := NB138_139.out
   have hns104_3 := NB140_139.out
   have hns104_4 := NB150_139.out
   have hns104_5 := NB151_139.out
   have hns104_6 := NB158_139.out
   have hms104_0 := NB139_137.out
   have hms104_1 := NB139_138.out
   have hms104_3 := NB139_140.out
   have hms104_4 := NB139_150.out
   have hms104_5 := NB139_151.out
   have hms104_6 := NB139_158.out
   have hs105 : w103.cell? ⟨gb139, 1, none⟩ = some (.int .u64 0) := (blk_cell BK139.out 1).trans rfl
   have hfs105 := blk_frozen BK139.out 1
   have hns105_0 := NB137_139.out
   have hns105_1 := NB138_139.out
   have hns105_3 := NB140_139.out
   have hns105_4 := NB150_139.out
   have hns105_5 := NB151_139.out
   have hns105_6 := NB158_139.out
   have hms105_0 := NB139_137.out
   have hms105_1 := NB139_138.out
   have hms105_3 := NB139_140.out
   have hms105_4 := NB139_150.out
   have hms105_5 := NB139_151.out
   have hms105_6 := NB139_158.out
   have hs106 : w103.cell? ⟨gb139, 2, none⟩ = some (.int .u64 0) := (blk_cell BK139.out 2).trans rfl
   have hfs106 := blk_frozen BK139.out 2
   have hns106_0 := NB137_139.out
   have hns106_1 := NB138_139.out
   have hns106_3 := NB140_139.out
   have hns106_4 := NB150_139.out
   have hns106_5 := NB151_139.out
   have hns106_6 := NB158_139.out
   have hms106_0 := NB139_137.out
   have hms106_1 := NB139_138.out
   have hms106_3 := NB139_140.out
   have hms106_4 := NB139_150.out
   have hms106_5 := NB139_151.out
   have hms106_6 := NB139_158.out
   have hs107 : w103.cell? ⟨gb139, 3, none⟩ = some (.int .u64 0) := (blk_cell BK139.out 3).trans rfl
   have hfs107 := blk_frozen BK139.out 3
   have hns107_0 := NB137_139.out
   have hns107_1 := NB138_139.out
   have hns107_3 := NB140_139.out
   have hns107_4 := NB150_139.out
   have hns107_5 := NB151_139.out
   have hns107_6 := NB158_139.out
   have hms107_0 := NB139_137.out
   have hms107_1 := NB139_138.out
   have hms107_3 := NB139_140.out
   have hms107_4 := NB139_150.out
   have hms107_5 := NB139_151.out
   have hms107_6 := NB139_158.out
   have hs108 : w103.cell? ⟨gb139, 4, none⟩ = some (.int .u64 0) := (blk_cell BK139.out 4).trans rfl
   have hfs108 := blk_frozen BK139.out 4
   have hns108_0 := NB137_139.out
   have hns108_1 := NB138_139.out
   have hns108_3 := NB140_139.out
   have hns108_4 := NB150_139.out
   have hns108_5 := NB151_139.out
   have hns108_6 := NB158_139.out
   have hms108_0 := NB139_137.out
   have hms108_1 := NB139_138.out
   have hms108_3 := NB139_140.out
   have hms108_4 := NB139_150.out
   have hms108_5 := NB139_151.out
   have hms108_6 := NB139_158.out
   refine skip_ (w1 := ?_) (by rfl) rfl ?_ ?_
   rotate_left
   ·go_simp
    rfl
   refine hK.out _ _ ⟨(cf5 NB137_139.out hHeld.1), (cf5 NB137_139.out hHeld.2.1), (cf5 NB137_139.out hHeld.2.2.1), (cf5 NB137_139.out hHeld.2.2.2.1), (cf5 NB137_139.out hHeld.2.2.2.2.1), (cf5 NB138_139.out hHeld.2.2.2.2.2.1), (cf5 NB138_139.out hHeld.2.2.2.2.2.2.1), (cf5 NB138_139.out hHeld.2.2.2.2.2.2.2.1), (cf5 NB138_139.out hHeld.2.2.2.2.2.2.2.2.1), (cf5 NB138_139.out hHeld.2.2.2.2.2.2.2.2.2.1), (cf5 NB150_139.out hHeld.2.2.2.2.2.2.2.2.2.2.1), (cf5 NB150_139.out hHeld.2.2.2.2.2.2.2.2.2.2.2.1), (cf5 NB150_139.out hHeld.2.2.2.2.2.2.2.2.2.2.2.2.1), (cf5 NB150_139.out hHeld.2.2.2.2.2.2.2.2.2.2.2.2.2.1), (cf5 NB151_139.out hHeld.2.2.2.2.2.2.2.2.2.2.2.2.2.2.1), (cf5 NB151_139.out hHeld.2.2.2.2.2.2.2.2.2.2.2.2.2.2.2.1), (cf5 NB151_139.out hHeld.2.2.2.2.2.2.2.2.2.2.2.2.2.2.2.2.1), (cf5 NB151_139.out hHeld.2.2.2.2.2.2.2.2.2.2.2.2.2.2.2.2.2)⟩ (fun hHeld => ?_)
   clear hK K
   refine one_ (i := 10) (N := none) #[Tt, Tt, Tt, Tt, Tt, Tt, Tt, Tt, Tt, Tt, Tt, Ff] rfl rfl (one_of HT_.out (by kernel_rfl)) (by decide) (fun K hK => ?_)
   have hs109 : w103.cell? ⟨gb140, 0, none⟩ = some (.bool false) := (blk_cell BK140.out 0).trans rfl
   have hfs109 := blk_frozen BK140.out 0
   have hns109_0 := NB137_140.out
   have hns109_1 := NB138_140.out
   have hns109_2 := NB139_140.out
   have hns109_4 := NB150_140.out
   have hns109_5 := NB151_140.out
   have hns109_6 := NB158_140.out
   have hms109_0 := NB140_137.out
   have hms109_1 := NB140_138.out
   have hms109_2 := NB140_139.out
   have hms109_4 := NB140_150.out
   have hms109_5 := NB140_151.out
   have hms109_6 := NB140_158.out
   have hs110 : w103.cell? ⟨gb140, 1, none⟩ = some (.int .u64 0) := (blk_cell BK140.out 1).trans rfl
   have hfs110 := blk_frozen BK140.out 1
   have hns110_0 := NB137_140.out
   have hns110_1 := NB138_140.out
   have hns110_2 := NB139_140.out
   have hns110_4 := NB150_140.out
   have hns110_5 := NB151_140.out
   have hns110_6 := NB158_140.out
   have hms110_0 := NB140_137.out
   have hms110_1 := NB140_138.out
   have hms110_2 := NB140_139.out
   have hms110_4 := NB140_150.out
   have hms110_5 := NB140_151.out
   have hms110_6 := NB140_158.out
   have hs111 : w103.cell? ⟨gb140, 2, none⟩ = some (.int .u64 0) := (blk_cell BK140.out 2).trans rfl
   have hfs111 := blk_frozen BK140.out 2
   have hns111_0 := NB137_140.out
   have hns111_1 := NB138_140.out
   have hns111_2 := NB139_140.out
   have hns111_4 := NB150_140.out
   have hns111_5 := NB151_140.out
   have hns111_6 := NB158_140.out
   have hms111_0 := NB140_137.out
   have hms111_1 := NB140_138.out
   have hms111_2 := NB140_139.out
   have hms111_4 := NB140_150.out
   have hms111_5 := NB140_151.out
   have hms111_6 := NB140_158.out
   have hs112 : w103.cell? ⟨gb140, 3, none⟩ = some (.int .u64 0) := (blk_cell BK140.out 3).trans rfl
   have hfs112 := blk_frozen BK140.out 3
   have hns112_0 := NB137_140.out
   have hns112_1 := NB138_140.out
   have hns112_2 := NB139_140.out
   have hns112_4 := NB150_140.out
   have hns112_5 := NB151_140.out
   have hns112_6 := NB158_140.out
   have hms112_0 := NB140_137.out
   have hms112_1 := NB140_138.out
   have hms112_2 := NB140_139.out
   have hms112_4 := NB140_150.out
   have hms112_5 := NB140_151.out
   have hms112_6 := NB140_158.out
   have hs113 : w103.cell? ⟨gb140, 4, none⟩ = some (.int .u64 0) := (blk_cell BK140.out 4).trans rfl
   have hfs113 := blk_frozen BK140.out 4
   have hns113_0 := NB137_140.out
   have hns113_1 := NB138_140.out
   have hns113_2 := NB139_140.out
   have hns113_4 := NB150_140.out
   have hns113_5 := NB151_140.out
   have hns113_6 := NB158_140.out
   have hms113_0 := NB140_137.out
   have hms113_1 := NB140_138.out
   have hms113_2 := NB140_139.out
   have hms113_4 := NB140_150.out
   have hms113_5 := NB140_151.out
   have hms113_6 := NB140_158.out
   refine skip_ (w1 := ?_) (by rfl) rfl ?_ ?_
   rotate_left
   ·go_simp
    rfl
   refine hK.out _ _ ⟨(cf5 NB137_140.out hHeld.1), (cf5 NB137_140.out hHeld.2.1), (cf5 NB137_140.out hHeld.2.2.1), (cf5 NB137_140.out hHeld.2.2.2.1), (cf5 NB137_140.out hHeld.2.2.2.2.1), (cf5 NB138_140.out hHeld.2.2.2.2.2.1), (cf5 NB138_140.out hHeld.2.2.2.2.2.2.1), (cf5 NB138_140.out hHeld.2.2.2.2.2.2.2.1), (cf5 NB138_140.out hHeld.2.2.2.2.2.2.2.2.1), (cf5 NB138_140.out hHeld.2.2.2.2.2.2.2.2.2.1), (cf5 NB150_140.out hHeld.2.2.2.2.2.2.2.2.2.2.1), (cf5 NB150_140.out hHeld.2.2.2.2.2.2.2.2.2.2.2.1), (cf5 NB150_140.out hHeld.2.2.2.2.2.2.2.2.2.2.2.2.1), (cf5 NB150_140.out hHeld.2.2.2.2.2.2.2.2.2.2.2.2.2.1), (cf5 NB151_140.out hHeld.2.2.2.2.2.2.2.2.2.2.2.2.2.2.1), (cf5 NB151_140.out hHeld.2.2.2.2.2.2.2.2.2.2.2.2.2.2.2.1), (cf5 NB151_140.out hHeld.2.2.2.2.2.2.2.2.2.2.2.2.2.2.2.2.1), (cf5 NB151_140.out hHeld.2.2.2.2.2.2.2.2.2.2.2.2.2.2.2.2.2)⟩ (fun hHeld => ?_)
   clear hK K
   refine pure_ (i := 11) (N := some 6) (v := ?_) (a' := ?_) #[Tt, Tt, Tt, Tt, Tt, Tt, Tt, Tt, Tt, Tt, Tt, Tt] rfl rfl (any_of HT_.out (by kernel_rfl)) (fun _ _ _ h => h) (Or.inl ⟨by rfl, ?_⟩) ?_ ?_
   rotate_left
   ·intro w'
    go_simp
    with_reducible rfl
   rotate_left
   ·simp only [Act.put, List.setIfInBounds_toArray, List.set_cons_zero, List.set_cons_succ, i64_w, i32_w]
    rfl
   refine done_ (done_of HT_.out (by kernel_rfl)) ?_
   try go_wp2
   refine bodyPost_ret (results_list (rs := [.cell 4 27, .cell 5 27, .tmp 6]) rfl (by simp) (.cell gb139 27 #[.bool t163, .int .u64 t164, .int .u64 t165, .int .u64 t166, .int .u64 t167] (0, 0) _ rfl (by repeat (with_reducible first | exact bp5 (lb BK139.out) | refine blk_far ?_ NB139_140.out _ | refine cn ?_ _ | refine cd ?_ | refine ca ?_ _)) Try.underlying27 rfl (by kernel_rfl) (.cell gb140 27 #[.bool t168, .int .u64 t169, .int .u64 t170, .int .u64 t171, .int .u64 t172] (0, 0) _ rfl (by (with_reducible repeat (first | refine cn ?_ _ | refine cd ?_ | refine ca ?_ _)); refine blk_put (cs := #[.bool t168, .int .u64 t169, .int .u64 t170, .int .u64 t171, .int .u64 0]) ?_ 4 _ rfl; (with_reducible repeat (first | refine cn ?_ _ | refine cd ?_ | refine ca ?_ _)); refine blk_put (cs := #[.bool t168, .int .u64 t169, .int .u64 t170, .int .u64 0, .int .u64 0]) ?_ 3 _ rfl; (with_reducible repeat (first | refine cn ?_ _ | refine cd ?_ | refine ca ?_ _)); refine blk_put (cs := #[.bool t168, .int .u64 t169, .int .u64 0, .int .u64 0, .int .u64 0]) ?_ 2 _ rfl; (with_reducible repeat (first | refine cn ?_ _ | refine cd ?_ | refine ca ?_ _)); refine blk_put (cs := #[.bool t168, .int .u64 0, .int .u64 0, .int .u64 0, .int .u64 0]) ?_ 1 _ rfl; (with_reducible repeat (first | refine cn ?_ _ | refine cd ?_ | refine ca ?_ _)); refine blk_put (cs := #[.bool false, .int .u64 0, .int .u64 0, .int .u64 0, .int .u64 0]) ?_ 0 _ rfl; (with_reducible repeat (first | refine cn ?_ _ | refine cd ?_ | refine ca ?_ _)); refine blk_far ?_ NB140_139.out _; (with_reducible repeat (first | refine cn ?_ _ | refine cd ?_ | refine ca ?_ _)); refine blk_far ?_ NB140_139.out _; (with_reducible repeat (first | refine cn ?_ _ | refine cd ?_ | refine ca ?_ _)); refine blk_far ?_ NB140_139.out _; (with_reducible repeat (first | refine cn ?_ _ | refine cd ?_ | refine ca ?_ _)); refine blk_far ?_ NB140_139.out _; (with_reducible repeat (first | refine cn ?_ _ | refine cd ?_ | refine ca ?_ _)); refine blk_far ?_ NB140_139.out _; (with_reducible repeat (first | refine cn ?_ _ | refine cd ?_ | refine ca ?_ _)); exact BK140.out) Try.underlying27 rfl (by kernel_rfl) (.tmp .nil)))) rfl ?_
   exact ⟨by first | rfl | (simp [errW_none, errW_some] <;> rfl) | (simp [*, errW_none, errW_some] <;> rfl), by repeat (first | (with_reducible first | exact HB.out | apply qa | apply qn | apply qd | refine qs ?_ GE137.out | refine qs ?_ GE138.out | refine qs ?_ GE139.out | refine qs ?_ GE140.out | refine qs ?_ GE150.out | refine qs ?_ GE151.out | refine qs ?_ GE158.out) | exact HB.out)⟩
end Go.Proofs.Ytmpbbodafenonaa.MT

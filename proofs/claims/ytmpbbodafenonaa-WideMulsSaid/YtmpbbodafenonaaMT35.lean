/- A function of the given program told as a Lean function, its contract proved; no condition. -/
import Derived.Test.YtmpbbodafenonaaMT0
import Derived.Test.YtmpbbodafenonaaMT4
import Derived.Test.YtmpbbodafenonaaMT9
import Derived.Test.YtmpbbodafenonaaMT34
namespace Go.Proofs.Ytmpbbodafenonaa.MT
open Go.RowKit Go.Proofs.YtmpbbodafenonaaW.PrintWords Go.Proofs.YtmpbbodafenonaaW.PrintLast Go.Proofs.YtmpbbodafenonaaW.PrintMore
attribute [local go_sem] max2_int min2_int max_two min_two max_three min_three max_four min_four   -- for this text's walks alone
set_option linter.unusedVariables false
set_option linter.unusedSimpArgs false
attribute [local go_sem high] eqA27
/-! ### parquetlaw01_WideMuls: function 3 -/
def parquetlaw01_WideMuls.f (k : Nat) (l0 : List (S27)) : Option (Bool) := if (l0.length : Int) > 200 then ((parquetlaw01_known.f).bind fun t694 => (some t694)) else ((wide_Mul.f k l0).bind fun bt695 => ((parquetref01_Mul.f k l0).bind fun bt702 => (if (bt695.1 == bt702.1 && ((bt695.2.1 == bt702.2.1 && (bt695.2.2.1 == bt702.2.2.1 && (bt695.2.2.2.1 == bt702.2.2.2.1 && (bt695.2.2.2.2.1 == bt702.2.2.2.2.1)))))) = true then (if bt695.2.2.2.2.2 = bt702.2.2.2.2.2 then ((parquetlaw01_known.f).bind fun t709 => (some t709)) else (some false)) else (some false))))
theorem parquetlaw01_WideMuls.mono : ∀ a0 k, LeO (parquetlaw01_WideMuls.f k a0) (parquetlaw01_WideMuls.f (k + 1) a0) := by
 intro a0 k
 unfold parquetlaw01_WideMuls.f
 repeat' first
   | (with_reducible exact parquetref01_Mul.mono _ _)
   | (with_reducible exact wide_Mul.mono _ _)
   | (with_reducible exact LeO.refl _)
   | (with_reducible exact LeO.none _)
   | (with_reducible refine LeO.ite ?_ ?_)
   | (with_reducible refine LeO.bind ?_ (fun _ => ?_))
   | exact parquetref01_Mul.mono _ _
   | exact wide_Mul.mono _ _
   | exact LeO.none _
   | refine LeO.ite ?_ ?_
   | refine LeO.bind ?_ (fun _ => ?_)
set_option maxHeartbeats 8000000 in
set_option maxRecDepth 100000 in
theorem parquetlaw01_WideMuls.calls (k : Nat) (A0 : Option Addr) (c0 : Nat) (l0 : List (S27)) (r : Bool) (w : World) (hr0 : Kd.C k27 w A0 l0.length l0) (hc0 : l0.length ≤ c0) (h : parquetlaw01_WideMuls.f k l0 = some r) (hr_ : r = true) :
  Calls Try.prog 3 #[.slice A0 l0.length c0] w fun e w' => e = .returned (.bool r) ∧ Below w.heap.size w w' := by
 have hu27 := Try.underlying27
 have HR0 := Aside0.mk hr0
 have HC0 := Aside0.mk hc0
 clear hr0 hc0
 have HB := Aside0.mk (Below.refl w.heap.size w)
 have H : (if (l0.length : Int) > 200 then ((parquetlaw01_known.f).bind fun t694 => (some t694)) else ((wide_Mul.f k l0).bind fun bt695 => ((parquetref01_Mul.f k l0).bind fun bt702 => (if (bt695.1 == bt702.1 && ((bt695.2.1 == bt702.2.1 && (bt695.2.2.1 == bt702.2.2.1 && (bt695.2.2.2.1 == bt702.2.2.2.1 && (bt695.2.2.2.2.1 == bt702.2.2.2.2.1)))))) = true then (if bt695.2.2.2.2.2 = bt702.2.2.2.2.2 then ((parquetlaw01_known.f).bind fun t709 => (some t709)) else (some false)) else (some false))))) = some r := h
 clear h
 by_cases c2 : (l0.length : Int) > 200
 ·rw [if_pos c2] at H
  have c2b0 : decide (200 < (l0.length : Int)) = true := decide_eq_true c2
  have c2b1 : decide (200 < l0.length) = true := decide_eq_true (by omega)
  clear c2
  replace H := Option.bind_eq_some_iff.mp H
  obtain ⟨t694, A30, H⟩ := H
  replace H : (some t694) = some r := H
  have A3 := Aside0.mk A30
  clear A30
  obtain rfl := Option.some.inj H
  go_enter Try.func3, Try.ntmps3
  go_wp2_with (first | ((with_reducible refine gate_callee (f := 20) rfl ?_); refine goesL_ (some 10) rfl rfl Try.func20 (by kernel_rfl) rfl #[] rfl (by (try simp only [List.map_toArray, List.map_cons, List.map_nil]); first | done | rfl | (simp only [List.length_drop, List.length_take]; rfl)) ?_; (with_reducible refine (parquetlaw01_known.calls  t694 _ A3.out).mono ?_); rintro e w4 ⟨rfl, hb⟩; refine ⟨_, rfl, ?_⟩; have n0_ := Aside0.mk (below_step (by repeat (first | (with_reducible first | exact HB.out | apply qa | apply qn | apply qd) | exact HB.out)) hb); clear HB; have HB := n0_; clear n0_; (try clear hb); (try clear hb2); (try clear hk); (try clear hi)))
  go_ret
  exact ⟨by first | rfl | (simp [errW_none, errW_some] <;> rfl) | (simp [*, errW_none, errW_some] <;> rfl), by repeat (first | (with_reducible first | exact HB.out | apply qa | apply qn | apply qd) | exact HB.out)⟩
 ·rw [if_neg c2] at H
  have c2b0 : decide (200 < (l0.length : Int)) = false := decide_eq_false c2
  have c2b1 : decide (200 < l0.length) = false := decide_eq_false (by omega)
  clear c2
  replace H := Option.bind_eq_some_iff.mp H
  obtain ⟨⟨t695, t696, t697, t698, t699, t700⟩, A50, H⟩ := H
  try dsimp only at H
  have A5 := Aside0.mk A50
  clear A50
  replace H := Option.bind_eq_some_iff.mp H
  obtain ⟨⟨t702, t703, t704, t705, t706, t707⟩, A60, H⟩ := H
  replace H : (if (t695 == t702 && ((t696 == t703 && (t697 == t704 && (t698 == t705 && (t699 == t706)))))) = true then (if t700 = t707 then ((parquetlaw01_known.f).bind fun t709 => (some t709)) else (some false)) else (some false)) = some r := H
  have A6 := Aside0.mk A60
  clear A60
  by_cases c7 : (t695 == t702 && ((t696 == t703 && (t697 == t704 && (t698 == t705 && (t699 == t706)))))) = true
  ·rw [if_pos c7] at H
   have c7b0 : (t695 == t702 && ((t696 == t703 && (t697 == t704 && (t698 == t705 && (t699 == t706)))))) = true := c7
   (try (have c7b1 : decide (t695 = t702 && ((t696 == t703 && (t697 == t704 && (t698 == t705 && (t699 == t706)))))) = true := by simpa using c7))
   (try (have c7b2 : (t695 == t702 && ((t696 == t703 && (t697 == t704 && (t698 == t705 && (t699 == t706)))))) = true := by simpa using c7))
   clear c7
   by_cases c8 : t700 = t707
   ·rw [if_pos c8] at H
    have c8b0 : (t700 == t707) = true := beq_iff_eq.mpr c8
    have c8b1 : (t700 != t707) = false := bne_eq_false_iff_eq.mpr c8
    clear c8
    replace H := Option.bind_eq_some_iff.mp H
    obtain ⟨t709, A90, H⟩ := H
    replace H : (some t709) = some r := H
    have A9 := Aside0.mk A90
    clear A90
    obtain rfl := Option.some.inj H
    go_enter Try.func3, Try.ntmps3
    go_wp2_with (first | ((with_reducible refine gate_callee (f := 21) rfl ?_); refine goesL_ (some 13) rfl rfl Try.func21 (by kernel_rfl) rfl #[.slice A0 l0.length c0] rfl (by (try simp only [List.map_toArray, List.map_cons, List.map_nil]); first | done | rfl | (simp only [List.length_drop, List.length_take]; rfl)) ?_; (with_reducible refine (wide_Mul.calls k _ _ l0 t695 t696 t697 t698 t699 t700 _ ?side1 ?side2 A5.out).mono ?_); (case side1 => repeat (first | exact HR0.out | (with_reducible refine Kd.C_alloc ?_ _) | (with_reducible refine Kd.C_drewN ?_ _) | (with_reducible refine Kd.C_drew ?_))); (case side2 => exact HC0.out); rintro e w10 ⟨rfl, hb⟩; refine ⟨_, rfl, ?_⟩; have n0_ := Aside0.mk (below_step (by repeat (first | (with_reducible first | exact HB.out | apply qa | apply qn | apply qd) | exact HB.out)) hb); clear HB; have HB := n0_; clear n0_; (try clear hb); (try clear hb2); (try clear hk); (try clear hi)) | ((with_reducible refine gate_dst (N := 3) rfl ?_); refine box_event ?hg (N := 3) ?hd (cs := #[.bool false, .int .u64 0, .int .u64 0, .int .u64 0, .int .u64 0]) (t := 27) ?hr ?_; (case hd => rfl); (case hg => rfl); (case hr => first | (go_simp; done) | (go_simp; rfl)); intro gb701 hg w11 hbox hb; have n0_ := Aside0.mk (below_step (by repeat (first | (with_reducible first | exact HB.out | apply qa | apply qn | apply qd) | exact HB.out)) hb); have n1_ := Aside0.mk (hbox); have n2_ := bgw HB hg; have n3_ := bgw HB hg; clear HB; have HB := n0_; have BK701 := n1_; have GW701 := n2_; have GE701 := n3_; clear n0_ n1_ n2_ n3_; clear hb hbox hg; obtain ⟨hcz12_0, hcz12_1, hcz12_2, hcz12_3, hcz12_4⟩ := cl5 BK701.out; obtain ⟨hfz12_0, hfz12_1, hfz12_2, hfz12_3, hfz12_4⟩ := fr5 BK701.out) | ((with_reducible refine gate_callee (f := 22) rfl ?_); refine goesL_ (some 18) rfl rfl Try.func22 (by kernel_rfl) rfl #[.slice A0 l0.length c0] rfl (by (try simp only [List.map_toArray, List.map_cons, List.map_nil]); first | done | rfl | (simp only [List.length_drop, List.length_take]; rfl)) ?_; (with_reducible refine (parquetref01_Mul.calls k _ _ l0 t702 t703 t704 t705 t706 t707 _ ?side1 ?side2 A6.out).mono ?_); (case side1 => exact Kd.C_below HR0.out (by repeat (first | (with_reducible first | exact HB.out | apply qa | apply qn | apply qd | refine qs ?_ GE701.out) | exact HB.out))); (case side2 => exact HC0.out); rintro e w13 ⟨rfl, hb⟩; refine ⟨_, rfl, ?_⟩; have n0_ := Aside0.mk (blk_below (g := gb701) (o := .cells #[.bool t695, .int .u64 t696, .int .u64 t697, .int .u64 t698, .int .u64 t699] 27 (0, 0)) (by (with_reducible repeat (first | refine cn ?_ _ | refine cd ?_ | refine ca ?_ _)); exact bp5 (lb BK701.out)) hb); have n1_ := Aside0.mk (below_step (by repeat (first | (with_reducible first | exact HB.out | apply qa | apply qn | apply qd | refine qs ?_ GE701.out) | exact HB.out)) hb); clear BK701; clear HB; have BK701 := n0_; have HB := n1_; clear n0_ n1_; (try clear hb); (try clear hb2); (try clear hk); (try clear hi)) | ((with_reducible refine gate_dst (N := 5) rfl ?_); refine box_event ?hg (N := 5) ?hd (cs := #[.bool false, .int .u64 0, .int .u64 0, .int .u64 0, .int .u64 0]) (t := 27) ?hr ?_; (case hd => rfl); (case hg => rfl); (case hr => first | (go_simp; done) | (go_simp; rfl)); intro gb708 hg w14 hbox hb; have n0_ := bb BK701 hb; have n1_ := Aside0.mk (below_step (by repeat (first | (with_reducible first | exact HB.out | apply qa | apply qn | apply qd | refine qs ?_ GE701.out) | exact HB.out)) hb); have n2_ := Aside0.mk (hbox); have n3_ := bgw HB hg; have n4_ := bgw HB hg; have n5_ := bnl BK701 hg; have n6_ := bng BK701 hg; clear BK701; clear HB; have BK701 := n0_; have HB := n1_; have BK708 := n2_; have GW708 := n3_; have GE708 := n4_; have NB701_708 := n5_; have NB708_701 := n6_; clear n0_ n1_ n2_ n3_ n4_ n5_ n6_; clear hb hbox hg; have hnb15 := NB708_701.out; have hnc15 := NB701_708.out; obtain ⟨hcz16_0, hcz16_1, hcz16_2, hcz16_3, hcz16_4⟩ := cl5 BK708.out; obtain ⟨hfz16_0, hfz16_1, hfz16_2, hfz16_3, hfz16_4⟩ := fr5 BK708.out; obtain ⟨hcz17_0, hcz17_1, hcz17_2, hcz17_3, hcz17_4⟩ := cl5 BK701.out; obtain ⟨hfz17_0, hfz17_1, hfz17_2, hfz17_3, hfz17_4⟩ := fr5 BK701.out) | (go_at_call 20; (with_reducible refine (parquetlaw01_known.calls  t709 _ A9.out).mono ?_); rintro e w18 ⟨rfl, hb⟩; have n0_ := Aside0.mk (blk_below (g := gb701) (o := .cells #[.bool t695, .int .u64 t696, .int .u64 t697, .int .u64 t698, .int .u64 t699] 27 (0, 0)) (by repeat (with_reducible first | exact lb BK701.out | refine blk_far ?_ NB701_708.out _ | refine cn ?_ _ | refine cd ?_ | refine ca ?_ _)) hb); have n1_ := Aside0.mk (blk_below (g := gb708) (o := .cells #[.bool t702, .int .u64 t703, .int .u64 t704, .int .u64 t705, .int .u64 t706] 27 (0, 0)) (by (with_reducible repeat (first | refine cn ?_ _ | refine cd ?_ | refine ca ?_ _)); exact bp5 (lb BK708.out)) hb); have n2_ := Aside0.mk (below_step (by repeat (first | (with_reducible first | exact HB.out | apply qa | apply qn | apply qd | refine qs ?_ GE701.out | refine qs ?_ GE708.out) | exact HB.out)) hb); clear BK701; clear BK708; clear HB; have BK701 := n0_; have BK708 := n1_; have HB := n2_; clear n0_ n1_ n2_; (try clear hb); (try clear hb2); (try clear hk); (try clear hi)))
    go_ret
    exact ⟨by first | rfl | (simp [errW_none, errW_some] <;> rfl) | (simp [*, errW_none, errW_some] <;> rfl), by repeat (first | (with_reducible first | exact HB.out | apply qa | apply qn | apply qd | refine qs ?_ GE701.out | refine qs ?_ GE708.out) | exact HB.out)⟩
   ·rw [if_neg c8] at H
    have c8b0 : (t700 == t707) = false := beq_eq_false_iff_ne.mpr c8
    have c8b1 : (t700 != t707) = true := bne_iff_ne.mpr c8
    exact absurd ((Option.some.inj H).trans hr_) (by decide)
  ·rw [if_neg c7] at H
   have c7b0 : (t695 == t702 && ((t696 == t703 && (t697 == t704 && (t698 == t705 && (t699 == t706)))))) = false := by simpa using c7
   (try (have c7b1 : decide (t695 = t702 && ((t696 == t703 && (t697 == t704 && (t698 == t705 && (t699 == t706)))))) = false := by simpa using c7))
   (try (have c7b2 : (t695 == t702 && ((t696 == t703 && (t697 == t704 && (t698 == t705 && (t699 == t706)))))) = false := by simpa using c7))
   (try (have c7b3 : ¬ (t695 = t702 && ((t696 == t703 && (t697 == t704 && (t698 == t705 && (t699 == t706)))))) := by simpa using c7))
   clear c7
   exact absurd ((Option.some.inj H).trans hr_) (by decide)

-- NOT PRINTED: function 4 (parquetlaw01_WideDivs)

-- NOT PRINTED: function 7 (parquetlaw01_WideOrder)

-- NOT PRINTED: function 8 (parquetlaw01_WideEdges)
end Go.Proofs.Ytmpbbodafenonaa.MT

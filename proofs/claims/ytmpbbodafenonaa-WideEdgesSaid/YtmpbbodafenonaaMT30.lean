/- A function of the given program told as a Lean function, its contract proved; no condition. -/
import Derived.Test.YtmpbbodafenonaaMT0
import Derived.Test.YtmpbbodafenonaaMT6
namespace Go.Proofs.Ytmpbbodafenonaa.MT
open Go.RowKit Go.Proofs.YtmpbbodafenonaaW.PrintWords Go.Proofs.YtmpbbodafenonaaW.PrintLast Go.Proofs.YtmpbbodafenonaaW.PrintMore
attribute [local go_sem] max2_int min2_int max_two min_two max_three min_three max_four min_four   -- for this text's walks alone
set_option linter.unusedVariables false
set_option linter.unusedSimpArgs false
attribute [local go_sem high] eqA27
/-! ### wide_Add: function 35 -/
def wide_Add.l0 : Nat → List (S27) → Int → Int → Bool → Int → Int → Int → Int → Option (Bool × Int × Int × Int × Int × Int)
 | 0, _, _, _, _, _, _, _, _ => none
 | k + 1, x9, x10, x11, x566000, x566001, x566002, x566003, x566004 => if x11 < x10 then (if 0 ≤ x11 then (if x11 < (x9.length : Int) then ((wide_add.f x566000 x566001 x566002 x566003 x566004 ((rd_T27 x9 x11).f0) ((rd_T27 x9 x11).f1.f0) ((rd_T27 x9 x11).f1.f1) ((rd_T27 x9 x11).f1.f2) ((rd_T27 x9 x11).f1.f3)).bind fun bt568 => (if bt568.2.2.2.2.2 = true then (wide_Add.l0 k x9 x10 (wrap64 (x11 + 1)) bt568.1 bt568.2.1 bt568.2.2.1 bt568.2.2.2.1 bt568.2.2.2.2.1) else (some (false, 0, 0, 0, 0, 10)))) else (none)) else (none)) else (some (x566000, x566001, x566002, x566003, x566004, 0))
def wide_Add.f (k : Nat) (l0 : List (S27)) : Option (Bool × Int × Int × Int × Int × Int) := wide_Add.l0 k l0 (l0.length : Int) 0 false 0 0 0 0
theorem wide_Add.mono_l : ∀ k, (∀ y0 y1 y2 y3 y4 y5 y6 y7, LeO (wide_Add.l0 k y0 y1 y2 y3 y4 y5 y6 y7) (wide_Add.l0 (k + 1) y0 y1 y2 y3 y4 y5 y6 y7))
 | 0 => fun _ _ _ _ _ _ _ _ r h => by simp [wide_Add.l0] at h
 | k + 1 => by
  have ih0 := wide_Add.mono_l k
  ·intro y0 y1 y2 y3 y4 y5 y6 y7
   unfold wide_Add.l0
   repeat' first
   | (with_reducible exact ih0 _ _ _ _ _ _ _ _)
   | (with_reducible exact LeO.refl _)
   | (with_reducible exact LeO.none _)
   | (with_reducible refine LeO.ite ?_ ?_)
   | (with_reducible refine LeO.bind ?_ (fun _ => ?_))
   | exact ih0 _ _ _ _ _ _ _ _
   | exact LeO.none _
   | refine LeO.ite ?_ ?_
   | refine LeO.bind ?_ (fun _ => ?_)
theorem wide_Add.mono : ∀ a0 k, LeO (wide_Add.f k a0) (wide_Add.f (k + 1) a0) := by
 intro a0 k
 have ih0 := wide_Add.mono_l k
 unfold wide_Add.f
 repeat' first
   | (with_reducible exact ih0 _ _ _ _ _ _ _ _)
   | (with_reducible exact LeO.refl _)
   | (with_reducible exact LeO.none _)
   | (with_reducible refine LeO.ite ?_ ?_)
   | (with_reducible refine LeO.bind ?_ (fun _ => ?_))
   | exact ih0 _ _ _ _ _ _ _ _
   | exact LeO.none _
   | refine LeO.ite ?_ ?_
   | refine LeO.bind ?_ (fun _ => ?_)
set_option maxHeartbeats 8000000 in
set_option maxRecDepth 100000 in
theorem wide_Add.calls (k : Nat) (A0 : Option Addr) (c0 : Nat) (l0 : List (S27)) (r1 : Bool) (r2 : Int) (r3 : Int) (r4 : Int) (r5 : Int) (r6 : Int) (w : World) (hr0 : Kd.C k27 w A0 l0.length l0) (hc0 : l0.length ≤ c0) (h : wide_Add.f k l0 = some (r1, r2, r3, r4, r5, r6)) :
  Calls Try.prog 35 #[.slice A0 l0.length c0] w fun e w' => e = .returned (.tuple #[.agg #[.bool r1, .int .u64 r2, .int .u64 r3, .int .u64 r4, .int .u64 r5], .int .i64 r6]) ∧ Below w.heap.size w w' := by
 have hu27 := Try.underlying27
 have HR0 := Aside0.mk hr0
 have HC0 := Aside0.mk hc0
 clear hr0 hc0
 have HB := Aside0.mk (Below.refl w.heap.size w)
 have H : (wide_Add.l0 k l0 (l0.length : Int) 0 false 0 0 0 0) = some (r1, r2, r3, r4, r5, r6) := h
 clear h
 have H' := Aside0.mk H
 clear H
 go_enter Try.func35, Try.ntmps35
 go_wp2_with (first | ((with_reducible refine gate_dst (N := 2) rfl ?_); refine box_event ?hg (N := 2) ?hd (cs := #[.bool false, .int .u64 0, .int .u64 0, .int .u64 0, .int .u64 0]) (t := 27) ?hr ?_; (case hd => rfl); (case hg => rfl); (case hr => first | (go_simp; done) | (go_simp; rfl)); intro gb564 hg w2 hbox hb; have n0_ := Aside0.mk (below_step (by repeat (first | (with_reducible first | exact HB.out | apply qa | apply qn | apply qd) | exact HB.out)) hb); have n1_ := Aside0.mk (hbox); have n2_ := bgw HB hg; have n3_ := bgw HB hg; clear HB; have HB := n0_; have BK564 := n1_; have GW564 := n2_; have GE564 := n3_; clear n0_ n1_ n2_ n3_; clear hb hbox hg) | ((with_reducible refine gate_dst (N := 4) rfl ?_); refine box_event ?hg (N := 4) ?hd (cs := #[.bool false, .int .u64 0, .int .u64 0, .int .u64 0, .int .u64 0]) (t := 27) ?hr ?_; (case hd => rfl); (case hg => rfl); (case hr => first | (go_simp; done) | (go_simp; rfl)); intro gb565 hg w3 hbox hb; have n0_ := bb BK564 hb; have n1_ := Aside0.mk (below_step (by repeat (first | (with_reducible first | exact HB.out | apply qa | apply qn | apply qd | refine qs ?_ GE564.out) | exact HB.out)) hb); have n2_ := Aside0.mk (hbox); have n3_ := bgw HB hg; have n4_ := bgw HB hg; have n5_ := bnl BK564 hg; have n6_ := bng BK564 hg; clear BK564; clear HB; have BK564 := n0_; have HB := n1_; have BK565 := n2_; have GW565 := n3_; have GE565 := n4_; have NB564_565 := n5_; have NB565_564 := n6_; clear n0_ n1_ n2_ n3_ n4_ n5_ n6_; clear hb hbox hg))
 go_loopg [11] k (fun kq v11 w' => ∃ (x11_1 : Int) (x565000_1 : Bool) (x565001_1 : Int) (x565002_1 : Int) (x565003_1 : Int) (x565004_1 : Int) (x566000_1 : Bool) (x566001_1 : Int) (x566002_1 : Int) (x566003_1 : Int) (x566004_1 : Int), v11 = .int .i64 x11_1 ∧ Aside0 (wide_Add.l0 kq l0 (l0.length : Int) x11_1 x566000_1 x566001_1 x566002_1 x566003_1 x566004_1 = some (r1, r2, r3, r4, r5, r6)) ∧ Aside0 (kq ≤ k) ∧ Aside0 (w'.heap[gb564]? = some (.cells #[.bool x565000_1, .int .u64 x565001_1, .int .u64 x565002_1, .int .u64 x565003_1, .int .u64 x565004_1] 27 (0, 0))) ∧ Aside0 (w'.heap[gb565]? = some (.cells #[.bool x566000_1, .int .u64 x566001_1, .int .u64 x566002_1, .int .u64 x566003_1, .int .u64 x566004_1] 27 (0, 0))) ∧ Aside0 (Below w.heap.size w w'))
 case atStart => exact ⟨(0), (false), (0), (0), (0), (0), (false), (0), (0), (0), (0), (by first | rfl | (simp; done) | (simp [*]; done)), H', ⟨Nat.le_refl _⟩, ⟨by (with_reducible repeat (first | refine cn ?_ _ | refine cd ?_ | refine ca ?_ _)); exact BK564.out⟩, ⟨by (with_reducible repeat (first | refine cn ?_ _ | refine cd ?_ | refine ca ?_ _)); exact BK565.out⟩, ⟨by repeat (first | (with_reducible first | exact HB.out | apply qa | apply qn | apply qd | refine qs ?_ GE564.out | refine qs ?_ GE565.out) | exact HB.out)⟩⟩
 case round =>
  clear H'
  try clear p2
  try clear c3
  obtain ⟨x11_1, x565000_1, x565001_1, x565002_1, x565003_1, x565004_1, x566000_1, x566001_1, x566002_1, x566003_1, x566004_1, rfl, HA, HK1, BK564, BK565, HB⟩ := hrel
  cases gk with
  | zero => exact absurd HA.out (by simp [wide_Add.l0])
  | succ k1 =>
   have H := HA.out
   clear HA
   simp only [wide_Add.l0] at H
   by_cases c4 : x11_1 < (l0.length : Int)
   rotate_left
   ·rw [if_neg c4] at H
    have c4b0 : decide (x11_1 < (l0.length : Int)) = false := decide_eq_false c4
    clear c4
    simp only [Option.some.injEq, Prod.mk.injEq] at H
    obtain ⟨rfl, rfl, rfl, rfl, rfl, rfl⟩ := H
    have hnb35 := NB565_564.out
    have hnc35 := NB564_565.out
    obtain ⟨hcz36_0, hcz36_1, hcz36_2, hcz36_3, hcz36_4⟩ := cl5 BK565.out
    obtain ⟨hfz36_0, hfz36_1, hfz36_2, hfz36_3, hfz36_4⟩ := fr5 BK565.out
    obtain ⟨hcz37_0, hcz37_1, hcz37_2, hcz37_3, hcz37_4⟩ := cl5 BK564.out
    obtain ⟨hfz37_0, hfz37_1, hfz37_2, hfz37_3, hfz37_4⟩ := fr5 BK564.out
    go_wp2
    refine bodyPost_ret (results_ct rfl _ _ gb564 27 #[.bool x566000_1, .int .u64 x566001_1, .int .u64 x566002_1, .int .u64 x566003_1, .int .u64 x566004_1] (0, 0) _ rfl (by (with_reducible repeat (first | refine cn ?_ _ | refine cd ?_ | refine ca ?_ _)); exact bp5 (lb BK564.out)) Try.underlying27 rfl (by kernel_rfl)) rfl ?_
    exact ⟨by first | rfl | (simp [errW_none, errW_some] <;> rfl) | (simp [*, errW_none, errW_some] <;> rfl), by repeat (first | (with_reducible first | exact HB.out | apply qa | apply qn | apply qd | refine qs ?_ GE564.out | refine qs ?_ GE565.out) | exact HB.out)⟩
   rw [if_pos c4] at H
   have c4b0 : decide (x11_1 < (l0.length : Int)) = true := decide_eq_true c4
   clear c4
   by_cases c5 : 0 ≤ x11_1
   rotate_left
   ·rw [if_neg c5] at H
    exact absurd H (by simp)
   rw [if_pos c5] at H
   have c5b0 : decide (0 ≤ x11_1) = true := decide_eq_true c5
   clear c5
   by_cases c6 : x11_1 < (l0.length : Int)
   rotate_left
   ·rw [if_neg c6] at H
    exact absurd H (by simp)
   rw [if_pos c6] at H
   have c6b0 : decide (x11_1 < (l0.length : Int)) = true := decide_eq_true c6
   clear c6
   replace H := Option.bind_eq_some_iff.mp H
   obtain ⟨⟨t568, t569, t570, t571, t572, t573⟩, A70, H⟩ := H
   replace H : (if t573 = true then (wide_Add.l0 k1 l0 (l0.length : Int) (wrap64 (x11_1 + 1)) t568 t569 t570 t571 t572) else (some (false, 0, 0, 0, 0, 10))) = some (r1, r2, r3, r4, r5, r6) := H
   have A7 := Aside0.mk A70
   clear A70
   by_cases c8 : t573 = true
   rotate_left
   ·replace c8 := Bool.eq_false_iff.mpr c8
    subst c8
    have H1 : (some (false, 0, 0, 0, 0, 10)) = some (r1, r2, r3, r4, r5, r6) := by rw [if_neg (show ¬ (false = true) by decide)] at H; exact H
    clear H
    have H := H1
    clear H1
    simp only [Option.some.injEq, Prod.mk.injEq] at H
    obtain ⟨rfl, rfl, rfl, rfl, rfl, rfl⟩ := H
    have p566 : 0 ≤ (x11_1 : Int) := of_decide_eq_true (by first | (with_reducible assumption) | assumption)
    have q566 : x11_1 < (l0.length : Int) := of_decide_eq_true (by first | (with_reducible assumption) | assumption)
    obtain ⟨ad566, e566, hx566_0, hx566_1, hx566_2, hx566_3, hx566_4⟩ := at_T27 HR0.out x11_1 p566 q566
    cases e566
    replace hx566_0 := (HB.out.cell (World.block_lt_of_cell? w _ hx566_0)).trans hx566_0
    replace hx566_1 := (HB.out.cell (World.block_lt_of_cell? w _ hx566_1)).trans hx566_1
    replace hx566_2 := (HB.out.cell (World.block_lt_of_cell? w _ hx566_2)).trans hx566_2
    replace hx566_3 := (HB.out.cell (World.block_lt_of_cell? w _ hx566_3)).trans hx566_3
    replace hx566_4 := (HB.out.cell (World.block_lt_of_cell? w _ hx566_4)).trans hx566_4
    replace p566 := eq_true p566
    replace q566 := eq_true q566
    go_wp2_with (first | ((with_reducible refine gate_dst (N := 6) rfl ?_); refine box_event ?hg (N := 6) ?hd (cs := #[.bool false, .int .u64 0, .int .u64 0, .int .u64 0, .int .u64 0]) (t := 27) ?hr ?_; (case hd => rfl); (case hg => rfl); (case hr => first | (go_simp; done) | (go_simp; rfl)); intro gb567 hg w22 hbox hb; have n0_ := bb BK564 hb; have n1_ := bb BK565 hb; have n2_ := Aside0.mk (below_step (by repeat (first | (with_reducible first | exact HB.out | apply qa | apply qn | apply qd | refine qs ?_ GE564.out | refine qs ?_ GE565.out) | exact HB.out)) hb); have n3_ := Aside0.mk (hbox); have n4_ := bgw HB hg; have n5_ := bgw HB hg; have n6_ := bnl BK564 hg; have n7_ := bng BK564 hg; have n8_ := bnl BK565 hg; have n9_ := bng BK565 hg; clear BK564; clear BK565; clear HB; have BK564 := n0_; have BK565 := n1_; have HB := n2_; have BK567 := n3_; have GW567 := n4_; have GE567 := n5_; have NB564_567 := n6_; have NB567_564 := n7_; have NB565_567 := n8_; have NB567_565 := n9_; clear n0_ n1_ n2_ n3_ n4_ n5_ n6_ n7_ n8_ n9_; clear hb hbox hg; have hnb23 := NB567_564.out; have hnc23 := NB564_567.out; have hnb24 := NB567_565.out; have hnc24 := NB565_567.out; obtain ⟨hcz25_0, hcz25_1, hcz25_2, hcz25_3, hcz25_4⟩ := cl5 BK567.out; obtain ⟨hfz25_0, hfz25_1, hfz25_2, hfz25_3, hfz25_4⟩ := fr5 BK567.out; have hnb26 := NB565_564.out; have hnc26 := NB564_565.out; obtain ⟨hcz27_0, hcz27_1, hcz27_2, hcz27_3, hcz27_4⟩ := cl5 BK565.out; obtain ⟨hfz27_0, hfz27_1, hfz27_2, hfz27_3, hfz27_4⟩ := fr5 BK565.out) | ((with_reducible refine gate_callee (f := 76) rfl ?_); refine goesL_ (some 18) rfl rfl Try.func76 (by kernel_rfl) rfl #[.agg #[.bool x566000_1, .int .u64 x566001_1, .int .u64 x566002_1, .int .u64 x566003_1, .int .u64 x566004_1], .agg #[.bool ((rd_T27 l0 x11_1).f0), .int .u64 ((rd_T27 l0 x11_1).f1.f0), .int .u64 ((rd_T27 l0 x11_1).f1.f1), .int .u64 ((rd_T27 l0 x11_1).f1.f2), .int .u64 ((rd_T27 l0 x11_1).f1.f3)]] rfl (by (try simp only [List.map_toArray, List.map_cons, List.map_nil]); first | done | rfl | (simp only [List.length_drop, List.length_take]; rfl)) ?_; (with_reducible refine (wide_add.calls x566000_1 x566001_1 x566002_1 x566003_1 x566004_1 ((rd_T27 l0 x11_1).f0) ((rd_T27 l0 x11_1).f1.f0) ((rd_T27 l0 x11_1).f1.f1) ((rd_T27 l0 x11_1).f1.f2) ((rd_T27 l0 x11_1).f1.f3) t568 t569 t570 t571 t572 false _ A7.out).mono ?_); rintro e w28 ⟨rfl, hb⟩; refine ⟨_, rfl, ?_⟩; have n0_ := Aside0.mk (blk_below (g := gb564) (o := .cells #[.bool x565000_1, .int .u64 x565001_1, .int .u64 x565002_1, .int .u64 x565003_1, .int .u64 x565004_1] 27 (0, 0)) (by repeat (with_reducible first | exact lb BK564.out | refine blk_far ?_ NB564_567.out _ | refine cn ?_ _ | refine cd ?_ | refine ca ?_ _)) hb); have n1_ := Aside0.mk (blk_below (g := gb565) (o := .cells #[.bool x566000_1, .int .u64 x566001_1, .int .u64 x566002_1, .int .u64 x566003_1, .int .u64 x566004_1] 27 (0, 0)) (by repeat (with_reducible first | exact lb BK565.out | refine blk_far ?_ NB565_567.out _ | refine cn ?_ _ | refine cd ?_ | refine ca ?_ _)) hb); have n2_ := Aside0.mk (blk_below (g := gb567) (o := .cells #[.bool ((rd_T27 l0 x11_1).f0), .int .u64 ((rd_T27 l0 x11_1).f1.f0), .int .u64 ((rd_T27 l0 x11_1).f1.f1), .int .u64 ((rd_T27 l0 x11_1).f1.f2), .int .u64 ((rd_T27 l0 x11_1).f1.f3)] 27 (0, 0)) (by (with_reducible repeat (first | refine cn ?_ _ | refine cd ?_ | refine ca ?_ _)); exact bp5 (lb BK567.out)) hb); have n3_ := Aside0.mk (below_step (by repeat (first | (with_reducible first | exact HB.out | apply qa | apply qn | apply qd | refine qs ?_ GE564.out | refine qs ?_ GE565.out | refine qs ?_ GE567.out) | exact HB.out)) hb); clear BK564; clear BK565; clear BK567; clear HB; have BK564 := n0_; have BK565 := n1_; have BK567 := n2_; have HB := n3_; clear n0_ n1_ n2_ n3_; (try clear hb); (try clear hb2); (try clear hk); (try clear hi)) | ((with_reducible refine gate_dst (N := 7) rfl ?_); refine box_event ?hg (N := 7) ?hd (cs := #[.bool false, .int .u64 0, .int .u64 0, .int .u64 0, .int .u64 0]) (t := 27) ?hr ?_; (case hd => rfl); (case hg => rfl); (case hr => first | (go_simp; done) | (go_simp; rfl)); intro gb574 hg w29 hbox hb; have n0_ := bb BK564 hb; have n1_ := bb BK565 hb; have n2_ := bb BK567 hb; have n3_ := Aside0.mk (below_step (by repeat (first | (with_reducible first | exact HB.out | apply qa | apply qn | apply qd | refine qs ?_ GE564.out | refine qs ?_ GE565.out | refine qs ?_ GE567.out) | exact HB.out)) hb); have n4_ := Aside0.mk (hbox); have n5_ := bgw HB hg; have n6_ := bgw HB hg; have n7_ := bnl BK564 hg; have n8_ := bng BK564 hg; have n9_ := bnl BK565 hg; have n10_ := bng BK565 hg; have n11_ := bnl BK567 hg; have n12_ := bng BK567 hg; clear BK564; clear BK565; clear BK567; clear HB; have BK564 := n0_; have BK565 := n1_; have BK567 := n2_; have HB := n3_; have BK574 := n4_; have GW574 := n5_; have GE574 := n6_; have NB564_574 := n7_; have NB574_564 := n8_; have NB565_574 := n9_; have NB574_565 := n10_; have NB567_574 := n11_; have NB574_567 := n12_; clear n0_ n1_ n2_ n3_ n4_ n5_ n6_ n7_ n8_ n9_ n10_ n11_ n12_; clear hb hbox hg; have hnb30 := NB574_564.out; have hnc30 := NB564_574.out; have hnb31 := NB574_565.out; have hnc31 := NB565_574.out; have hnb32 := NB574_567.out; have hnc32 := NB567_574.out; obtain ⟨hcz33_0, hcz33_1, hcz33_2, hcz33_3, hcz33_4⟩ := cl5 BK574.out; obtain ⟨hfz33_0, hfz33_1, hfz33_2, hfz33_3, hfz33_4⟩ := fr5 BK574.out; obtain ⟨hcz34_0, hcz34_1, hcz34_2, hcz34_3, hcz34_4⟩ := cl5 BK564.out; obtain ⟨hfz34_0, hfz34_1, hfz34_2, hfz34_3, hfz34_4⟩ := fr5 BK564.out))
    refine bodyPost_ret (results_ct rfl _ _ gb564 27 #[.bool false, .int .u64 0, .int .u64 0, .int .u64 0, .int .u64 0] (0, 0) _ rfl (by (with_reducible repeat (first | refine cn ?_ _ | refine cd ?_ | refine ca ?_ _)); refine blk_put (cs := #[.bool false, .int .u64 0, .int .u64 0, .int .u64 0, .int .u64 x565004_1]) ?_ 4 _ rfl; (with_reducible repeat (first | refine cn ?_ _ | refine cd ?_ | refine ca ?_ _)); refine blk_put (cs := #[.bool false, .int .u64 0, .int .u64 0, .int .u64 x565003_1, .int .u64 x565004_1]) ?_ 3 _ rfl; (with_reducible repeat (first | refine cn ?_ _ | refine cd ?_ | refine ca ?_ _)); refine blk_put (cs := #[.bool false, .int .u64 0, .int .u64 x565002_1, .int .u64 x565003_1, .int .u64 x565004_1]) ?_ 2 _ rfl; (with_reducible repeat (first | refine cn ?_ _ | refine cd ?_ | refine ca ?_ _)); refine blk_put (cs := #[.bool false, .int .u64 x565001_1, .int .u64 x565002_1, .int .u64 x565003_1, .int .u64 x565004_1]) ?_ 1 _ rfl; (with_reducible repeat (first | refine cn ?_ _ | refine cd ?_ | refine ca ?_ _)); refine blk_put (cs := #[.bool x565000_1, .int .u64 x565001_1, .int .u64 x565002_1, .int .u64 x565003_1, .int .u64 x565004_1]) ?_ 0 _ rfl; (with_reducible repeat (first | refine cn ?_ _ | refine cd ?_ | refine ca ?_ _)); refine blk_far ?_ NB564_574.out _; (with_reducible repeat (first | refine cn ?_ _ | refine cd ?_ | refine ca ?_ _)); refine blk_far ?_ NB564_574.out _; (with_reducible repeat (first | refine cn ?_ _ | refine cd ?_ | refine ca ?_ _)); refine blk_far ?_ NB564_574.out _; (with_reducible repeat (first | refine cn ?_ _ | refine cd ?_ | refine ca ?_ _)); refine blk_far ?_ NB564_574.out _; (with_reducible repeat (first | refine cn ?_ _ | refine cd ?_ | refine ca ?_ _)); refine blk_far ?_ NB564_574.out _; (with_reducible repeat (first | refine cn ?_ _ | refine cd ?_ | refine ca ?_ _)); exact BK564.out) Try.underlying27 rfl (by kernel_rfl)) rfl ?_
    exact ⟨by first | rfl | (simp [errW_none, errW_some] <;> rfl) | (simp [*, errW_none, errW_some] <;> rfl), by repeat (first | (with_reducible first | exact HB.out | apply qa | apply qn | apply qd | refine qs ?_ GE564.out | refine qs ?_ GE565.out | refine qs ?_ GE567.out | refine qs ?_ GE574.out) | exact HB.out)⟩
   subst c8
   have H1 : (wide_Add.l0 k1 l0 (l0.length : Int) (wrap64 (x11_1 + 1)) t568 t569 t570 t571 t572) = some (r1, r2, r3, r4, r5, r6) := by rw [if_pos rfl] at H; exact H
   clear H
   have H := H1
   clear H1
   have H' := Aside0.mk H
   clear H
   have p566 : 0 ≤ (x11_1 : Int) := of_decide_eq_true (by first | (with_reducible assumption) | assumption)
   have q566 : x11_1 < (l0.length : Int) := of_decide_eq_true (by first | (with_reducible assumption) | assumption)
   obtain ⟨ad566, e566, hx566_0, hx566_1, hx566_2, hx566_3, hx566_4⟩ := at_T27 HR0.out x11_1 p566 q566
   cases e566
   replace hx566_0 := (HB.out.cell (World.block_lt_of_cell? w _ hx566_0)).trans hx566_0
   replace hx566_1 := (HB.out.cell (World.block_lt_of_cell? w _ hx566_1)).trans hx566_1
   replace hx566_2 := (HB.out.cell (World.block_lt_of_cell? w _ hx566_2)).trans hx566_2
   replace hx566_3 := (HB.out.cell (World.block_lt_of_cell? w _ hx566_3)).trans hx566_3
   replace hx566_4 := (HB.out.cell (World.block_lt_of_cell? w _ hx566_4)).trans hx566_4
   replace p566 := eq_true p566
   replace q566 := eq_true q566
   go_wp2_with (first | ((with_reducible refine gate_dst (N := 6) rfl ?_); refine box_event ?hg (N := 6) ?hd (cs := #[.bool false, .int .u64 0, .int .u64 0, .int .u64 0, .int .u64 0]) (t := 27) ?hr ?_; (case hd => rfl); (case hg => rfl); (case hr => first | (go_simp; done) | (go_simp; rfl)); intro gb567 hg w9 hbox hb; have n0_ := bb BK564 hb; have n1_ := bb BK565 hb; have n2_ := Aside0.mk (below_step (by repeat (first | (with_reducible first | exact HB.out | apply qa | apply qn | apply qd | refine qs ?_ GE564.out | refine qs ?_ GE565.out) | exact HB.out)) hb); have n3_ := Aside0.mk (hbox); have n4_ := bgw HB hg; have n5_ := bgw HB hg; have n6_ := bnl BK564 hg; have n7_ := bng BK564 hg; have n8_ := bnl BK565 hg; have n9_ := bng BK565 hg; clear BK564; clear BK565; clear HB; have BK564 := n0_; have BK565 := n1_; have HB := n2_; have BK567 := n3_; have GW567 := n4_; have GE567 := n5_; have NB564_567 := n6_; have NB567_564 := n7_; have NB565_567 := n8_; have NB567_565 := n9_; clear n0_ n1_ n2_ n3_ n4_ n5_ n6_ n7_ n8_ n9_; clear hb hbox hg; have hnb10 := NB567_564.out; have hnc10 := NB564_567.out; have hnb11 := NB567_565.out; have hnc11 := NB565_567.out; obtain ⟨hcz12_0, hcz12_1, hcz12_2, hcz12_3, hcz12_4⟩ := cl5 BK567.out; obtain ⟨hfz12_0, hfz12_1, hfz12_2, hfz12_3, hfz12_4⟩ := fr5 BK567.out; have hnb13 := NB565_564.out; have hnc13 := NB564_565.out; obtain ⟨hcz14_0, hcz14_1, hcz14_2, hcz14_3, hcz14_4⟩ := cl5 BK565.out; obtain ⟨hfz14_0, hfz14_1, hfz14_2, hfz14_3, hfz14_4⟩ := fr5 BK565.out) | ((with_reducible refine gate_callee (f := 76) rfl ?_); refine goesL_ (some 18) rfl rfl Try.func76 (by kernel_rfl) rfl #[.agg #[.bool x566000_1, .int .u64 x566001_1, .int .u64 x566002_1, .int .u64 x566003_1, .int .u64 x566004_1], .agg #[.bool ((rd_T27 l0 x11_1).f0), .int .u64 ((rd_T27 l0 x11_1).f1.f0), .int .u64 ((rd_T27 l0 x11_1).f1.f1), .int .u64 ((rd_T27 l0 x11_1).f1.f2), .int .u64 ((rd_T27 l0 x11_1).f1.f3)]] rfl (by (try simp only [List.map_toArray, List.map_cons, List.map_nil]); first | done | rfl | (simp only [List.length_drop, List.length_take]; rfl)) ?_; (with_reducible refine (wide_add.calls x566000_1 x566001_1 x566002_1 x566003_1 x566004_1 ((rd_T27 l0 x11_1).f0) ((rd_T27 l0 x11_1).f1.f0) ((rd_T27 l0 x11_1).f1.f1) ((rd_T27 l0 x11_1).f1.f2) ((rd_T27 l0 x11_1).f1.f3) t568 t569 t570 t571 t572 true _ A7.out).mono ?_); rintro e w15 ⟨rfl, hb⟩; refine ⟨_, rfl, ?_⟩; have n0_ := Aside0.mk (blk_below (g := gb564) (o := .cells #[.bool x565000_1, .int .u64 x565001_1, .int .u64 x565002_1, .int .u64 x565003_1, .int .u64 x565004_1] 27 (0, 0)) (by repeat (with_reducible first | exact lb BK564.out | refine blk_far ?_ NB564_567.out _ | refine cn ?_ _ | refine cd ?_ | refine ca ?_ _)) hb); have n1_ := Aside0.mk (blk_below (g := gb565) (o := .cells #[.bool x566000_1, .int .u64 x566001_1, .int .u64 x566002_1, .int .u64 x566003_1, .int .u64 x566004_1] 27 (0, 0)) (by repeat (with_reducible first | exact lb BK565.out | refine blk_far ?_ NB565_567.out _ | refine cn ?_ _ | refine cd ?_ | refine ca ?_ _)) hb); have n2_ := Aside0.mk (blk_below (g := gb567) (o := .cells #[.bool ((rd_T27 l0 x11_1).f0), .int .u64 ((rd_T27 l0 x11_1).f1.f0), .int .u64 ((rd_T27 l0 x11_1).f1.f1), .int .u64 ((rd_T27 l0 x11_1).f1.f2), .int .u64 ((rd_T27 l0 x11_1).f1.f3)] 27 (0, 0)) (by (with_reducible repeat (first | refine cn ?_ _ | refine cd ?_ | refine ca ?_ _)); exact bp5 (lb BK567.out)) hb); have n3_ := Aside0.mk (below_step (by repeat (first | (with_reducible first | exact HB.out | apply qa | apply qn | apply qd | refine qs ?_ GE564.out | refine qs ?_ GE565.out | refine qs ?_ GE567.out) | exact HB.out)) hb); clear BK564; clear BK565; clear BK567; clear HB; have BK564 := n0_; have BK565 := n1_; have BK567 := n2_; have HB := n3_; clear n0_ n1_ n2_ n3_; (try clear hb); (try clear hb2); (try clear hk); (try clear hi)) | ((with_reducible refine gate_dst (N := 7) rfl ?_); refine box_event ?hg (N := 7) ?hd (cs := #[.bool false, .int .u64 0, .int .u64 0, .int .u64 0, .int .u64 0]) (t := 27) ?hr ?_; (case hd => rfl); (case hg => rfl); (case hr => first | (go_simp; done) | (go_simp; rfl)); intro gb574 hg w16 hbox hb; have n0_ := bb BK564 hb; have n1_ := bb BK565 hb; have n2_ := bb BK567 hb; have n3_ := Aside0.mk (below_step (by repeat (first | (with_reducible first | exact HB.out | apply qa | apply qn | apply qd | refine qs ?_ GE564.out | refine qs ?_ GE565.out | refine qs ?_ GE567.out) | exact HB.out)) hb); have n4_ := Aside0.mk (hbox); have n5_ := bgw HB hg; have n6_ := bgw HB hg; have n7_ := bnl BK564 hg; have n8_ := bng BK564 hg; have n9_ := bnl BK565 hg; have n10_ := bng BK565 hg; have n11_ := bnl BK567 hg; have n12_ := bng BK567 hg; clear BK564; clear BK565; clear BK567; clear HB; have BK564 := n0_; have BK565 := n1_; have BK567 := n2_; have HB := n3_; have BK574 := n4_; have GW574 := n5_; have GE574 := n6_; have NB564_574 := n7_; have NB574_564 := n8_; have NB565_574 := n9_; have NB574_565 := n10_; have NB567_574 := n11_; have NB574_567 := n12_; clear n0_ n1_ n2_ n3_ n4_ n5_ n6_ n7_ n8_ n9_ n10_ n11_ n12_; clear hb hbox hg; have hnb17 := NB574_564.out; have hnc17 := NB564_574.out; have hnb18 := NB574_565.out; have hnc18 := NB565_574.out; have hnb19 := NB574_567.out; have hnc19 := NB567_574.out; obtain ⟨hcz20_0, hcz20_1, hcz20_2, hcz20_3, hcz20_4⟩ := cl5 BK574.out; obtain ⟨hfz20_0, hfz20_1, hfz20_2, hfz20_3, hfz20_4⟩ := fr5 BK574.out; obtain ⟨hcz21_0, hcz21_1, hcz21_2, hcz21_3, hcz21_4⟩ := cl5 BK565.out; obtain ⟨hfz21_0, hfz21_1, hfz21_2, hfz21_3, hfz21_4⟩ := fr5 BK565.out))
   go_roundg k1
   case measure => have := HK1.out; omega
   case rel => exact ⟨(wrap64 (x11_1 + 1)), (x565000_1), (x565001_1), (x565002_1), (x565003_1), (x565004_1), (t568), (t569), (t570), (t571), (t572), (by first | rfl | (simp; done) | (simp [*]; done)), H', ⟨by have := HK1.out; omega⟩, ⟨by repeat (with_reducible first | exact lb BK564.out | refine blk_far ?_ NB564_565.out _ | refine blk_far ?_ NB564_574.out _ | refine cn ?_ _ | refine cd ?_ | refine ca ?_ _)⟩, ⟨by (with_reducible repeat (first | refine cn ?_ _ | refine cd ?_ | refine ca ?_ _)); refine blk_put (cs := #[.bool t568, .int .u64 t569, .int .u64 t570, .int .u64 t571, .int .u64 x566004_1]) ?_ 4 _ rfl; (with_reducible repeat (first | refine cn ?_ _ | refine cd ?_ | refine ca ?_ _)); refine blk_put (cs := #[.bool t568, .int .u64 t569, .int .u64 t570, .int .u64 x566003_1, .int .u64 x566004_1]) ?_ 3 _ rfl; (with_reducible repeat (first | refine cn ?_ _ | refine cd ?_ | refine ca ?_ _)); refine blk_put (cs := #[.bool t568, .int .u64 t569, .int .u64 x566002_1, .int .u64 x566003_1, .int .u64 x566004_1]) ?_ 2 _ rfl; (with_reducible repeat (first | refine cn ?_ _ | refine cd ?_ | refine ca ?_ _)); refine blk_put (cs := #[.bool t568, .int .u64 x566001_1, .int .u64 x566002_1, .int .u64 x566003_1, .int .u64 x566004_1]) ?_ 1 _ rfl; (with_reducible repeat (first | refine cn ?_ _ | refine cd ?_ | refine ca ?_ _)); refine blk_put (cs := #[.bool x566000_1, .int .u64 x566001_1, .int .u64 x566002_1, .int .u64 x566003_1, .int .u64 x566004_1]) ?_ 0 _ rfl; (with_reducible repeat (first | refine cn ?_ _ | refine cd ?_ | refine ca ?_ _)); refine blk_far ?_ NB565_574.out _; (with_reducible repeat (first | refine cn ?_ _ | refine cd ?_ | refine ca ?_ _)); refine blk_far ?_ NB565_574.out _; (with_reducible repeat (first | refine cn ?_ _ | refine cd ?_ | refine ca ?_ _)); refine blk_far ?_ NB565_574.out _; (with_reducible repeat (first | refine cn ?_ _ | refine cd ?_ | refine ca ?_ _)); refine blk_far ?_ NB565_574.out _; (with_reducible repeat (first | refine cn ?_ _ | refine cd ?_ | refine ca ?_ _)); refine blk_far ?_ NB565_574.out _; (with_reducible repeat (first | refine cn ?_ _ | refine cd ?_ | refine ca ?_ _)); exact BK565.out⟩, ⟨by repeat (first | (with_reducible first | exact HB.out | apply qa | apply qn | apply qd | refine qs ?_ GE564.out | refine qs ?_ GE565.out | refine qs ?_ GE567.out | refine qs ?_ GE574.out) | exact HB.out)⟩⟩
end Go.Proofs.Ytmpbbodafenonaa.MT

/- The functions of the given program told as Lean functions, each with its contract proved; no condition. -/
import Derived.Test.YtbiafpklgkkoaaaMU0
import Derived.Test.YtbiafpklgkkoaaaMU1
import Derived.Test.YtbiafpklgkkoaaaMU2
import Derived.Test.YtbiafpklgkkoaaaMU3
namespace Go.Proofs.Ytbiafpklgkkoaaa.MU
open Go.RowKit Go.Proofs.YtbiafpklgkkoaaaW.PrintWords Go.Proofs.YtbiafpklgkkoaaaW.PrintLast Go.Proofs.YtbiafpklgkkoaaaW.PrintMore
attribute [local go_sem] max2_int min2_int max_two min_two max_three min_three max_four min_four   -- for this text's walks alone
set_option linter.unusedVariables false
set_option linter.unusedSimpArgs false

attribute [local go_sem high] eqA25
/-! ### parquetlaw06_OptionsPrints: function 6 -/
def parquetlaw06_OptionsPrints.j0 : Nat → Int → ByteArray → Bool → Int → Int → Bool → Option (Bool)
  | 0, _, _, _, _, _, _ => none
  | k + 1, x3, x4, x36, x216000, x216001, x216002 => if x36 = true then (some false) else (if x3 = 0 then ((options_Parse.f x4).bind fun bt222 => (if (bt222.1 == x216000 && (bt222.2.1 == x216001 && (bt222.2.2.1 == x216002))) = true then (if bt222.2.2.2.1 = 0 then (if bt222.2.2.2.2 = 0 then ((parquetlaw06_known.f).bind fun t228 => (some t228)) else (some false)) else (some false)) else (some false))) else ((parquetlaw06_known.f).bind fun t229 => (some t229)))
def parquetlaw06_OptionsPrints.f (k : Nat) (a0_0 : Int) (a0_1 : Int) (a0_2 : Bool) : Option (Bool) := (options_Check.f a0_0 a0_1 a0_2).bind fun t216 => ((options_Print.f k a0_0 a0_1 a0_2).bind fun bt217 => ((parquetref06_Print.f k a0_0 a0_1 a0_2).bind fun bt219 => ((parquetref06_Check.f a0_0 a0_1 a0_2).bind fun t221 => (if t216 = t221 then (if bt217.1.toList = bt219.1.toList then (parquetlaw06_OptionsPrints.j0 k t216 bt217.1 (bt217.2 != bt219.2) a0_0 a0_1 a0_2) else (parquetlaw06_OptionsPrints.j0 k t216 bt217.1 true a0_0 a0_1 a0_2)) else (parquetlaw06_OptionsPrints.j0 k t216 bt217.1 true a0_0 a0_1 a0_2)))))
theorem parquetlaw06_OptionsPrints.mono_l : ∀ k, (∀ y0 y1 y2 y3 y4 y5, LeO (parquetlaw06_OptionsPrints.j0 k y0 y1 y2 y3 y4 y5) (parquetlaw06_OptionsPrints.j0 (k + 1) y0 y1 y2 y3 y4 y5))
  | 0 => fun _ _ _ _ _ _ r h => by simp [parquetlaw06_OptionsPrints.j0] at h
  | k + 1 => by
    have ih0 := parquetlaw06_OptionsPrints.mono_l k
    · intro y0 y1 y2 y3 y4 y5
      unfold parquetlaw06_OptionsPrints.j0
      repeat' first
      | (with_reducible exact ih0 _ _ _ _ _ _)
      | (with_reducible exact options_Print.mono _ _ _ _)
      | (with_reducible exact parquetref06_Print.mono _ _ _ _)
      | (with_reducible exact LeO.refl _)
      | (with_reducible exact LeO.none _)
      | (with_reducible refine LeO.ite ?_ ?_)
      | (with_reducible refine LeO.bind ?_ (fun _ => ?_))
      | exact ih0 _ _ _ _ _ _
      | exact options_Print.mono _ _ _ _
      | exact parquetref06_Print.mono _ _ _ _
      | exact LeO.none _
      | refine LeO.ite ?_ ?_
      | refine LeO.bind ?_ (fun _ => ?_)
theorem parquetlaw06_OptionsPrints.mono : ∀ a0 a1 a2 k, LeO (parquetlaw06_OptionsPrints.f k a0 a1 a2) (parquetlaw06_OptionsPrints.f (k + 1) a0 a1 a2) := by
  intro a0 a1 a2 k
  have ih0 := parquetlaw06_OptionsPrints.mono_l k
  unfold parquetlaw06_OptionsPrints.f
  repeat' first
      | (with_reducible exact ih0 _ _ _ _ _ _)
      | (with_reducible exact options_Print.mono _ _ _ _)
      | (with_reducible exact parquetref06_Print.mono _ _ _ _)
      | (with_reducible exact LeO.refl _)
      | (with_reducible exact LeO.none _)
      | (with_reducible refine LeO.ite ?_ ?_)
      | (with_reducible refine LeO.bind ?_ (fun _ => ?_))
      | exact ih0 _ _ _ _ _ _
      | exact options_Print.mono _ _ _ _
      | exact parquetref06_Print.mono _ _ _ _
      | exact LeO.none _
      | refine LeO.ite ?_ ?_
      | refine LeO.bind ?_ (fun _ => ?_)
set_option maxHeartbeats 8000000 in
set_option maxRecDepth 100000 in
theorem parquetlaw06_OptionsPrints.calls (k : Nat) (a0_0 : Int) (a0_1 : Int) (a0_2 : Bool) (r : Bool) (w : World) (h : parquetlaw06_OptionsPrints.f k a0_0 a0_1 a0_2 = some r) (hr_ : r = true) :
    Calls Try.prog 6 #[.agg #[.int .i64 a0_0, .int .i64 a0_1, .bool a0_2]] w fun e w' => e = .returned (.bool r) ∧ Below w.heap.size w w' := by
  have hu25 := Try.underlying25
  have kb := fun W s_ => print_bytes (P := Try.prog) 9 22 5 Try.underlying9 Try.underlying22 Try.underlying5 s_ W
  have HB := Aside0.mk (Below.refl w.heap.size w)
  have H : ((options_Check.f a0_0 a0_1 a0_2).bind fun t216 => ((options_Print.f k a0_0 a0_1 a0_2).bind fun bt217 => ((parquetref06_Print.f k a0_0 a0_1 a0_2).bind fun bt219 => ((parquetref06_Check.f a0_0 a0_1 a0_2).bind fun t221 => (if t216 = t221 then (if bt217.1.toList = bt219.1.toList then (parquetlaw06_OptionsPrints.j0 k t216 bt217.1 (bt217.2 != bt219.2) a0_0 a0_1 a0_2) else (parquetlaw06_OptionsPrints.j0 k t216 bt217.1 true a0_0 a0_1 a0_2)) else (parquetlaw06_OptionsPrints.j0 k t216 bt217.1 true a0_0 a0_1 a0_2)))))) = some r := h
  clear h
  replace H := Option.bind_eq_some_iff.mp H
  obtain ⟨t216, A20, H⟩ := H
  replace H : ((options_Print.f k a0_0 a0_1 a0_2).bind fun bt217 => ((parquetref06_Print.f k a0_0 a0_1 a0_2).bind fun bt219 => ((parquetref06_Check.f a0_0 a0_1 a0_2).bind fun t221 => (if t216 = t221 then (if bt217.1.toList = bt219.1.toList then (parquetlaw06_OptionsPrints.j0 k t216 bt217.1 (bt217.2 != bt219.2) a0_0 a0_1 a0_2) else (parquetlaw06_OptionsPrints.j0 k t216 bt217.1 true a0_0 a0_1 a0_2)) else (parquetlaw06_OptionsPrints.j0 k t216 bt217.1 true a0_0 a0_1 a0_2))))) = some r := H
  have A2 := Aside0.mk A20
  clear A20
  replace H := Option.bind_eq_some_iff.mp H
  obtain ⟨⟨t217, t218⟩, A30, H⟩ := H
  replace H : ((parquetref06_Print.f k a0_0 a0_1 a0_2).bind fun bt219 => ((parquetref06_Check.f a0_0 a0_1 a0_2).bind fun t221 => (if t216 = t221 then (if t217.toList = bt219.1.toList then (parquetlaw06_OptionsPrints.j0 k t216 t217 (t218 != bt219.2) a0_0 a0_1 a0_2) else (parquetlaw06_OptionsPrints.j0 k t216 t217 true a0_0 a0_1 a0_2)) else (parquetlaw06_OptionsPrints.j0 k t216 t217 true a0_0 a0_1 a0_2)))) = some r := H
  have A3 := Aside0.mk A30
  clear A30
  replace H := Option.bind_eq_some_iff.mp H
  obtain ⟨⟨t219, t220⟩, A40, H⟩ := H
  replace H : ((parquetref06_Check.f a0_0 a0_1 a0_2).bind fun t221 => (if t216 = t221 then (if t217.toList = t219.toList then (parquetlaw06_OptionsPrints.j0 k t216 t217 (t218 != t220) a0_0 a0_1 a0_2) else (parquetlaw06_OptionsPrints.j0 k t216 t217 true a0_0 a0_1 a0_2)) else (parquetlaw06_OptionsPrints.j0 k t216 t217 true a0_0 a0_1 a0_2))) = some r := H
  have A4 := Aside0.mk A40
  clear A40
  have HC5 := Aside0.mk H
  clear H
  go_enter Try.func6, Try.ntmps6
  go_upto_region 4 with (first | ((with_reducible refine gate_dst (N := 1) rfl ?_); refine box_event ?hg (N := 1) ?hd (cs := #[.int .i64 a0_0, .int .i64 a0_1, .bool a0_2]) (t := 25) ?hr ?_; (case hd => rfl); (case hg => rfl); (case hr => first | (go_simp; done) | (go_simp; rfl)); intro gb215 hg w6 hbox hb; have n0_ := Aside0.mk (below_step (by repeat (first | (with_reducible first | exact HB.out | apply below_alloc | apply pw_below_drewN | apply below_drew1) | exact HB.out)) hb); have n1_ := Aside0.mk (hbox); have n2_ := Aside0.mk ((by rw [hg]; exact (below_size (by repeat (first | (with_reducible first | exact HB.out | apply below_alloc | apply pw_below_drewN | apply below_drew1) | exact HB.out))) : w.heap.size ≤ gb215)); have n3_ := Aside0.mk ((by rw [hg]; exact (below_size (by repeat (first | (with_reducible first | exact HB.out | apply below_alloc | apply pw_below_drewN | apply below_drew1) | exact HB.out))) : w.heap.size ≤ gb215)); clear HB; have HB := n0_; have BK215 := n1_; have GW215 := n2_; have GE215 := n3_; clear n0_ n1_ n2_ n3_; clear hb hbox hg; have hcz7_0 : w6.cell? ⟨gb215, 0, none⟩ = some (.int .i64 a0_0) := (blk_cell BK215.out 0).trans rfl; have hcz7_1 : w6.cell? ⟨gb215, 1, none⟩ = some (.int .i64 a0_1) := (blk_cell BK215.out 1).trans rfl; have hcz7_2 : w6.cell? ⟨gb215, 2, none⟩ = some (.bool a0_2) := (blk_cell BK215.out 2).trans rfl; have hfz7_0 := blk_frozen BK215.out 0; have hfz7_1 := blk_frozen BK215.out 1; have hfz7_2 := blk_frozen BK215.out 2) | ((with_reducible refine gate_callee (f := 16) rfl ?_); refine goesL_ (some 12) rfl rfl Try.func16 (by kernel_rfl) rfl #[.agg #[.int .i64 a0_0, .int .i64 a0_1, .bool a0_2]] rfl (by (try simp only [List.map_toArray, List.map_cons, List.map_nil]); first | done | rfl | (simp only [List.length_drop, List.length_take]; rfl)) ?_; (with_reducible refine (options_Check.calls a0_0 a0_1 a0_2 t216 _ A2.out).mono ?_); rintro e w8 ⟨rfl, hb⟩; refine ⟨_, rfl, ?_⟩; have n0_ := Aside0.mk (blk_below (g := gb215) (o := .cells #[.int .i64 a0_0, .int .i64 a0_1, .bool a0_2] 25 (0, 0)) (by (with_reducible repeat (first | refine blk_drewN ?_ _ | refine blk_drew ?_ | refine blk_alloc ?_ _)); exact BK215.out) hb); have n1_ := Aside0.mk (below_step (by repeat (first | (with_reducible first | exact HB.out | apply below_alloc | apply pw_below_drewN | apply below_drew1 | refine below_set ?_ GE215.out) | exact HB.out)) hb); clear BK215; clear HB; have BK215 := n0_; have HB := n1_; clear n0_ n1_; (try clear hb); (try clear hb2); (try clear hk); (try clear hi); have hcz9_0 : w8.cell? ⟨gb215, 0, none⟩ = some (.int .i64 a0_0) := (blk_cell BK215.out 0).trans rfl; have hcz9_1 : w8.cell? ⟨gb215, 1, none⟩ = some (.int .i64 a0_1) := (blk_cell BK215.out 1).trans rfl; have hcz9_2 : w8.cell? ⟨gb215, 2, none⟩ = some (.bool a0_2) := (blk_cell BK215.out 2).trans rfl; have hfz9_0 := blk_frozen BK215.out 0; have hfz9_1 := blk_frozen BK215.out 1; have hfz9_2 := blk_frozen BK215.out 2) | ((with_reducible refine gate_callee (f := 17) rfl ?_); refine goesL_ (some 15) rfl rfl Try.func17 (by kernel_rfl) rfl #[.agg #[.int .i64 a0_0, .int .i64 a0_1, .bool a0_2]] rfl (by (try simp only [List.map_toArray, List.map_cons, List.map_nil]); first | done | rfl | (simp only [List.length_drop, List.length_take]; rfl)) ?_; (with_reducible refine (options_Print.calls k a0_0 a0_1 a0_2 t217 t218 _ A3.out).mono ?_); rintro e w10 ⟨rfl, hb⟩; refine ⟨_, rfl, ?_⟩; have n0_ := Aside0.mk (blk_below (g := gb215) (o := .cells #[.int .i64 a0_0, .int .i64 a0_1, .bool a0_2] 25 (0, 0)) (by (with_reducible repeat (first | refine blk_drewN ?_ _ | refine blk_drew ?_ | refine blk_alloc ?_ _)); exact BK215.out) hb); have n1_ := Aside0.mk (below_step (by repeat (first | (with_reducible first | exact HB.out | apply below_alloc | apply pw_below_drewN | apply below_drew1 | refine below_set ?_ GE215.out) | exact HB.out)) hb); clear BK215; clear HB; have BK215 := n0_; have HB := n1_; clear n0_ n1_; (try clear hb); (try clear hb2); (try clear hk); (try clear hi); have hcz11_0 : w10.cell? ⟨gb215, 0, none⟩ = some (.int .i64 a0_0) := (blk_cell BK215.out 0).trans rfl; have hcz11_1 : w10.cell? ⟨gb215, 1, none⟩ = some (.int .i64 a0_1) := (blk_cell BK215.out 1).trans rfl; have hcz11_2 : w10.cell? ⟨gb215, 2, none⟩ = some (.bool a0_2) := (blk_cell BK215.out 2).trans rfl; have hfz11_0 := blk_frozen BK215.out 0; have hfz11_1 := blk_frozen BK215.out 1; have hfz11_2 := blk_frozen BK215.out 2) | ((with_reducible refine gate_callee (f := 15) rfl ?_); refine goesL_ (some 20) rfl rfl Try.func15 (by kernel_rfl) rfl #[.agg #[.int .i64 a0_0, .int .i64 a0_1, .bool a0_2]] rfl (by (try simp only [List.map_toArray, List.map_cons, List.map_nil]); first | done | rfl | (simp only [List.length_drop, List.length_take]; rfl)) ?_; (with_reducible refine (parquetref06_Print.calls k a0_0 a0_1 a0_2 t219 t220 _ A4.out).mono ?_); rintro e w12 ⟨rfl, hb⟩; refine ⟨_, rfl, ?_⟩; have n0_ := Aside0.mk (blk_below (g := gb215) (o := .cells #[.int .i64 a0_0, .int .i64 a0_1, .bool a0_2] 25 (0, 0)) (by (with_reducible repeat (first | refine blk_drewN ?_ _ | refine blk_drew ?_ | refine blk_alloc ?_ _)); exact BK215.out) hb); have n1_ := Aside0.mk (below_step (by repeat (first | (with_reducible first | exact HB.out | apply below_alloc | apply pw_below_drewN | apply below_drew1 | refine below_set ?_ GE215.out) | exact HB.out)) hb); clear BK215; clear HB; have BK215 := n0_; have HB := n1_; clear n0_ n1_; (try clear hb); (try clear hb2); (try clear hk); (try clear hi)))
  (try simp only [Act.put, List.setIfInBounds_toArray, List.set_cons_zero, List.set_cons_succ])
  go_cut [36] (fun v36 wc => ∃ (kq : Nat) (x36_4 : Bool), v36 = .bool x36_4 ∧ Aside0 (parquetlaw06_OptionsPrints.j0 kq t216 t217 x36_4 a0_0 a0_1 a0_2 = some r) ∧ Aside0 (kq ≤ k) ∧ Aside0 (wc.heap[gb215]? = some (.cells #[.int .i64 a0_0, .int .i64 a0_1, .bool a0_2] 25 (0, 0))) ∧ Aside0 (Below w.heap.size w wc))
  case first =>
    have H := HC5.out
    clear HC5
    replace H := Option.bind_eq_some_iff.mp H
    obtain ⟨t221, A130, H⟩ := H
    replace H : (if t216 = t221 then (if t217.toList = t219.toList then (parquetlaw06_OptionsPrints.j0 k t216 t217 (t218 != t220) a0_0 a0_1 a0_2) else (parquetlaw06_OptionsPrints.j0 k t216 t217 true a0_0 a0_1 a0_2)) else (parquetlaw06_OptionsPrints.j0 k t216 t217 true a0_0 a0_1 a0_2)) = some r := H
    have A13 := Aside0.mk A130
    clear A130
    by_cases c14 : t216 = t221
    · rw [if_pos c14] at H
      have c14b0 : (t216 == t221) = true := beq_iff_eq.mpr c14
      have c14b1 : (t216 != t221) = false := bne_eq_false_iff_eq.mpr c14
      clear c14
      (first | rw [c14b0] | (simp only [i64_w, i32_w]; rw [c14b0]) | skip)
      by_cases c15 : t217.toList = t219.toList
      · rw [if_pos c15] at H
        have c15b0 : (t217.toList == t219.toList) = true := beq_iff_eq.mpr c15
        have c15b1 : (t217.toList != t219.toList) = false := bne_eq_false_iff_eq.mpr c15
        clear c15
        have H' := Aside0.mk H
        clear H
        have hcz16_0 : w12.cell? ⟨gb215, 0, none⟩ = some (.int .i64 a0_0) := (blk_cell BK215.out 0).trans rfl
        have hcz16_1 : w12.cell? ⟨gb215, 1, none⟩ = some (.int .i64 a0_1) := (blk_cell BK215.out 1).trans rfl
        have hcz16_2 : w12.cell? ⟨gb215, 2, none⟩ = some (.bool a0_2) := (blk_cell BK215.out 2).trans rfl
        have hfz16_0 := blk_frozen BK215.out 0
        have hfz16_1 := blk_frozen BK215.out 1
        have hfz16_2 := blk_frozen BK215.out 2
        go_wp2_with (first | ((with_reducible refine gate_callee (f := 14) rfl ?_); refine goesL_ (some 25) rfl rfl Try.func14 (by kernel_rfl) rfl #[.agg #[.int .i64 a0_0, .int .i64 a0_1, .bool a0_2]] rfl (by (try simp only [List.map_toArray, List.map_cons, List.map_nil]); first | done | rfl | (simp only [List.length_drop, List.length_take]; rfl)) ?_; (with_reducible refine (parquetref06_Check.calls a0_0 a0_1 a0_2 t221 _ A13.out).mono ?_); rintro e w17 ⟨rfl, hb⟩; refine ⟨_, rfl, ?_⟩; have n0_ := Aside0.mk (blk_below (g := gb215) (o := .cells #[.int .i64 a0_0, .int .i64 a0_1, .bool a0_2] 25 (0, 0)) (by (with_reducible repeat (first | refine blk_drewN ?_ _ | refine blk_drew ?_ | refine blk_alloc ?_ _)); exact BK215.out) hb); have n1_ := Aside0.mk (below_step (by repeat (first | (with_reducible first | exact HB.out | apply below_alloc | apply pw_below_drewN | apply below_drew1 | refine below_set ?_ GE215.out) | exact HB.out)) hb); clear BK215; clear HB; have BK215 := n0_; have HB := n1_; clear n0_ n1_; (try clear hb); (try clear hb2); (try clear hk); (try clear hi)))
        go_meet
        case rel => exact ⟨_, ((t218 != t220)), (by first | rfl | (simp; done) | (simp [*]; done)), H', ⟨by first | omega | exact Nat.le_refl _⟩, ⟨by (with_reducible repeat (first | refine blk_drewN ?_ _ | refine blk_drew ?_ | refine blk_alloc ?_ _)); exact BK215.out⟩, ⟨by repeat (first | (with_reducible first | exact HB.out | apply below_alloc | apply pw_below_drewN | apply below_drew1 | refine below_set ?_ GE215.out) | exact HB.out)⟩⟩
      · rw [if_neg c15] at H
        have c15b0 : (t217.toList == t219.toList) = false := beq_eq_false_iff_ne.mpr c15
        have c15b1 : (t217.toList != t219.toList) = true := bne_iff_ne.mpr c15
        have H' := Aside0.mk H
        clear H
        have hcz18_0 : w12.cell? ⟨gb215, 0, none⟩ = some (.int .i64 a0_0) := (blk_cell BK215.out 0).trans rfl
        have hcz18_1 : w12.cell? ⟨gb215, 1, none⟩ = some (.int .i64 a0_1) := (blk_cell BK215.out 1).trans rfl
        have hcz18_2 : w12.cell? ⟨gb215, 2, none⟩ = some (.bool a0_2) := (blk_cell BK215.out 2).trans rfl
        have hfz18_0 := blk_frozen BK215.out 0
        have hfz18_1 := blk_frozen BK215.out 1
        have hfz18_2 := blk_frozen BK215.out 2
        go_wp2_with (first | ((with_reducible refine gate_callee (f := 14) rfl ?_); refine goesL_ (some 25) rfl rfl Try.func14 (by kernel_rfl) rfl #[.agg #[.int .i64 a0_0, .int .i64 a0_1, .bool a0_2]] rfl (by (try simp only [List.map_toArray, List.map_cons, List.map_nil]); first | done | rfl | (simp only [List.length_drop, List.length_take]; rfl)) ?_; (with_reducible refine (parquetref06_Check.calls a0_0 a0_1 a0_2 t221 _ A13.out).mono ?_); rintro e w19 ⟨rfl, hb⟩; refine ⟨_, rfl, ?_⟩; have n0_ := Aside0.mk (blk_below (g := gb215) (o := .cells #[.int .i64 a0_0, .int .i64 a0_1, .bool a0_2] 25 (0, 0)) (by (with_reducible repeat (first | refine blk_drewN ?_ _ | refine blk_drew ?_ | refine blk_alloc ?_ _)); exact BK215.out) hb); have n1_ := Aside0.mk (below_step (by repeat (first | (with_reducible first | exact HB.out | apply below_alloc | apply pw_below_drewN | apply below_drew1 | refine below_set ?_ GE215.out) | exact HB.out)) hb); clear BK215; clear HB; have BK215 := n0_; have HB := n1_; clear n0_ n1_; (try clear hb); (try clear hb2); (try clear hk); (try clear hi)))
        go_meet
        case rel => exact ⟨_, (true), (by first | rfl | (simp; done) | (simp [*]; done)), H', ⟨by first | omega | exact Nat.le_refl _⟩, ⟨by (with_reducible repeat (first | refine blk_drewN ?_ _ | refine blk_drew ?_ | refine blk_alloc ?_ _)); exact BK215.out⟩, ⟨by repeat (first | (with_reducible first | exact HB.out | apply below_alloc | apply pw_below_drewN | apply below_drew1 | refine below_set ?_ GE215.out) | exact HB.out)⟩⟩
    · rw [if_neg c14] at H
      have c14b0 : (t216 == t221) = false := beq_eq_false_iff_ne.mpr c14
      have c14b1 : (t216 != t221) = true := bne_iff_ne.mpr c14
      (first | rw [c14b0] | (simp only [i64_w, i32_w]; rw [c14b0]) | skip)
      have H' := Aside0.mk H
      clear H
      have hcz20_0 : w12.cell? ⟨gb215, 0, none⟩ = some (.int .i64 a0_0) := (blk_cell BK215.out 0).trans rfl
      have hcz20_1 : w12.cell? ⟨gb215, 1, none⟩ = some (.int .i64 a0_1) := (blk_cell BK215.out 1).trans rfl
      have hcz20_2 : w12.cell? ⟨gb215, 2, none⟩ = some (.bool a0_2) := (blk_cell BK215.out 2).trans rfl
      have hfz20_0 := blk_frozen BK215.out 0
      have hfz20_1 := blk_frozen BK215.out 1
      have hfz20_2 := blk_frozen BK215.out 2
      go_wp2_with (first | ((with_reducible refine gate_callee (f := 14) rfl ?_); refine goesL_ (some 25) rfl rfl Try.func14 (by kernel_rfl) rfl #[.agg #[.int .i64 a0_0, .int .i64 a0_1, .bool a0_2]] rfl (by (try simp only [List.map_toArray, List.map_cons, List.map_nil]); first | done | rfl | (simp only [List.length_drop, List.length_take]; rfl)) ?_; (with_reducible refine (parquetref06_Check.calls a0_0 a0_1 a0_2 t221 _ A13.out).mono ?_); rintro e w21 ⟨rfl, hb⟩; refine ⟨_, rfl, ?_⟩; have n0_ := Aside0.mk (blk_below (g := gb215) (o := .cells #[.int .i64 a0_0, .int .i64 a0_1, .bool a0_2] 25 (0, 0)) (by (with_reducible repeat (first | refine blk_drewN ?_ _ | refine blk_drew ?_ | refine blk_alloc ?_ _)); exact BK215.out) hb); have n1_ := Aside0.mk (below_step (by repeat (first | (with_reducible first | exact HB.out | apply below_alloc | apply pw_below_drewN | apply below_drew1 | refine below_set ?_ GE215.out) | exact HB.out)) hb); clear BK215; clear HB; have BK215 := n0_; have HB := n1_; clear n0_ n1_; (try clear hb); (try clear hb2); (try clear hk); (try clear hi)))
      go_meet
      case rel => exact ⟨_, (true), (by first | rfl | (simp; done) | (simp [*]; done)), H', ⟨by first | omega | exact Nat.le_refl _⟩, ⟨by (with_reducible repeat (first | refine blk_drewN ?_ _ | refine blk_drew ?_ | refine blk_alloc ?_ _)); exact BK215.out⟩, ⟨by repeat (first | (with_reducible first | exact HB.out | apply below_alloc | apply pw_below_drewN | apply below_drew1 | refine below_set ?_ GE215.out) | exact HB.out)⟩⟩
  case rest =>
    clear HC5
    try clear c1
    try clear p2
    try clear c6
    try clear c14
    try clear c14b0
    try clear c14b1
    try clear c15
    try clear c15b0
    try clear c15b1
    try clear c16
    try clear c17
    try clear hcz11_0
    try clear hcz11_1
    try clear hcz11_2
    try clear hcz16_0
    try clear hcz16_1
    try clear hcz16_2
    try clear hcz18_0
    try clear hcz18_1
    try clear hcz18_2
    try clear hcz20_0
    try clear hcz20_1
    try clear hcz20_2
    try clear hcz7_0
    try clear hcz7_1
    try clear hcz7_2
    try clear hcz9_0
    try clear hcz9_1
    try clear hcz9_2
    try clear hfz11_0
    try clear hfz11_1
    try clear hfz11_2
    try clear hfz16_0
    try clear hfz16_1
    try clear hfz16_2
    try clear hfz18_0
    try clear hfz18_1
    try clear hfz18_2
    try clear hfz20_0
    try clear hfz20_1
    try clear hfz20_2
    try clear hfz7_0
    try clear hfz7_1
    try clear hfz7_2
    try clear hfz9_0
    try clear hfz9_1
    try clear hfz9_2
    obtain ⟨kq, x36_4, rfl, HA, HJ4, BK215, HB⟩ := hcut
    cases kq with
    | zero => exact absurd HA.out (by simp [parquetlaw06_OptionsPrints.j0])
    | succ kj4 =>
      have H := HA.out
      clear HA
      simp only [parquetlaw06_OptionsPrints.j0] at H
      by_cases c22 : x36_4 = true
      · subst c22
        have H1 : (some false) = some r := by rw [if_pos rfl] at H; exact H
        clear H
        have H := H1
        clear H1
        exact absurd ((Option.some.inj H).trans hr_) (by decide)
      · replace c22 := Bool.eq_false_iff.mpr c22
        subst c22
        have H1 : (if t216 = 0 then ((options_Parse.f t217).bind fun bt222 => (if (bt222.1 == a0_0 && (bt222.2.1 == a0_1 && (bt222.2.2.1 == a0_2))) = true then (if bt222.2.2.2.1 = 0 then (if bt222.2.2.2.2 = 0 then ((parquetlaw06_known.f).bind fun t228 => (some t228)) else (some false)) else (some false)) else (some false))) else ((parquetlaw06_known.f).bind fun t229 => (some t229))) = some r := by rw [if_neg (show ¬ (false = true) by decide)] at H; exact H
        clear H
        have H := H1
        clear H1
        by_cases c23 : t216 = 0
        · rw [if_pos c23] at H
          have c23b0 : (t216 == 0) = true := beq_iff_eq.mpr c23
          have c23b1 : (t216 != 0) = false := bne_eq_false_iff_eq.mpr c23
          clear c23
          replace H := Option.bind_eq_some_iff.mp H
          obtain ⟨⟨t222, t223, t224, t225, t226⟩, A240, H⟩ := H
          replace H : (if (t222 == a0_0 && (t223 == a0_1 && (t224 == a0_2))) = true then (if t225 = 0 then (if t226 = 0 then ((parquetlaw06_known.f).bind fun t228 => (some t228)) else (some false)) else (some false)) else (some false)) = some r := H
          have A24 := Aside0.mk A240
          clear A240
          by_cases c25 : (t222 == a0_0 && (t223 == a0_1 && (t224 == a0_2))) = true
          · rw [if_pos c25] at H
            have c25b0 : (t222 == a0_0 && (t223 == a0_1 && (t224 == a0_2))) = true := c25
            (try (have c25b1 : decide (t222 = a0_0 && (t223 == a0_1 && (t224 == a0_2))) = true := by simpa using c25))
            (try (have c25b2 : (t222 == a0_0 && (t223 == a0_1 && (t224 == a0_2))) = true := by simpa using c25))
            clear c25
            by_cases c26 : t225 = 0
            · rw [if_pos c26] at H
              have c26b0 : (t225 == 0) = true := beq_iff_eq.mpr c26
              have c26b1 : (t225 != 0) = false := bne_eq_false_iff_eq.mpr c26
              clear c26
              by_cases c27 : t226 = 0
              · rw [if_pos c27] at H
                have c27b0 : (t226 == 0) = true := beq_iff_eq.mpr c27
                have c27b1 : (t226 != 0) = false := bne_eq_false_iff_eq.mpr c27
                clear c27
                replace H := Option.bind_eq_some_iff.mp H
                obtain ⟨t228, A280, H⟩ := H
                replace H : (some t228) = some r := H
                have A28 := Aside0.mk A280
                clear A280
                obtain rfl := Option.some.inj H
                go_wp2_with (first | ((with_reducible refine gate_callee (f := 10) rfl ?_); refine goesL_ (some 43) rfl rfl Try.func10 (by kernel_rfl) rfl #[.slice (some ⟨_, 0, none⟩) _ _] rfl (by (try simp only [List.map_toArray, List.map_cons, List.map_nil]); rfl) ?_; (with_reducible refine (options_Parse.calls t217 t222 t223 t224 t225 t226 _ A24.out ?hn ?hb ?hc).mono ?_); (case hn => first | (with_reducible rfl) | (simp only [ByteArray.size_append]; first | done | rfl) | (simp only [ByteArray.size_append, hxe]; first | done | rfl)); (case hb => first | (with_reducible rfl) | simp); (case hc => exact grownCap_ge _ _ _ _); rintro e w29 ⟨rfl, hb⟩; refine ⟨_, rfl, ?_⟩; have n0_ := Aside0.mk (blk_below (g := gb215) (o := .cells #[.int .i64 a0_0, .int .i64 a0_1, .bool a0_2] 25 (0, 0)) (by (with_reducible repeat (first | refine blk_drewN ?_ _ | refine blk_drew ?_ | refine blk_alloc ?_ _)); exact BK215.out) hb); have n1_ := Aside0.mk (below_step (by repeat (first | (with_reducible first | exact HB.out | apply below_alloc | apply pw_below_drewN | apply below_drew1 | refine below_set ?_ GE215.out) | exact HB.out)) hb); clear BK215; clear HB; have BK215 := n0_; have HB := n1_; clear n0_ n1_; (try clear hb); (try clear hb2); (try clear hk); (try clear hi)) | ((with_reducible refine gate_dst (N := 8) rfl ?_); refine box_event ?hg (N := 8) ?hd (cs := #[.int .i64 0, .int .i64 0, .bool false]) (t := 25) ?hr ?_; (case hd => rfl); (case hg => rfl); (case hr => first | (go_simp; done) | (go_simp; rfl)); intro gb227 hg w30 hbox hb; have n0_ := Aside0.mk (blk_below (g := gb215) (o := .cells #[.int .i64 a0_0, .int .i64 a0_1, .bool a0_2] 25 (0, 0)) (by (with_reducible repeat (first | refine blk_drewN ?_ _ | refine blk_drew ?_ | refine blk_alloc ?_ _)); exact BK215.out) hb); have n1_ := Aside0.mk (below_step (by repeat (first | (with_reducible first | exact HB.out | apply below_alloc | apply pw_below_drewN | apply below_drew1 | refine below_set ?_ GE215.out) | exact HB.out)) hb); have n2_ := Aside0.mk (hbox); have n3_ := Aside0.mk ((by rw [hg]; exact (below_size (by repeat (first | (with_reducible first | exact HB.out | apply below_alloc | apply pw_below_drewN | apply below_drew1 | refine below_set ?_ GE215.out) | exact HB.out))) : w.heap.size ≤ gb227)); have n4_ := Aside0.mk ((by rw [hg]; exact (below_size (by repeat (first | (with_reducible first | exact HB.out | apply below_alloc | apply pw_below_drewN | apply below_drew1 | refine below_set ?_ GE215.out) | exact HB.out))) : w.heap.size ≤ gb227)); have n5_ := Aside0.mk ((by rw [hg]; exact Nat.ne_of_lt (blk_lt (g := gb215) (o := .cells #[.int .i64 a0_0, .int .i64 a0_1, .bool a0_2] 25 (0, 0)) (by (with_reducible repeat (first | refine blk_drewN ?_ _ | refine blk_drew ?_ | refine blk_alloc ?_ _)); exact BK215.out)) : gb215 ≠ gb227)); have n6_ := Aside0.mk ((by rw [hg]; exact Nat.ne_of_gt (blk_lt (g := gb215) (o := .cells #[.int .i64 a0_0, .int .i64 a0_1, .bool a0_2] 25 (0, 0)) (by (with_reducible repeat (first | refine blk_drewN ?_ _ | refine blk_drew ?_ | refine blk_alloc ?_ _)); exact BK215.out)) : gb227 ≠ gb215)); clear BK215; clear HB; have BK215 := n0_; have HB := n1_; have BK227 := n2_; have GW227 := n3_; have GE227 := n4_; have NB215_227 := n5_; have NB227_215 := n6_; clear n0_ n1_ n2_ n3_ n4_ n5_ n6_; clear hb hbox hg; have hnb31 := NB227_215.out; have hnc31 := NB215_227.out; have hcz32_0 : w30.cell? ⟨gb227, 0, none⟩ = some (.int .i64 0) := (blk_cell BK227.out 0).trans rfl; have hcz32_1 : w30.cell? ⟨gb227, 1, none⟩ = some (.int .i64 0) := (blk_cell BK227.out 1).trans rfl; have hcz32_2 : w30.cell? ⟨gb227, 2, none⟩ = some (.bool false) := (blk_cell BK227.out 2).trans rfl; have hfz32_0 := blk_frozen BK227.out 0; have hfz32_1 := blk_frozen BK227.out 1; have hfz32_2 := blk_frozen BK227.out 2; have hcz33_0 : w30.cell? ⟨gb215, 0, none⟩ = some (.int .i64 a0_0) := (blk_cell BK215.out 0).trans rfl; have hcz33_1 : w30.cell? ⟨gb215, 1, none⟩ = some (.int .i64 a0_1) := (blk_cell BK215.out 1).trans rfl; have hcz33_2 : w30.cell? ⟨gb215, 2, none⟩ = some (.bool a0_2) := (blk_cell BK215.out 2).trans rfl; have hfz33_0 := blk_frozen BK215.out 0; have hfz33_1 := blk_frozen BK215.out 1; have hfz33_2 := blk_frozen BK215.out 2) | (go_at_call 9; (with_reducible refine (parquetlaw06_known.calls  t228 _ A28.out).mono ?_); rintro e w34 ⟨rfl, hb⟩; have n0_ := Aside0.mk (blk_below (g := gb215) (o := .cells #[.int .i64 a0_0, .int .i64 a0_1, .bool a0_2] 25 (0, 0)) (by (with_reducible repeat (first | refine blk_drewN ?_ _ | refine blk_drew ?_ | refine blk_alloc ?_ _)); refine blk_far ?_ NB215_227.out _; (with_reducible repeat (first | refine blk_drewN ?_ _ | refine blk_drew ?_ | refine blk_alloc ?_ _)); refine blk_far ?_ NB215_227.out _; (with_reducible repeat (first | refine blk_drewN ?_ _ | refine blk_drew ?_ | refine blk_alloc ?_ _)); refine blk_far ?_ NB215_227.out _; (with_reducible repeat (first | refine blk_drewN ?_ _ | refine blk_drew ?_ | refine blk_alloc ?_ _)); exact BK215.out) hb); have n1_ := Aside0.mk (blk_below (g := gb227) (o := .cells #[.int .i64 t222, .int .i64 t223, .bool t224] 25 (0, 0)) (by (with_reducible repeat (first | refine blk_drewN ?_ _ | refine blk_drew ?_ | refine blk_alloc ?_ _)); refine blk_put (cs := #[.int .i64 t222, .int .i64 t223, .bool false]) ?_ 2 _ rfl; (with_reducible repeat (first | refine blk_drewN ?_ _ | refine blk_drew ?_ | refine blk_alloc ?_ _)); refine blk_put (cs := #[.int .i64 t222, .int .i64 0, .bool false]) ?_ 1 _ rfl; (with_reducible repeat (first | refine blk_drewN ?_ _ | refine blk_drew ?_ | refine blk_alloc ?_ _)); refine blk_put (cs := #[.int .i64 0, .int .i64 0, .bool false]) ?_ 0 _ rfl; (with_reducible repeat (first | refine blk_drewN ?_ _ | refine blk_drew ?_ | refine blk_alloc ?_ _)); exact BK227.out) hb); have n2_ := Aside0.mk (below_step (by repeat (first | (with_reducible first | exact HB.out | apply below_alloc | apply pw_below_drewN | apply below_drew1 | refine below_set ?_ GE215.out | refine below_set ?_ GE227.out) | exact HB.out)) hb); clear BK215; clear BK227; clear HB; have BK215 := n0_; have BK227 := n1_; have HB := n2_; clear n0_ n1_ n2_; (try clear hb); (try clear hb2); (try clear hk); (try clear hi)))
                go_ret
                exact ⟨by first | rfl | (simp [errW_none, errW_some] <;> rfl) | (simp [*, errW_none, errW_some] <;> rfl), by repeat (first | (with_reducible first | exact HB.out | apply below_alloc | apply pw_below_drewN | apply below_drew1 | refine below_set ?_ GE215.out | refine below_set ?_ GE227.out) | exact HB.out)⟩
              · rw [if_neg c27] at H
                have c27b0 : (t226 == 0) = false := beq_eq_false_iff_ne.mpr c27
                have c27b1 : (t226 != 0) = true := bne_iff_ne.mpr c27
                exact absurd ((Option.some.inj H).trans hr_) (by decide)
            · rw [if_neg c26] at H
              have c26b0 : (t225 == 0) = false := beq_eq_false_iff_ne.mpr c26
              have c26b1 : (t225 != 0) = true := bne_iff_ne.mpr c26
              exact absurd ((Option.some.inj H).trans hr_) (by decide)
          · rw [if_neg c25] at H
            have c25b0 : (t222 == a0_0 && (t223 == a0_1 && (t224 == a0_2))) = false := by simpa using c25
            (try (have c25b1 : decide (t222 = a0_0 && (t223 == a0_1 && (t224 == a0_2))) = false := by simpa using c25))
            (try (have c25b2 : (t222 == a0_0 && (t223 == a0_1 && (t224 == a0_2))) = false := by simpa using c25))
            (try (have c25b3 : ¬ (t222 = a0_0 && (t223 == a0_1 && (t224 == a0_2))) := by simpa using c25))
            clear c25
            exact absurd ((Option.some.inj H).trans hr_) (by decide)
        · rw [if_neg c23] at H
          have c23b0 : (t216 == 0) = false := beq_eq_false_iff_ne.mpr c23
          have c23b1 : (t216 != 0) = true := bne_iff_ne.mpr c23
          replace H := Option.bind_eq_some_iff.mp H
          obtain ⟨t229, A350, H⟩ := H
          replace H : (some t229) = some r := H
          have A35 := Aside0.mk A350
          clear A350
          obtain rfl := Option.some.inj H
          go_wp2_with (first | ((with_reducible refine gate_callee (f := 9) rfl ?_); refine goesL_ (some 39) rfl rfl Try.func9 (by kernel_rfl) rfl #[] rfl (by (try simp only [List.map_toArray, List.map_cons, List.map_nil]); first | done | rfl | (simp only [List.length_drop, List.length_take]; rfl)) ?_; (with_reducible refine (parquetlaw06_known.calls  t229 _ A35.out).mono ?_); rintro e w36 ⟨rfl, hb⟩; refine ⟨_, rfl, ?_⟩; have n0_ := Aside0.mk (blk_below (g := gb215) (o := .cells #[.int .i64 a0_0, .int .i64 a0_1, .bool a0_2] 25 (0, 0)) (by (with_reducible repeat (first | refine blk_drewN ?_ _ | refine blk_drew ?_ | refine blk_alloc ?_ _)); exact BK215.out) hb); have n1_ := Aside0.mk (below_step (by repeat (first | (with_reducible first | exact HB.out | apply below_alloc | apply pw_below_drewN | apply below_drew1 | refine below_set ?_ GE215.out) | exact HB.out)) hb); clear BK215; clear HB; have BK215 := n0_; have HB := n1_; clear n0_ n1_; (try clear hb); (try clear hb2); (try clear hk); (try clear hi)))
          go_ret
          exact ⟨by first | rfl | (simp [errW_none, errW_some] <;> rfl) | (simp [*, errW_none, errW_some] <;> rfl), by repeat (first | (with_reducible first | exact HB.out | apply below_alloc | apply pw_below_drewN | apply below_drew1 | refine below_set ?_ GE215.out) | exact HB.out)⟩

/-! ### parquetlaw06_digits: function 18 -/
def parquetlaw06_digits.l0 : Nat → Int → Int → Option (Int)
  | 0, _, _ => none
  | k + 1, x0, x3 => if x0 > 0 then (parquetlaw06_digits.l0 k (wrap64 (Int.tdiv x0 10)) (wrap64 (x3 + 1))) else (some x3)
def parquetlaw06_digits.f (k : Nat) (a0 : Int) : Option (Int) := parquetlaw06_digits.l0 k a0 0
theorem parquetlaw06_digits.mono_l : ∀ k, (∀ y0 y1, LeO (parquetlaw06_digits.l0 k y0 y1) (parquetlaw06_digits.l0 (k + 1) y0 y1))
  | 0 => fun _ _ r h => by simp [parquetlaw06_digits.l0] at h
  | k + 1 => by
    have ih0 := parquetlaw06_digits.mono_l k
    · intro y0 y1
      unfold parquetlaw06_digits.l0
      repeat' first
      | (with_reducible exact ih0 _ _)
      | (with_reducible exact LeO.refl _)
      | (with_reducible exact LeO.none _)
      | (with_reducible refine LeO.ite ?_ ?_)
      | (with_reducible refine LeO.bind ?_ (fun _ => ?_))
      | exact ih0 _ _
      | exact LeO.none _
      | refine LeO.ite ?_ ?_
      | refine LeO.bind ?_ (fun _ => ?_)
theorem parquetlaw06_digits.mono : ∀ a0 k, LeO (parquetlaw06_digits.f k a0) (parquetlaw06_digits.f (k + 1) a0) := by
  intro a0 k
  have ih0 := parquetlaw06_digits.mono_l k
  unfold parquetlaw06_digits.f
  repeat' first
      | (with_reducible exact ih0 _ _)
      | (with_reducible exact LeO.refl _)
      | (with_reducible exact LeO.none _)
      | (with_reducible refine LeO.ite ?_ ?_)
      | (with_reducible refine LeO.bind ?_ (fun _ => ?_))
      | exact ih0 _ _
      | exact LeO.none _
      | refine LeO.ite ?_ ?_
      | refine LeO.bind ?_ (fun _ => ?_)
set_option maxHeartbeats 8000000 in
set_option maxRecDepth 100000 in
theorem parquetlaw06_digits.calls (k : Nat) (a0 : Int) (r : Int) (w : World) (h : parquetlaw06_digits.f k a0 = some r) :
    Calls Try.prog 18 #[.int .i64 a0] w fun e w' => e = .returned (.int .i64 r) ∧ Drawn0 w w' := by
  have kb := fun W s_ => print_bytes (P := Try.prog) 9 22 5 Try.underlying9 Try.underlying22 Try.underlying5 s_ W
  have H : (parquetlaw06_digits.l0 k a0 0) = some r := h
  clear h
  have H' := Aside0.mk H
  clear H
  go_enter Try.func18, Try.ntmps18
  go_wp2
  go_loopg [0, 3] k (fun kq v0 v3 w' => ∃ (x0_1 : Int) (x3_1 : Int), v0 = .int .i64 x0_1 ∧ v3 = .int .i64 x3_1 ∧ Aside0 (parquetlaw06_digits.l0 kq x0_1 x3_1 = some r) ∧ Aside0 (kq ≤ k) ∧ Drawn0 w w')
  case atStart => exact ⟨(a0), (0), (by first | rfl | (simp; done) | (simp [*]; done)), (by first | rfl | (simp; done) | (simp [*]; done)), H', ⟨Nat.le_refl _⟩, by repeat (first | exact Drawn0.refl _ | apply Drawn0.step)⟩
  case round =>
    clear H'
    try clear c1
    obtain ⟨x0_1, x3_1, rfl, rfl, HA, HK1, ⟨m1, rfl⟩⟩ := hrel
    cases gk with
    | zero => exact absurd HA.out (by simp [parquetlaw06_digits.l0])
    | succ k1 =>
      have H := HA.out
      clear HA
      simp only [parquetlaw06_digits.l0] at H
      by_cases c2 : x0_1 > 0
      · rw [if_pos c2] at H
        have c2b0 : decide (0 < x0_1) = true := decide_eq_true c2
        clear c2
        have H' := Aside0.mk H
        clear H
        go_wp2
        go_roundg k1
        case measure => have := HK1.out; omega
        case rel => exact ⟨(wrap64 (Int.tdiv x0_1 10)), (wrap64 (x3_1 + 1)), (by first | rfl | (simp; done) | (simp [*]; done)), (by first | rfl | (simp; done) | (simp [*]; done)), H', ⟨by have := HK1.out; omega⟩, by repeat (first | exact Drawn0.refl _ | apply Drawn0.step)⟩
      · rw [if_neg c2] at H
        have c2b0 : decide (0 < x0_1) = false := decide_eq_false c2
        clear c2
        obtain rfl := Option.some.inj H
        go_wp2
        go_ret
        exact ⟨by first | rfl | (simp; done) | (simp [*]; done), by repeat (first | exact Drawn0.refl _ | apply Drawn0.step)⟩

/-! ### parquetlaw06_OptionsOrder: function 7 -/
def parquetlaw06_OptionsOrder.j0 : Nat → ByteArray → Int → Bool → Int → Int → Bool → Option (Bool)
  | 0, _, _, _, _, _, _ => none
  | k + 1, x5, x6, x35, x231000, x231001, x231002 => if x35 = true then ((options_Check.f x231000 x231001 x231002).bind fun t233 => (if ((x6 == 0) == (t233 == 0)) = true then ((parquetlaw06_known.f).bind fun t234 => (some t234)) else (some false))) else (if (x5.size : Int) < 11 then (some false) else ((parquetlaw06_digits.f k x231001).bind fun t235 => (if 0 ≤ (wrap64 ((wrap64 ((x5.size : Int) - 8)) - t235)) then (if (wrap64 ((wrap64 ((x5.size : Int) - 8)) - t235)) ≤ (wrap64 ((x5.size : Int) - 8)) then (if (wrap64 ((x5.size : Int) - 8)) ≤ (x5.size : Int) then (if 7 + (x5.extract ((wrap64 ((wrap64 ((x5.size : Int) - 8)) - t235)) : Int).toNat ((wrap64 ((x5.size : Int) - 8)) : Int).toNat).size ≤ 9223372036854775807 then ((some (([(⟨#[116, 114, 105]⟩ : ByteArray), (⟨#[113, 117, 97, 100]⟩ : ByteArray), (⟨#[97, 108, 108]⟩ : ByteArray)] : List ByteArray) : List ByteArray)).bind fun y236 => (if 0 ≤ (wrap64 (x231000 - 1)) then (if (wrap64 (x231000 - 1)) < (y236.length : Int) then (if (rdOf ByteArray.empty y236 (wrap64 (x231000 - 1))).size + 8 ≤ 9223372036854775807 then (if ((rdOf ByteArray.empty y236 (wrap64 (x231000 - 1))) ++ (⟨#[32, 114, 101, 102, 105, 110, 101, 32]⟩ : ByteArray)).size + ((⟨#[98, 117, 100, 103, 101, 116, 32]⟩ : ByteArray) ++ (x5.extract ((wrap64 ((wrap64 ((x5.size : Int) - 8)) - t235)) : Int).toNat ((wrap64 ((x5.size : Int) - 8)) : Int).toNat)).size ≤ 9223372036854775807 then ((options_Parse.f (((rdOf ByteArray.empty y236 (wrap64 (x231000 - 1))) ++ (⟨#[32, 114, 101, 102, 105, 110, 101, 32]⟩ : ByteArray)) ++ ((⟨#[98, 117, 100, 103, 101, 116, 32]⟩ : ByteArray) ++ (x5.extract ((wrap64 ((wrap64 ((x5.size : Int) - 8)) - t235)) : Int).toNat ((wrap64 ((x5.size : Int) - 8)) : Int).toNat)))).bind fun bt240 => (if (((rdOf ByteArray.empty y236 (wrap64 (x231000 - 1))) ++ (⟨#[32, 114, 101, 102, 105, 110, 101, 32]⟩ : ByteArray)) ++ ((⟨#[98, 117, 100, 103, 101, 116, 32]⟩ : ByteArray) ++ (x5.extract ((wrap64 ((wrap64 ((x5.size : Int) - 8)) - t235)) : Int).toNat ((wrap64 ((x5.size : Int) - 8)) : Int).toNat))).size + 7 ≤ 9223372036854775807 then ((options_Parse.f ((((rdOf ByteArray.empty y236 (wrap64 (x231000 - 1))) ++ (⟨#[32, 114, 101, 102, 105, 110, 101, 32]⟩ : ByteArray)) ++ ((⟨#[98, 117, 100, 103, 101, 116, 32]⟩ : ByteArray) ++ (x5.extract ((wrap64 ((wrap64 ((x5.size : Int) - 8)) - t235)) : Int).toNat ((wrap64 ((x5.size : Int) - 8)) : Int).toNat))) ++ (⟨#[32, 114, 101, 102, 105, 110, 101]⟩ : ByteArray))).bind fun bt246 => (if (((rdOf ByteArray.empty y236 (wrap64 (x231000 - 1))) ++ (⟨#[32, 114, 101, 102, 105, 110, 101, 32]⟩ : ByteArray)) ++ ((⟨#[98, 117, 100, 103, 101, 116, 32]⟩ : ByteArray) ++ (x5.extract ((wrap64 ((wrap64 ((x5.size : Int) - 8)) - t235)) : Int).toNat ((wrap64 ((x5.size : Int) - 8)) : Int).toNat))).size + 1 ≤ 9223372036854775807 then (if ((((rdOf ByteArray.empty y236 (wrap64 (x231000 - 1))) ++ (⟨#[32, 114, 101, 102, 105, 110, 101, 32]⟩ : ByteArray)) ++ ((⟨#[98, 117, 100, 103, 101, 116, 32]⟩ : ByteArray) ++ (x5.extract ((wrap64 ((wrap64 ((x5.size : Int) - 8)) - t235)) : Int).toNat ((wrap64 ((x5.size : Int) - 8)) : Int).toNat))) ++ (⟨#[32]⟩ : ByteArray)).size + ((⟨#[98, 117, 100, 103, 101, 116, 32]⟩ : ByteArray) ++ (x5.extract ((wrap64 ((wrap64 ((x5.size : Int) - 8)) - t235)) : Int).toNat ((wrap64 ((x5.size : Int) - 8)) : Int).toNat)).size ≤ 9223372036854775807 then ((options_Parse.f (((((rdOf ByteArray.empty y236 (wrap64 (x231000 - 1))) ++ (⟨#[32, 114, 101, 102, 105, 110, 101, 32]⟩ : ByteArray)) ++ ((⟨#[98, 117, 100, 103, 101, 116, 32]⟩ : ByteArray) ++ (x5.extract ((wrap64 ((wrap64 ((x5.size : Int) - 8)) - t235)) : Int).toNat ((wrap64 ((x5.size : Int) - 8)) : Int).toNat))) ++ (⟨#[32]⟩ : ByteArray)) ++ ((⟨#[98, 117, 100, 103, 101, 116, 32]⟩ : ByteArray) ++ (x5.extract ((wrap64 ((wrap64 ((x5.size : Int) - 8)) - t235)) : Int).toNat ((wrap64 ((x5.size : Int) - 8)) : Int).toNat)))).bind fun bt252 => (if (bt240.1 == x231000 && (bt240.2.1 == x231001 && (bt240.2.2.1 == x231002))) = true then (if bt240.2.2.2.1 = 0 then (if bt240.2.2.2.2 = 0 then (if bt246.2.2.2.1 = (wrap64 (((((rdOf ByteArray.empty y236 (wrap64 (x231000 - 1))) ++ (⟨#[32, 114, 101, 102, 105, 110, 101, 32]⟩ : ByteArray)) ++ ((⟨#[98, 117, 100, 103, 101, 116, 32]⟩ : ByteArray) ++ (x5.extract ((wrap64 ((wrap64 ((x5.size : Int) - 8)) - t235)) : Int).toNat ((wrap64 ((x5.size : Int) - 8)) : Int).toNat))).size : Int) + 1)) then (if bt246.2.2.2.2 = 11 then (if bt252.2.2.2.1 = (wrap64 (((((rdOf ByteArray.empty y236 (wrap64 (x231000 - 1))) ++ (⟨#[32, 114, 101, 102, 105, 110, 101, 32]⟩ : ByteArray)) ++ ((⟨#[98, 117, 100, 103, 101, 116, 32]⟩ : ByteArray) ++ (x5.extract ((wrap64 ((wrap64 ((x5.size : Int) - 8)) - t235)) : Int).toNat ((wrap64 ((x5.size : Int) - 8)) : Int).toNat))).size : Int) + 1)) then (if bt252.2.2.2.2 = 11 then ((parquetlaw06_known.f).bind fun t258 => (some t258)) else (some false)) else (some false)) else (some false)) else (some false)) else (some false)) else (some false)) else (some false))) else (none)) else (none))) else (none))) else (none)) else (none)) else (none)) else (none))) else (none)) else (none)) else (none)) else (none))))
def parquetlaw06_OptionsOrder.f (k : Nat) (a0_0 : Int) (a0_1 : Int) (a0_2 : Bool) (a1 : Bool) : Option (Bool) := (options_Print.f k a0_0 a0_1 a0_2).bind fun bt231 => (if bt231.2 = 0 then (if a0_1 = 0 then (parquetlaw06_OptionsOrder.j0 k bt231.1 bt231.2 true a0_0 a0_1 a0_2) else (parquetlaw06_OptionsOrder.j0 k bt231.1 bt231.2 (!a0_2) a0_0 a0_1 a0_2)) else (parquetlaw06_OptionsOrder.j0 k bt231.1 bt231.2 true a0_0 a0_1 a0_2))
theorem parquetlaw06_OptionsOrder.mono_l : ∀ k, (∀ y0 y1 y2 y3 y4 y5, LeO (parquetlaw06_OptionsOrder.j0 k y0 y1 y2 y3 y4 y5) (parquetlaw06_OptionsOrder.j0 (k + 1) y0 y1 y2 y3 y4 y5))
  | 0 => fun _ _ _ _ _ _ r h => by simp [parquetlaw06_OptionsOrder.j0] at h
  | k + 1 => by
    have ih0 := parquetlaw06_OptionsOrder.mono_l k
    · intro y0 y1 y2 y3 y4 y5
      unfold parquetlaw06_OptionsOrder.j0
      repeat' first
      | (with_reducible exact ih0 _ _ _ _ _ _)
      | (with_reducible exact options_Print.mono _ _ _ _)
      | (with_reducible exact parquetlaw06_digits.mono _ _)
      | (with_reducible exact LeO.refl _)
      | (with_reducible exact LeO.none _)
      | (with_reducible refine LeO.ite ?_ ?_)
      | (with_reducible refine LeO.bind ?_ (fun _ => ?_))
      | exact ih0 _ _ _ _ _ _
      | exact options_Print.mono _ _ _ _
      | exact parquetlaw06_digits.mono _ _
      | exact LeO.none _
      | refine LeO.ite ?_ ?_
      | refine LeO.bind ?_ (fun _ => ?_)
theorem parquetlaw06_OptionsOrder.mono : ∀ a0 a1 a2 a3 k, LeO (parquetlaw06_OptionsOrder.f k a0 a1 a2 a3) (parquetlaw06_OptionsOrder.f (k + 1) a0 a1 a2 a3) := by
  intro a0 a1 a2 a3 k
  have ih0 := parquetlaw06_OptionsOrder.mono_l k
  unfold parquetlaw06_OptionsOrder.f
  repeat' first
      | (with_reducible exact ih0 _ _ _ _ _ _)
      | (with_reducible exact options_Print.mono _ _ _ _)
      | (with_reducible exact parquetlaw06_digits.mono _ _)
      | (with_reducible exact LeO.refl _)
      | (with_reducible exact LeO.none _)
      | (with_reducible refine LeO.ite ?_ ?_)
      | (with_reducible refine LeO.bind ?_ (fun _ => ?_))
      | exact ih0 _ _ _ _ _ _
      | exact options_Print.mono _ _ _ _
      | exact parquetlaw06_digits.mono _ _
      | exact LeO.none _
      | refine LeO.ite ?_ ?_
      | refine LeO.bind ?_ (fun _ => ?_)
set_option maxHeartbeats 8000000 in
set_option maxRecDepth 100000 in
theorem parquetlaw06_OptionsOrder.calls (k : Nat) (a0_0 : Int) (a0_1 : Int) (a0_2 : Bool) (a1 : Bool) (r : Bool) (w : World) (h : parquetlaw06_OptionsOrder.f k a0_0 a0_1 a0_2 a1 = some r) (hr_ : r = true) :
    Calls Try.prog 7 #[.agg #[.int .i64 a0_0, .int .i64 a0_1, .bool a0_2], .bool a1] w fun e w' => e = .returned (.bool r) ∧ Below w.heap.size w w' := by
  have hu25 := Try.underlying25
  have kb := fun W s_ => print_bytes (P := Try.prog) 9 22 5 Try.underlying9 Try.underlying22 Try.underlying5 s_ W
  have HB := Aside0.mk (Below.refl w.heap.size w)
  have H : ((options_Print.f k a0_0 a0_1 a0_2).bind fun bt231 => (if bt231.2 = 0 then (if a0_1 = 0 then (parquetlaw06_OptionsOrder.j0 k bt231.1 bt231.2 true a0_0 a0_1 a0_2) else (parquetlaw06_OptionsOrder.j0 k bt231.1 bt231.2 (!a0_2) a0_0 a0_1 a0_2)) else (parquetlaw06_OptionsOrder.j0 k bt231.1 bt231.2 true a0_0 a0_1 a0_2))) = some r := h
  clear h
  replace H := Option.bind_eq_some_iff.mp H
  obtain ⟨⟨t231, t232⟩, A30, H⟩ := H
  replace H : (if t232 = 0 then (if a0_1 = 0 then (parquetlaw06_OptionsOrder.j0 k t231 t232 true a0_0 a0_1 a0_2) else (parquetlaw06_OptionsOrder.j0 k t231 t232 (!a0_2) a0_0 a0_1 a0_2)) else (parquetlaw06_OptionsOrder.j0 k t231 t232 true a0_0 a0_1 a0_2)) = some r := H
  have A3 := Aside0.mk A30
  clear A30
  have HC4 := Aside0.mk H
  clear H
  go_enter Try.func7, Try.ntmps7
  go_upto_region 2 with (first | ((with_reducible refine gate_dst (N := 2) rfl ?_); (try (refine gate_guard (by rfl) ?_; dsimp only)); refine box_event ?hg (N := 2) ?hd (cs := #[.int .i64 a0_0, .int .i64 a0_1, .bool a0_2]) (t := 25) ?hr ?_; (case hd => rfl); (case hg => rfl); (case hr => first | (go_simp; done) | (go_simp; rfl)); intro gb230 hg w5 hbox hb; have n0_ := Aside0.mk (below_step (by repeat (first | (with_reducible first | exact HB.out | apply below_alloc | apply pw_below_drewN | apply below_drew1) | exact HB.out)) hb); have n1_ := Aside0.mk (hbox); have n2_ := Aside0.mk ((by rw [hg]; exact (below_size (by repeat (first | (with_reducible first | exact HB.out | apply below_alloc | apply pw_below_drewN | apply below_drew1) | exact HB.out))) : w.heap.size ≤ gb230)); have n3_ := Aside0.mk ((by rw [hg]; exact (below_size (by repeat (first | (with_reducible first | exact HB.out | apply below_alloc | apply pw_below_drewN | apply below_drew1) | exact HB.out))) : w.heap.size ≤ gb230)); clear HB; have HB := n0_; have BK230 := n1_; have GW230 := n2_; have GE230 := n3_; clear n0_ n1_ n2_ n3_; clear hb hbox hg; have hcz6_0 : w5.cell? ⟨gb230, 0, none⟩ = some (.int .i64 a0_0) := (blk_cell BK230.out 0).trans rfl; have hcz6_1 : w5.cell? ⟨gb230, 1, none⟩ = some (.int .i64 a0_1) := (blk_cell BK230.out 1).trans rfl; have hcz6_2 : w5.cell? ⟨gb230, 2, none⟩ = some (.bool a0_2) := (blk_cell BK230.out 2).trans rfl; have hfz6_0 := blk_frozen BK230.out 0; have hfz6_1 := blk_frozen BK230.out 1; have hfz6_2 := blk_frozen BK230.out 2) | ((with_reducible refine gate_callee (f := 17) rfl ?_); refine goesL_ (some 21) rfl rfl Try.func17 (by kernel_rfl) rfl #[.agg #[.int .i64 a0_0, .int .i64 a0_1, .bool a0_2]] rfl (by (try simp only [List.map_toArray, List.map_cons, List.map_nil]); first | done | rfl | (simp only [List.length_drop, List.length_take]; rfl)) ?_; (with_reducible refine (options_Print.calls k a0_0 a0_1 a0_2 t231 t232 _ A3.out).mono ?_); rintro e w7 ⟨rfl, hb⟩; refine ⟨_, rfl, ?_⟩; have n0_ := Aside0.mk (blk_below (g := gb230) (o := .cells #[.int .i64 a0_0, .int .i64 a0_1, .bool a0_2] 25 (0, 0)) (by (with_reducible repeat (first | refine blk_drewN ?_ _ | refine blk_drew ?_ | refine blk_alloc ?_ _)); exact BK230.out) hb); have n1_ := Aside0.mk (below_step (by repeat (first | (with_reducible first | exact HB.out | apply below_alloc | apply pw_below_drewN | apply below_drew1 | refine below_set ?_ GE230.out) | exact HB.out)) hb); clear BK230; clear HB; have BK230 := n0_; have HB := n1_; clear n0_ n1_; (try clear hb); (try clear hb2); (try clear hk); (try clear hi)))
  (try simp only [Act.put, List.setIfInBounds_toArray, List.set_cons_zero, List.set_cons_succ])
  go_cut [35] (fun v35 wc => ∃ (kq : Nat) (x35_3 : Bool), v35 = .bool x35_3 ∧ Aside0 (parquetlaw06_OptionsOrder.j0 kq t231 t232 x35_3 a0_0 a0_1 a0_2 = some r) ∧ Aside0 (kq ≤ k) ∧ Aside0 (wc.heap[gb230]? = some (.cells #[.int .i64 a0_0, .int .i64 a0_1, .bool a0_2] 25 (0, 0))) ∧ Aside0 (Below w.heap.size w wc))
  case first =>
    have H := HC4.out
    clear HC4
    by_cases c8 : t232 = 0
    · rw [if_pos c8] at H
      have c8b0 : (t232 == 0) = true := beq_iff_eq.mpr c8
      have c8b1 : (t232 != 0) = false := bne_eq_false_iff_eq.mpr c8
      clear c8
      (first | rw [c8b0] | (simp only [i64_w, i32_w]; rw [c8b0]) | skip)
      by_cases c9 : a0_1 = 0
      · rw [if_pos c9] at H
        have c9b0 : (a0_1 == 0) = true := beq_iff_eq.mpr c9
        have c9b1 : (a0_1 != 0) = false := bne_eq_false_iff_eq.mpr c9
        clear c9
        have H' := Aside0.mk H
        clear H
        have hcz10_0 : w7.cell? ⟨gb230, 0, none⟩ = some (.int .i64 a0_0) := (blk_cell BK230.out 0).trans rfl
        have hcz10_1 : w7.cell? ⟨gb230, 1, none⟩ = some (.int .i64 a0_1) := (blk_cell BK230.out 1).trans rfl
        have hcz10_2 : w7.cell? ⟨gb230, 2, none⟩ = some (.bool a0_2) := (blk_cell BK230.out 2).trans rfl
        have hfz10_0 := blk_frozen BK230.out 0
        have hfz10_1 := blk_frozen BK230.out 1
        have hfz10_2 := blk_frozen BK230.out 2
        go_wp2
        go_meet
        case rel => exact ⟨_, (true), (by first | rfl | (simp; done) | (simp [*]; done)), H', ⟨by first | omega | exact Nat.le_refl _⟩, ⟨by (with_reducible repeat (first | refine blk_drewN ?_ _ | refine blk_drew ?_ | refine blk_alloc ?_ _)); exact BK230.out⟩, ⟨by repeat (first | (with_reducible first | exact HB.out | apply below_alloc | apply pw_below_drewN | apply below_drew1 | refine below_set ?_ GE230.out) | exact HB.out)⟩⟩
      · rw [if_neg c9] at H
        have c9b0 : (a0_1 == 0) = false := beq_eq_false_iff_ne.mpr c9
        have c9b1 : (a0_1 != 0) = true := bne_iff_ne.mpr c9
        have H' := Aside0.mk H
        clear H
        have hcz11_0 : w7.cell? ⟨gb230, 0, none⟩ = some (.int .i64 a0_0) := (blk_cell BK230.out 0).trans rfl
        have hcz11_1 : w7.cell? ⟨gb230, 1, none⟩ = some (.int .i64 a0_1) := (blk_cell BK230.out 1).trans rfl
        have hcz11_2 : w7.cell? ⟨gb230, 2, none⟩ = some (.bool a0_2) := (blk_cell BK230.out 2).trans rfl
        have hfz11_0 := blk_frozen BK230.out 0
        have hfz11_1 := blk_frozen BK230.out 1
        have hfz11_2 := blk_frozen BK230.out 2
        go_wp2
        go_meet
        case rel => exact ⟨_, (!a0_2), (by first | rfl | (simp; done) | (simp [*]; done)), H', ⟨by first | omega | exact Nat.le_refl _⟩, ⟨by (with_reducible repeat (first | refine blk_drewN ?_ _ | refine blk_drew ?_ | refine blk_alloc ?_ _)); exact BK230.out⟩, ⟨by repeat (first | (with_reducible first | exact HB.out | apply below_alloc | apply pw_below_drewN | apply below_drew1 | refine below_set ?_ GE230.out) | exact HB.out)⟩⟩
    · rw [if_neg c8] at H
      have c8b0 : (t232 == 0) = false := beq_eq_false_iff_ne.mpr c8
      have c8b1 : (t232 != 0) = true := bne_iff_ne.mpr c8
      (first | rw [c8b0] | (simp only [i64_w, i32_w]; rw [c8b0]) | skip)
      have H' := Aside0.mk H
      clear H
      go_wp2
      go_meet
      case rel => exact ⟨_, (true), (by first | rfl | (simp; done) | (simp [*]; done)), H', ⟨by first | omega | exact Nat.le_refl _⟩, ⟨by (with_reducible repeat (first | refine blk_drewN ?_ _ | refine blk_drew ?_ | refine blk_alloc ?_ _)); exact BK230.out⟩, ⟨by repeat (first | (with_reducible first | exact HB.out | apply below_alloc | apply pw_below_drewN | apply below_drew1 | refine below_set ?_ GE230.out) | exact HB.out)⟩⟩
  case rest =>
    clear HC4
    try clear c1
    try clear p2
    try clear c7
    try clear c8
    try clear c8b0
    try clear c8b1
    try clear c9
    try clear c9b0
    try clear c9b1
    try clear hcz10_0
    try clear hcz10_1
    try clear hcz10_2
    try clear hcz11_0
    try clear hcz11_1
    try clear hcz11_2
    try clear hcz6_0
    try clear hcz6_1
    try clear hcz6_2
    try clear hfz10_0
    try clear hfz10_1
    try clear hfz10_2
    try clear hfz11_0
    try clear hfz11_1
    try clear hfz11_2
    try clear hfz6_0
    try clear hfz6_1
    try clear hfz6_2
    obtain ⟨kq, x35_3, rfl, HA, HJ3, BK230, HB⟩ := hcut
    cases kq with
    | zero => exact absurd HA.out (by simp [parquetlaw06_OptionsOrder.j0])
    | succ kj3 =>
      have H := HA.out
      clear HA
      simp only [parquetlaw06_OptionsOrder.j0] at H
      by_cases c12 : x35_3 = true
      · subst c12
        have H1 : ((options_Check.f a0_0 a0_1 a0_2).bind fun t233 => (if ((t232 == 0) == (t233 == 0)) = true then ((parquetlaw06_known.f).bind fun t234 => (some t234)) else (some false))) = some r := by rw [if_pos rfl] at H; exact H
        clear H
        have H := H1
        clear H1
        replace H := Option.bind_eq_some_iff.mp H
        obtain ⟨t233, A130, H⟩ := H
        replace H : (if ((t232 == 0) == (t233 == 0)) = true then ((parquetlaw06_known.f).bind fun t234 => (some t234)) else (some false)) = some r := H
        have A13 := Aside0.mk A130
        clear A130
        by_cases c14 : ((t232 == 0) == (t233 == 0)) = true
        · rw [if_pos c14] at H
          have c14b0 : ((t232 == 0) == (t233 == 0)) = true := c14
          (try (have c14b1 : decide ((t232 == 0) = (t233 == 0)) = true := by simpa using c14))
          (try (have c14b2 : ((t232 == 0) == (t233 == 0)) = true := by simpa using c14))
          clear c14
          replace H := Option.bind_eq_some_iff.mp H
          obtain ⟨t234, A150, H⟩ := H
          replace H : (some t234) = some r := H
          have A15 := Aside0.mk A150
          clear A150
          obtain rfl := Option.some.inj H
          have hcz16_0 : wc.cell? ⟨gb230, 0, none⟩ = some (.int .i64 a0_0) := (blk_cell BK230.out 0).trans rfl
          have hcz16_1 : wc.cell? ⟨gb230, 1, none⟩ = some (.int .i64 a0_1) := (blk_cell BK230.out 1).trans rfl
          have hcz16_2 : wc.cell? ⟨gb230, 2, none⟩ = some (.bool a0_2) := (blk_cell BK230.out 2).trans rfl
          have hfz16_0 := blk_frozen BK230.out 0
          have hfz16_1 := blk_frozen BK230.out 1
          have hfz16_2 := blk_frozen BK230.out 2
          go_wp2_with (first | ((with_reducible refine gate_callee (f := 16) rfl ?_); refine goesL_ (some 39) rfl rfl Try.func16 (by kernel_rfl) rfl #[.agg #[.int .i64 a0_0, .int .i64 a0_1, .bool a0_2]] rfl (by (try simp only [List.map_toArray, List.map_cons, List.map_nil]); first | done | rfl | (simp only [List.length_drop, List.length_take]; rfl)) ?_; (with_reducible refine (options_Check.calls a0_0 a0_1 a0_2 t233 _ A13.out).mono ?_); rintro e w17 ⟨rfl, hb⟩; refine ⟨_, rfl, ?_⟩; have n0_ := Aside0.mk (blk_below (g := gb230) (o := .cells #[.int .i64 a0_0, .int .i64 a0_1, .bool a0_2] 25 (0, 0)) (by (with_reducible repeat (first | refine blk_drewN ?_ _ | refine blk_drew ?_ | refine blk_alloc ?_ _)); exact BK230.out) hb); have n1_ := Aside0.mk (below_step (by repeat (first | (with_reducible first | exact HB.out | apply below_alloc | apply pw_below_drewN | apply below_drew1 | refine below_set ?_ GE230.out) | exact HB.out)) hb); clear BK230; clear HB; have BK230 := n0_; have HB := n1_; clear n0_ n1_; (try clear hb); (try clear hb2); (try clear hk); (try clear hi)) | (go_at_call 9; (with_reducible refine (parquetlaw06_known.calls  t234 _ A15.out).mono ?_); rintro e w18 ⟨rfl, hb⟩; have n0_ := Aside0.mk (blk_below (g := gb230) (o := .cells #[.int .i64 a0_0, .int .i64 a0_1, .bool a0_2] 25 (0, 0)) (by (with_reducible repeat (first | refine blk_drewN ?_ _ | refine blk_drew ?_ | refine blk_alloc ?_ _)); exact BK230.out) hb); have n1_ := Aside0.mk (below_step (by repeat (first | (with_reducible first | exact HB.out | apply below_alloc | apply pw_below_drewN | apply below_drew1 | refine below_set ?_ GE230.out) | exact HB.out)) hb); clear BK230; clear HB; have BK230 := n0_; have HB := n1_; clear n0_ n1_; (try clear hb); (try clear hb2); (try clear hk); (try clear hi)))
          go_ret
          exact ⟨by first | rfl | (simp [errW_none, errW_some] <;> rfl) | (simp [*, errW_none, errW_some] <;> rfl), by repeat (first | (with_reducible first | exact HB.out | apply below_alloc | apply pw_below_drewN | apply below_drew1 | refine below_set ?_ GE230.out) | exact HB.out)⟩
        · rw [if_neg c14] at H
          have c14b0 : ((t232 == 0) == (t233 == 0)) = false := by simpa using c14
          (try (have c14b1 : decide ((t232 == 0) = (t233 == 0)) = false := by simpa using c14))
          (try (have c14b2 : ((t232 == 0) == (t233 == 0)) = false := by simpa using c14))
          (try (have c14b3 : ¬ ((t232 == 0) = (t233 == 0)) := by simpa using c14))
          clear c14
          exact absurd ((Option.some.inj H).trans hr_) (by decide)
      · replace c12 := Bool.eq_false_iff.mpr c12
        subst c12
        have H1 : (if (t231.size : Int) < 11 then (some false) else ((parquetlaw06_digits.f kj3 a0_1).bind fun t235 => (if 0 ≤ (wrap64 ((wrap64 ((t231.size : Int) - 8)) - t235)) then (if (wrap64 ((wrap64 ((t231.size : Int) - 8)) - t235)) ≤ (wrap64 ((t231.size : Int) - 8)) then (if (wrap64 ((t231.size : Int) - 8)) ≤ (t231.size : Int) then (if 7 + (t231.extract ((wrap64 ((wrap64 ((t231.size : Int) - 8)) - t235)) : Int).toNat ((wrap64 ((t231.size : Int) - 8)) : Int).toNat).size ≤ 9223372036854775807 then ((some (([(⟨#[116, 114, 105]⟩ : ByteArray), (⟨#[113, 117, 97, 100]⟩ : ByteArray), (⟨#[97, 108, 108]⟩ : ByteArray)] : List ByteArray) : List ByteArray)).bind fun y236 => (if 0 ≤ (wrap64 (a0_0 - 1)) then (if (wrap64 (a0_0 - 1)) < (y236.length : Int) then (if (rdOf ByteArray.empty y236 (wrap64 (a0_0 - 1))).size + 8 ≤ 9223372036854775807 then (if ((rdOf ByteArray.empty y236 (wrap64 (a0_0 - 1))) ++ (⟨#[32, 114, 101, 102, 105, 110, 101, 32]⟩ : ByteArray)).size + ((⟨#[98, 117, 100, 103, 101, 116, 32]⟩ : ByteArray) ++ (t231.extract ((wrap64 ((wrap64 ((t231.size : Int) - 8)) - t235)) : Int).toNat ((wrap64 ((t231.size : Int) - 8)) : Int).toNat)).size ≤ 9223372036854775807 then ((options_Parse.f (((rdOf ByteArray.empty y236 (wrap64 (a0_0 - 1))) ++ (⟨#[32, 114, 101, 102, 105, 110, 101, 32]⟩ : ByteArray)) ++ ((⟨#[98, 117, 100, 103, 101, 116, 32]⟩ : ByteArray) ++ (t231.extract ((wrap64 ((wrap64 ((t231.size : Int) - 8)) - t235)) : Int).toNat ((wrap64 ((t231.size : Int) - 8)) : Int).toNat)))).bind fun bt240 => (if (((rdOf ByteArray.empty y236 (wrap64 (a0_0 - 1))) ++ (⟨#[32, 114, 101, 102, 105, 110, 101, 32]⟩ : ByteArray)) ++ ((⟨#[98, 117, 100, 103, 101, 116, 32]⟩ : ByteArray) ++ (t231.extract ((wrap64 ((wrap64 ((t231.size : Int) - 8)) - t235)) : Int).toNat ((wrap64 ((t231.size : Int) - 8)) : Int).toNat))).size + 7 ≤ 9223372036854775807 then ((options_Parse.f ((((rdOf ByteArray.empty y236 (wrap64 (a0_0 - 1))) ++ (⟨#[32, 114, 101, 102, 105, 110, 101, 32]⟩ : ByteArray)) ++ ((⟨#[98, 117, 100, 103, 101, 116, 32]⟩ : ByteArray) ++ (t231.extract ((wrap64 ((wrap64 ((t231.size : Int) - 8)) - t235)) : Int).toNat ((wrap64 ((t231.size : Int) - 8)) : Int).toNat))) ++ (⟨#[32, 114, 101, 102, 105, 110, 101]⟩ : ByteArray))).bind fun bt246 => (if (((rdOf ByteArray.empty y236 (wrap64 (a0_0 - 1))) ++ (⟨#[32, 114, 101, 102, 105, 110, 101, 32]⟩ : ByteArray)) ++ ((⟨#[98, 117, 100, 103, 101, 116, 32]⟩ : ByteArray) ++ (t231.extract ((wrap64 ((wrap64 ((t231.size : Int) - 8)) - t235)) : Int).toNat ((wrap64 ((t231.size : Int) - 8)) : Int).toNat))).size + 1 ≤ 9223372036854775807 then (if ((((rdOf ByteArray.empty y236 (wrap64 (a0_0 - 1))) ++ (⟨#[32, 114, 101, 102, 105, 110, 101, 32]⟩ : ByteArray)) ++ ((⟨#[98, 117, 100, 103, 101, 116, 32]⟩ : ByteArray) ++ (t231.extract ((wrap64 ((wrap64 ((t231.size : Int) - 8)) - t235)) : Int).toNat ((wrap64 ((t231.size : Int) - 8)) : Int).toNat))) ++ (⟨#[32]⟩ : ByteArray)).size + ((⟨#[98, 117, 100, 103, 101, 116, 32]⟩ : ByteArray) ++ (t231.extract ((wrap64 ((wrap64 ((t231.size : Int) - 8)) - t235)) : Int).toNat ((wrap64 ((t231.size : Int) - 8)) : Int).toNat)).size ≤ 9223372036854775807 then ((options_Parse.f (((((rdOf ByteArray.empty y236 (wrap64 (a0_0 - 1))) ++ (⟨#[32, 114, 101, 102, 105, 110, 101, 32]⟩ : ByteArray)) ++ ((⟨#[98, 117, 100, 103, 101, 116, 32]⟩ : ByteArray) ++ (t231.extract ((wrap64 ((wrap64 ((t231.size : Int) - 8)) - t235)) : Int).toNat ((wrap64 ((t231.size : Int) - 8)) : Int).toNat))) ++ (⟨#[32]⟩ : ByteArray)) ++ ((⟨#[98, 117, 100, 103, 101, 116, 32]⟩ : ByteArray) ++ (t231.extract ((wrap64 ((wrap64 ((t231.size : Int) - 8)) - t235)) : Int).toNat ((wrap64 ((t231.size : Int) - 8)) : Int).toNat)))).bind fun bt252 => (if (bt240.1 == a0_0 && (bt240.2.1 == a0_1 && (bt240.2.2.1 == a0_2))) = true then (if bt240.2.2.2.1 = 0 then (if bt240.2.2.2.2 = 0 then (if bt246.2.2.2.1 = (wrap64 (((((rdOf ByteArray.empty y236 (wrap64 (a0_0 - 1))) ++ (⟨#[32, 114, 101, 102, 105, 110, 101, 32]⟩ : ByteArray)) ++ ((⟨#[98, 117, 100, 103, 101, 116, 32]⟩ : ByteArray) ++ (t231.extract ((wrap64 ((wrap64 ((t231.size : Int) - 8)) - t235)) : Int).toNat ((wrap64 ((t231.size : Int) - 8)) : Int).toNat))).size : Int) + 1)) then (if bt246.2.2.2.2 = 11 then (if bt252.2.2.2.1 = (wrap64 (((((rdOf ByteArray.empty y236 (wrap64 (a0_0 - 1))) ++ (⟨#[32, 114, 101, 102, 105, 110, 101, 32]⟩ : ByteArray)) ++ ((⟨#[98, 117, 100, 103, 101, 116, 32]⟩ : ByteArray) ++ (t231.extract ((wrap64 ((wrap64 ((t231.size : Int) - 8)) - t235)) : Int).toNat ((wrap64 ((t231.size : Int) - 8)) : Int).toNat))).size : Int) + 1)) then (if bt252.2.2.2.2 = 11 then ((parquetlaw06_known.f).bind fun t258 => (some t258)) else (some false)) else (some false)) else (some false)) else (some false)) else (some false)) else (some false)) else (some false))) else (none)) else (none))) else (none))) else (none)) else (none)) else (none)) else (none))) else (none)) else (none)) else (none)) else (none)))) = some r := by rw [if_neg (show ¬ (false = true) by decide)] at H; exact H
        clear H
        have H := H1
        clear H1
        by_cases c19 : (t231.size : Int) < 11
        · rw [if_pos c19] at H
          have c19b0 : decide ((t231.size : Int) < 11) = true := decide_eq_true c19
          have c19b1 : decide (t231.size < 11) = true := decide_eq_true (by omega)
          clear c19
          exact absurd ((Option.some.inj H).trans hr_) (by decide)
        · rw [if_neg c19] at H
          have c19b0 : decide ((t231.size : Int) < 11) = false := decide_eq_false c19
          have c19b1 : decide (t231.size < 11) = false := decide_eq_false (by omega)
          clear c19
          replace H := Option.bind_eq_some_iff.mp H
          obtain ⟨t235, A200, H⟩ := H
          replace H : (if 0 ≤ (wrap64 ((wrap64 ((t231.size : Int) - 8)) - t235)) then (if (wrap64 ((wrap64 ((t231.size : Int) - 8)) - t235)) ≤ (wrap64 ((t231.size : Int) - 8)) then (if (wrap64 ((t231.size : Int) - 8)) ≤ (t231.size : Int) then (if 7 + (t231.extract ((wrap64 ((wrap64 ((t231.size : Int) - 8)) - t235)) : Int).toNat ((wrap64 ((t231.size : Int) - 8)) : Int).toNat).size ≤ 9223372036854775807 then ((some (([(⟨#[116, 114, 105]⟩ : ByteArray), (⟨#[113, 117, 97, 100]⟩ : ByteArray), (⟨#[97, 108, 108]⟩ : ByteArray)] : List ByteArray) : List ByteArray)).bind fun y236 => (if 0 ≤ (wrap64 (a0_0 - 1)) then (if (wrap64 (a0_0 - 1)) < (y236.length : Int) then (if (rdOf ByteArray.empty y236 (wrap64 (a0_0 - 1))).size + 8 ≤ 9223372036854775807 then (if ((rdOf ByteArray.empty y236 (wrap64 (a0_0 - 1))) ++ (⟨#[32, 114, 101, 102, 105, 110, 101, 32]⟩ : ByteArray)).size + ((⟨#[98, 117, 100, 103, 101, 116, 32]⟩ : ByteArray) ++ (t231.extract ((wrap64 ((wrap64 ((t231.size : Int) - 8)) - t235)) : Int).toNat ((wrap64 ((t231.size : Int) - 8)) : Int).toNat)).size ≤ 9223372036854775807 then ((options_Parse.f (((rdOf ByteArray.empty y236 (wrap64 (a0_0 - 1))) ++ (⟨#[32, 114, 101, 102, 105, 110, 101, 32]⟩ : ByteArray)) ++ ((⟨#[98, 117, 100, 103, 101, 116, 32]⟩ : ByteArray) ++ (t231.extract ((wrap64 ((wrap64 ((t231.size : Int) - 8)) - t235)) : Int).toNat ((wrap64 ((t231.size : Int) - 8)) : Int).toNat)))).bind fun bt240 => (if (((rdOf ByteArray.empty y236 (wrap64 (a0_0 - 1))) ++ (⟨#[32, 114, 101, 102, 105, 110, 101, 32]⟩ : ByteArray)) ++ ((⟨#[98, 117, 100, 103, 101, 116, 32]⟩ : ByteArray) ++ (t231.extract ((wrap64 ((wrap64 ((t231.size : Int) - 8)) - t235)) : Int).toNat ((wrap64 ((t231.size : Int) - 8)) : Int).toNat))).size + 7 ≤ 9223372036854775807 then ((options_Parse.f ((((rdOf ByteArray.empty y236 (wrap64 (a0_0 - 1))) ++ (⟨#[32, 114, 101, 102, 105, 110, 101, 32]⟩ : ByteArray)) ++ ((⟨#[98, 117, 100, 103, 101, 116, 32]⟩ : ByteArray) ++ (t231.extract ((wrap64 ((wrap64 ((t231.size : Int) - 8)) - t235)) : Int).toNat ((wrap64 ((t231.size : Int) - 8)) : Int).toNat))) ++ (⟨#[32, 114, 101, 102, 105, 110, 101]⟩ : ByteArray))).bind fun bt246 => (if (((rdOf ByteArray.empty y236 (wrap64 (a0_0 - 1))) ++ (⟨#[32, 114, 101, 102, 105, 110, 101, 32]⟩ : ByteArray)) ++ ((⟨#[98, 117, 100, 103, 101, 116, 32]⟩ : ByteArray) ++ (t231.extract ((wrap64 ((wrap64 ((t231.size : Int) - 8)) - t235)) : Int).toNat ((wrap64 ((t231.size : Int) - 8)) : Int).toNat))).size + 1 ≤ 9223372036854775807 then (if ((((rdOf ByteArray.empty y236 (wrap64 (a0_0 - 1))) ++ (⟨#[32, 114, 101, 102, 105, 110, 101, 32]⟩ : ByteArray)) ++ ((⟨#[98, 117, 100, 103, 101, 116, 32]⟩ : ByteArray) ++ (t231.extract ((wrap64 ((wrap64 ((t231.size : Int) - 8)) - t235)) : Int).toNat ((wrap64 ((t231.size : Int) - 8)) : Int).toNat))) ++ (⟨#[32]⟩ : ByteArray)).size + ((⟨#[98, 117, 100, 103, 101, 116, 32]⟩ : ByteArray) ++ (t231.extract ((wrap64 ((wrap64 ((t231.size : Int) - 8)) - t235)) : Int).toNat ((wrap64 ((t231.size : Int) - 8)) : Int).toNat)).size ≤ 9223372036854775807 then ((options_Parse.f (((((rdOf ByteArray.empty y236 (wrap64 (a0_0 - 1))) ++ (⟨#[32, 114, 101, 102, 105, 110, 101, 32]⟩ : ByteArray)) ++ ((⟨#[98, 117, 100, 103, 101, 116, 32]⟩ : ByteArray) ++ (t231.extract ((wrap64 ((wrap64 ((t231.size : Int) - 8)) - t235)) : Int).toNat ((wrap64 ((t231.size : Int) - 8)) : Int).toNat))) ++ (⟨#[32]⟩ : ByteArray)) ++ ((⟨#[98, 117, 100, 103, 101, 116, 32]⟩ : ByteArray) ++ (t231.extract ((wrap64 ((wrap64 ((t231.size : Int) - 8)) - t235)) : Int).toNat ((wrap64 ((t231.size : Int) - 8)) : Int).toNat)))).bind fun bt252 => (if (bt240.1 == a0_0 && (bt240.2.1 == a0_1 && (bt240.2.2.1 == a0_2))) = true then (if bt240.2.2.2.1 = 0 then (if bt240.2.2.2.2 = 0 then (if bt246.2.2.2.1 = (wrap64 (((((rdOf ByteArray.empty y236 (wrap64 (a0_0 - 1))) ++ (⟨#[32, 114, 101, 102, 105, 110, 101, 32]⟩ : ByteArray)) ++ ((⟨#[98, 117, 100, 103, 101, 116, 32]⟩ : ByteArray) ++ (t231.extract ((wrap64 ((wrap64 ((t231.size : Int) - 8)) - t235)) : Int).toNat ((wrap64 ((t231.size : Int) - 8)) : Int).toNat))).size : Int) + 1)) then (if bt246.2.2.2.2 = 11 then (if bt252.2.2.2.1 = (wrap64 (((((rdOf ByteArray.empty y236 (wrap64 (a0_0 - 1))) ++ (⟨#[32, 114, 101, 102, 105, 110, 101, 32]⟩ : ByteArray)) ++ ((⟨#[98, 117, 100, 103, 101, 116, 32]⟩ : ByteArray) ++ (t231.extract ((wrap64 ((wrap64 ((t231.size : Int) - 8)) - t235)) : Int).toNat ((wrap64 ((t231.size : Int) - 8)) : Int).toNat))).size : Int) + 1)) then (if bt252.2.2.2.2 = 11 then ((parquetlaw06_known.f).bind fun t258 => (some t258)) else (some false)) else (some false)) else (some false)) else (some false)) else (some false)) else (some false)) else (some false))) else (none)) else (none))) else (none))) else (none)) else (none)) else (none)) else (none))) else (none)) else (none)) else (none)) else (none)) = some r := H
          have A20 := Aside0.mk A200
          clear A200
          obtain ⟨ji21, hji21⟩ : ∃ j_ : Int, (wrap64 ((wrap64 ((t231.size : Int) - 8)) - t235)) = j_ := ⟨_, rfl⟩
          replace H : (if 0 ≤ (ji21) then (if (ji21) ≤ (wrap64 ((t231.size : Int) - 8)) then (if (wrap64 ((t231.size : Int) - 8)) ≤ (t231.size : Int) then (if 7 + (t231.extract ((ji21) : Int).toNat ((wrap64 ((t231.size : Int) - 8)) : Int).toNat).size ≤ 9223372036854775807 then ((some (([(⟨#[116, 114, 105]⟩ : ByteArray), (⟨#[113, 117, 97, 100]⟩ : ByteArray), (⟨#[97, 108, 108]⟩ : ByteArray)] : List ByteArray) : List ByteArray)).bind fun y236 => (if 0 ≤ (wrap64 (a0_0 - 1)) then (if (wrap64 (a0_0 - 1)) < (y236.length : Int) then (if (rdOf ByteArray.empty y236 (wrap64 (a0_0 - 1))).size + 8 ≤ 9223372036854775807 then (if ((rdOf ByteArray.empty y236 (wrap64 (a0_0 - 1))) ++ (⟨#[32, 114, 101, 102, 105, 110, 101, 32]⟩ : ByteArray)).size + ((⟨#[98, 117, 100, 103, 101, 116, 32]⟩ : ByteArray) ++ (t231.extract ((ji21) : Int).toNat ((wrap64 ((t231.size : Int) - 8)) : Int).toNat)).size ≤ 9223372036854775807 then ((options_Parse.f (((rdOf ByteArray.empty y236 (wrap64 (a0_0 - 1))) ++ (⟨#[32, 114, 101, 102, 105, 110, 101, 32]⟩ : ByteArray)) ++ ((⟨#[98, 117, 100, 103, 101, 116, 32]⟩ : ByteArray) ++ (t231.extract ((ji21) : Int).toNat ((wrap64 ((t231.size : Int) - 8)) : Int).toNat)))).bind fun bt240 => (if (((rdOf ByteArray.empty y236 (wrap64 (a0_0 - 1))) ++ (⟨#[32, 114, 101, 102, 105, 110, 101, 32]⟩ : ByteArray)) ++ ((⟨#[98, 117, 100, 103, 101, 116, 32]⟩ : ByteArray) ++ (t231.extract ((ji21) : Int).toNat ((wrap64 ((t231.size : Int) - 8)) : Int).toNat))).size + 7 ≤ 9223372036854775807 then ((options_Parse.f ((((rdOf ByteArray.empty y236 (wrap64 (a0_0 - 1))) ++ (⟨#[32, 114, 101, 102, 105, 110, 101, 32]⟩ : ByteArray)) ++ ((⟨#[98, 117, 100, 103, 101, 116, 32]⟩ : ByteArray) ++ (t231.extract ((ji21) : Int).toNat ((wrap64 ((t231.size : Int) - 8)) : Int).toNat))) ++ (⟨#[32, 114, 101, 102, 105, 110, 101]⟩ : ByteArray))).bind fun bt246 => (if (((rdOf ByteArray.empty y236 (wrap64 (a0_0 - 1))) ++ (⟨#[32, 114, 101, 102, 105, 110, 101, 32]⟩ : ByteArray)) ++ ((⟨#[98, 117, 100, 103, 101, 116, 32]⟩ : ByteArray) ++ (t231.extract ((ji21) : Int).toNat ((wrap64 ((t231.size : Int) - 8)) : Int).toNat))).size + 1 ≤ 9223372036854775807 then (if ((((rdOf ByteArray.empty y236 (wrap64 (a0_0 - 1))) ++ (⟨#[32, 114, 101, 102, 105, 110, 101, 32]⟩ : ByteArray)) ++ ((⟨#[98, 117, 100, 103, 101, 116, 32]⟩ : ByteArray) ++ (t231.extract ((ji21) : Int).toNat ((wrap64 ((t231.size : Int) - 8)) : Int).toNat))) ++ (⟨#[32]⟩ : ByteArray)).size + ((⟨#[98, 117, 100, 103, 101, 116, 32]⟩ : ByteArray) ++ (t231.extract ((ji21) : Int).toNat ((wrap64 ((t231.size : Int) - 8)) : Int).toNat)).size ≤ 9223372036854775807 then ((options_Parse.f (((((rdOf ByteArray.empty y236 (wrap64 (a0_0 - 1))) ++ (⟨#[32, 114, 101, 102, 105, 110, 101, 32]⟩ : ByteArray)) ++ ((⟨#[98, 117, 100, 103, 101, 116, 32]⟩ : ByteArray) ++ (t231.extract ((ji21) : Int).toNat ((wrap64 ((t231.size : Int) - 8)) : Int).toNat))) ++ (⟨#[32]⟩ : ByteArray)) ++ ((⟨#[98, 117, 100, 103, 101, 116, 32]⟩ : ByteArray) ++ (t231.extract ((ji21) : Int).toNat ((wrap64 ((t231.size : Int) - 8)) : Int).toNat)))).bind fun bt252 => (if (bt240.1 == a0_0 && (bt240.2.1 == a0_1 && (bt240.2.2.1 == a0_2))) = true then (if bt240.2.2.2.1 = 0 then (if bt240.2.2.2.2 = 0 then (if bt246.2.2.2.1 = (wrap64 (((((rdOf ByteArray.empty y236 (wrap64 (a0_0 - 1))) ++ (⟨#[32, 114, 101, 102, 105, 110, 101, 32]⟩ : ByteArray)) ++ ((⟨#[98, 117, 100, 103, 101, 116, 32]⟩ : ByteArray) ++ (t231.extract ((ji21) : Int).toNat ((wrap64 ((t231.size : Int) - 8)) : Int).toNat))).size : Int) + 1)) then (if bt246.2.2.2.2 = 11 then (if bt252.2.2.2.1 = (wrap64 (((((rdOf ByteArray.empty y236 (wrap64 (a0_0 - 1))) ++ (⟨#[32, 114, 101, 102, 105, 110, 101, 32]⟩ : ByteArray)) ++ ((⟨#[98, 117, 100, 103, 101, 116, 32]⟩ : ByteArray) ++ (t231.extract ((ji21) : Int).toNat ((wrap64 ((t231.size : Int) - 8)) : Int).toNat))).size : Int) + 1)) then (if bt252.2.2.2.2 = 11 then ((parquetlaw06_known.f).bind fun t258 => (some t258)) else (some false)) else (some false)) else (some false)) else (some false)) else (some false)) else (some false)) else (some false))) else (none)) else (none))) else (none))) else (none)) else (none)) else (none)) else (none))) else (none)) else (none)) else (none)) else (none)) = some r := by first | (rw [hji21] at H; exact H) | (simp only [hji21] at H ⊢; exact H)
          (try rw [hji21] at A20)
          have hji21w : (IntKind.i64.wrap ((wrap64 ((t231.size : Int) - 8)) - t235)) = ji21 := (i64_w _).trans hji21
          by_cases c22 : 0 ≤ (ji21)
          · rw [if_pos c22] at H
            have c22b0 := eq_true c22
            have c22b1 : decide (0 ≤ (ji21)) = true := decide_eq_true c22
            clear c22
            by_cases c23 : (ji21) ≤ (wrap64 ((t231.size : Int) - 8))
            · rw [if_pos c23] at H
              have c23b0 := eq_true c23
              have c23b1 : decide ((ji21) ≤ (wrap64 ((t231.size : Int) - 8))) = true := decide_eq_true c23
              clear c23
              by_cases c24 : (wrap64 ((t231.size : Int) - 8)) ≤ (t231.size : Int)
              · rw [if_pos c24] at H
                have c24b0 := eq_true c24
                have c24b1 : decide ((wrap64 ((t231.size : Int) - 8)) ≤ (t231.size : Int)) = true := decide_eq_true c24
                have hxe : (t231.extract (ji21 : Int).toNat (wrap64 ((t231.size : Int) - 8) : Int).toNat).size = (wrap64 ((t231.size : Int) - 8) : Int).toNat - (ji21 : Int).toNat := by rw [ByteArray.size_extract, Nat.min_eq_left (by omega)]
                clear c24
                by_cases c25 : 7 + (t231.extract ((ji21) : Int).toNat ((wrap64 ((t231.size : Int) - 8)) : Int).toNat).size ≤ 9223372036854775807
                · rw [if_pos c25] at H
                  have c25b0 := eq_true c25
                  have c25b1 : decide (7 + (t231.extract ((ji21) : Int).toNat ((wrap64 ((t231.size : Int) - 8)) : Int).toNat).size ≤ 9223372036854775807) = true := decide_eq_true c25
                  try (have c25b1n := c25b1; simp only [ByteArray.size_append, hxe, Int.natCast_add, Int.cast_ofNat_Int] at c25b1n)
                  try have c25b2 : (9223372036854775807 < 7 + (t231.extract ((ji21) : Int).toNat ((wrap64 ((t231.size : Int) - 8)) : Int).toNat).size) = False := eq_false (Nat.not_lt.2 c25)
                  try (have c25b2n := c25b2; simp only [ByteArray.size_append, hxe, Int.natCast_add, Int.cast_ofNat_Int] at c25b2n)
                  obtain ⟨y236, hy236⟩ : ∃ y_ : List ByteArray, y_ = (([(⟨#[116, 114, 105]⟩ : ByteArray), (⟨#[113, 117, 97, 100]⟩ : ByteArray), (⟨#[97, 108, 108]⟩ : ByteArray)] : List ByteArray)) := ⟨_, rfl⟩
                  replace H : (if 0 ≤ (wrap64 (a0_0 - 1)) then (if (wrap64 (a0_0 - 1)) < (y236.length : Int) then (if (rdOf ByteArray.empty y236 (wrap64 (a0_0 - 1))).size + 8 ≤ 9223372036854775807 then (if ((rdOf ByteArray.empty y236 (wrap64 (a0_0 - 1))) ++ (⟨#[32, 114, 101, 102, 105, 110, 101, 32]⟩ : ByteArray)).size + ((⟨#[98, 117, 100, 103, 101, 116, 32]⟩ : ByteArray) ++ (t231.extract ((ji21) : Int).toNat ((wrap64 ((t231.size : Int) - 8)) : Int).toNat)).size ≤ 9223372036854775807 then ((options_Parse.f (((rdOf ByteArray.empty y236 (wrap64 (a0_0 - 1))) ++ (⟨#[32, 114, 101, 102, 105, 110, 101, 32]⟩ : ByteArray)) ++ ((⟨#[98, 117, 100, 103, 101, 116, 32]⟩ : ByteArray) ++ (t231.extract ((ji21) : Int).toNat ((wrap64 ((t231.size : Int) - 8)) : Int).toNat)))).bind fun bt240 => (if (((rdOf ByteArray.empty y236 (wrap64 (a0_0 - 1))) ++ (⟨#[32, 114, 101, 102, 105, 110, 101, 32]⟩ : ByteArray)) ++ ((⟨#[98, 117, 100, 103, 101, 116, 32]⟩ : ByteArray) ++ (t231.extract ((ji21) : Int).toNat ((wrap64 ((t231.size : Int) - 8)) : Int).toNat))).size + 7 ≤ 9223372036854775807 then ((options_Parse.f ((((rdOf ByteArray.empty y236 (wrap64 (a0_0 - 1))) ++ (⟨#[32, 114, 101, 102, 105, 110, 101, 32]⟩ : ByteArray)) ++ ((⟨#[98, 117, 100, 103, 101, 116, 32]⟩ : ByteArray) ++ (t231.extract ((ji21) : Int).toNat ((wrap64 ((t231.size : Int) - 8)) : Int).toNat))) ++ (⟨#[32, 114, 101, 102, 105, 110, 101]⟩ : ByteArray))).bind fun bt246 => (if (((rdOf ByteArray.empty y236 (wrap64 (a0_0 - 1))) ++ (⟨#[32, 114, 101, 102, 105, 110, 101, 32]⟩ : ByteArray)) ++ ((⟨#[98, 117, 100, 103, 101, 116, 32]⟩ : ByteArray) ++ (t231.extract ((ji21) : Int).toNat ((wrap64 ((t231.size : Int) - 8)) : Int).toNat))).size + 1 ≤ 9223372036854775807 then (if ((((rdOf ByteArray.empty y236 (wrap64 (a0_0 - 1))) ++ (⟨#[32, 114, 101, 102, 105, 110, 101, 32]⟩ : ByteArray)) ++ ((⟨#[98, 117, 100, 103, 101, 116, 32]⟩ : ByteArray) ++ (t231.extract ((ji21) : Int).toNat ((wrap64 ((t231.size : Int) - 8)) : Int).toNat))) ++ (⟨#[32]⟩ : ByteArray)).size + ((⟨#[98, 117, 100, 103, 101, 116, 32]⟩ : ByteArray) ++ (t231.extract ((ji21) : Int).toNat ((wrap64 ((t231.size : Int) - 8)) : Int).toNat)).size ≤ 9223372036854775807 then ((options_Parse.f (((((rdOf ByteArray.empty y236 (wrap64 (a0_0 - 1))) ++ (⟨#[32, 114, 101, 102, 105, 110, 101, 32]⟩ : ByteArray)) ++ ((⟨#[98, 117, 100, 103, 101, 116, 32]⟩ : ByteArray) ++ (t231.extract ((ji21) : Int).toNat ((wrap64 ((t231.size : Int) - 8)) : Int).toNat))) ++ (⟨#[32]⟩ : ByteArray)) ++ ((⟨#[98, 117, 100, 103, 101, 116, 32]⟩ : ByteArray) ++ (t231.extract ((ji21) : Int).toNat ((wrap64 ((t231.size : Int) - 8)) : Int).toNat)))).bind fun bt252 => (if (bt240.1 == a0_0 && (bt240.2.1 == a0_1 && (bt240.2.2.1 == a0_2))) = true then (if bt240.2.2.2.1 = 0 then (if bt240.2.2.2.2 = 0 then (if bt246.2.2.2.1 = (wrap64 (((((rdOf ByteArray.empty y236 (wrap64 (a0_0 - 1))) ++ (⟨#[32, 114, 101, 102, 105, 110, 101, 32]⟩ : ByteArray)) ++ ((⟨#[98, 117, 100, 103, 101, 116, 32]⟩ : ByteArray) ++ (t231.extract ((ji21) : Int).toNat ((wrap64 ((t231.size : Int) - 8)) : Int).toNat))).size : Int) + 1)) then (if bt246.2.2.2.2 = 11 then (if bt252.2.2.2.1 = (wrap64 (((((rdOf ByteArray.empty y236 (wrap64 (a0_0 - 1))) ++ (⟨#[32, 114, 101, 102, 105, 110, 101, 32]⟩ : ByteArray)) ++ ((⟨#[98, 117, 100, 103, 101, 116, 32]⟩ : ByteArray) ++ (t231.extract ((ji21) : Int).toNat ((wrap64 ((t231.size : Int) - 8)) : Int).toNat))).size : Int) + 1)) then (if bt252.2.2.2.2 = 11 then ((parquetlaw06_known.f).bind fun t258 => (some t258)) else (some false)) else (some false)) else (some false)) else (some false)) else (some false)) else (some false)) else (some false))) else (none)) else (none))) else (none))) else (none)) else (none)) else (none)) else (none)) = some r := by first | (rw [hy236]; with_reducible exact H) | (have H2_ := (Option.bind_some _ _).symm.trans H; rw [hy236]; with_reducible exact H2_) | (have H2_ := (Option.bind_some _ _).symm.trans H; with_reducible exact H2_) | with_reducible exact H | (rw [hy236]; exact H) | exact H
                  have Ny236 := Aside0.mk hy236
                  clear hy236
                  obtain ⟨ji26, hji26⟩ : ∃ j_ : Int, (wrap64 (a0_0 - 1)) = j_ := ⟨_, rfl⟩
                  replace H : (if 0 ≤ (ji26) then (if (ji26) < (y236.length : Int) then (if (rdOf ByteArray.empty y236 (ji26)).size + 8 ≤ 9223372036854775807 then (if ((rdOf ByteArray.empty y236 (ji26)) ++ (⟨#[32, 114, 101, 102, 105, 110, 101, 32]⟩ : ByteArray)).size + ((⟨#[98, 117, 100, 103, 101, 116, 32]⟩ : ByteArray) ++ (t231.extract ((ji21) : Int).toNat ((wrap64 ((t231.size : Int) - 8)) : Int).toNat)).size ≤ 9223372036854775807 then ((options_Parse.f (((rdOf ByteArray.empty y236 (ji26)) ++ (⟨#[32, 114, 101, 102, 105, 110, 101, 32]⟩ : ByteArray)) ++ ((⟨#[98, 117, 100, 103, 101, 116, 32]⟩ : ByteArray) ++ (t231.extract ((ji21) : Int).toNat ((wrap64 ((t231.size : Int) - 8)) : Int).toNat)))).bind fun bt240 => (if (((rdOf ByteArray.empty y236 (ji26)) ++ (⟨#[32, 114, 101, 102, 105, 110, 101, 32]⟩ : ByteArray)) ++ ((⟨#[98, 117, 100, 103, 101, 116, 32]⟩ : ByteArray) ++ (t231.extract ((ji21) : Int).toNat ((wrap64 ((t231.size : Int) - 8)) : Int).toNat))).size + 7 ≤ 9223372036854775807 then ((options_Parse.f ((((rdOf ByteArray.empty y236 (ji26)) ++ (⟨#[32, 114, 101, 102, 105, 110, 101, 32]⟩ : ByteArray)) ++ ((⟨#[98, 117, 100, 103, 101, 116, 32]⟩ : ByteArray) ++ (t231.extract ((ji21) : Int).toNat ((wrap64 ((t231.size : Int) - 8)) : Int).toNat))) ++ (⟨#[32, 114, 101, 102, 105, 110, 101]⟩ : ByteArray))).bind fun bt246 => (if (((rdOf ByteArray.empty y236 (ji26)) ++ (⟨#[32, 114, 101, 102, 105, 110, 101, 32]⟩ : ByteArray)) ++ ((⟨#[98, 117, 100, 103, 101, 116, 32]⟩ : ByteArray) ++ (t231.extract ((ji21) : Int).toNat ((wrap64 ((t231.size : Int) - 8)) : Int).toNat))).size + 1 ≤ 9223372036854775807 then (if ((((rdOf ByteArray.empty y236 (ji26)) ++ (⟨#[32, 114, 101, 102, 105, 110, 101, 32]⟩ : ByteArray)) ++ ((⟨#[98, 117, 100, 103, 101, 116, 32]⟩ : ByteArray) ++ (t231.extract ((ji21) : Int).toNat ((wrap64 ((t231.size : Int) - 8)) : Int).toNat))) ++ (⟨#[32]⟩ : ByteArray)).size + ((⟨#[98, 117, 100, 103, 101, 116, 32]⟩ : ByteArray) ++ (t231.extract ((ji21) : Int).toNat ((wrap64 ((t231.size : Int) - 8)) : Int).toNat)).size ≤ 9223372036854775807 then ((options_Parse.f (((((rdOf ByteArray.empty y236 (ji26)) ++ (⟨#[32, 114, 101, 102, 105, 110, 101, 32]⟩ : ByteArray)) ++ ((⟨#[98, 117, 100, 103, 101, 116, 32]⟩ : ByteArray) ++ (t231.extract ((ji21) : Int).toNat ((wrap64 ((t231.size : Int) - 8)) : Int).toNat))) ++ (⟨#[32]⟩ : ByteArray)) ++ ((⟨#[98, 117, 100, 103, 101, 116, 32]⟩ : ByteArray) ++ (t231.extract ((ji21) : Int).toNat ((wrap64 ((t231.size : Int) - 8)) : Int).toNat)))).bind fun bt252 => (if (bt240.1 == a0_0 && (bt240.2.1 == a0_1 && (bt240.2.2.1 == a0_2))) = true then (if bt240.2.2.2.1 = 0 then (if bt240.2.2.2.2 = 0 then (if bt246.2.2.2.1 = (wrap64 (((((rdOf ByteArray.empty y236 (ji26)) ++ (⟨#[32, 114, 101, 102, 105, 110, 101, 32]⟩ : ByteArray)) ++ ((⟨#[98, 117, 100, 103, 101, 116, 32]⟩ : ByteArray) ++ (t231.extract ((ji21) : Int).toNat ((wrap64 ((t231.size : Int) - 8)) : Int).toNat))).size : Int) + 1)) then (if bt246.2.2.2.2 = 11 then (if bt252.2.2.2.1 = (wrap64 (((((rdOf ByteArray.empty y236 (ji26)) ++ (⟨#[32, 114, 101, 102, 105, 110, 101, 32]⟩ : ByteArray)) ++ ((⟨#[98, 117, 100, 103, 101, 116, 32]⟩ : ByteArray) ++ (t231.extract ((ji21) : Int).toNat ((wrap64 ((t231.size : Int) - 8)) : Int).toNat))).size : Int) + 1)) then (if bt252.2.2.2.2 = 11 then ((parquetlaw06_known.f).bind fun t258 => (some t258)) else (some false)) else (some false)) else (some false)) else (some false)) else (some false)) else (some false)) else (some false))) else (none)) else (none))) else (none))) else (none)) else (none)) else (none)) else (none)) = some r := by first | (rw [hji26] at H; exact H) | (simp only [hji26] at H ⊢; exact H)
                  (try rw [hji26] at A20)
                  have hji26w : (IntKind.i64.wrap (a0_0 - 1)) = ji26 := (i64_w _).trans hji26
                  by_cases c27 : 0 ≤ (ji26)
                  · rw [if_pos c27] at H
                    have c27b0 : decide (0 ≤ (ji26)) = true := decide_eq_true c27
                    clear c27
                    by_cases c28 : (ji26) < (y236.length : Int)
                    · rw [if_pos c28] at H
                      have c28b0 : decide ((ji26) < (y236.length : Int)) = true := decide_eq_true c28
                      clear c28
                      by_cases c29 : (rdOf ByteArray.empty y236 (ji26)).size + 8 ≤ 9223372036854775807
                      · rw [if_pos c29] at H
                        have c29b0 := eq_true c29
                        have c29b1 : decide ((rdOf ByteArray.empty y236 (ji26)).size + 8 ≤ 9223372036854775807) = true := decide_eq_true c29
                        try have c29b2 : (9223372036854775807 < (rdOf ByteArray.empty y236 (ji26)).size + 8) = False := eq_false (Nat.not_lt.2 c29)
                        by_cases c30 : ((rdOf ByteArray.empty y236 (ji26)) ++ (⟨#[32, 114, 101, 102, 105, 110, 101, 32]⟩ : ByteArray)).size + ((⟨#[98, 117, 100, 103, 101, 116, 32]⟩ : ByteArray) ++ (t231.extract ((ji21) : Int).toNat ((wrap64 ((t231.size : Int) - 8)) : Int).toNat)).size ≤ 9223372036854775807
                        · rw [if_pos c30] at H
                          have c30b0 := eq_true c30
                          have c30b1 : decide (((rdOf ByteArray.empty y236 (ji26)) ++ (⟨#[32, 114, 101, 102, 105, 110, 101, 32]⟩ : ByteArray)).size + ((⟨#[98, 117, 100, 103, 101, 116, 32]⟩ : ByteArray) ++ (t231.extract ((ji21) : Int).toNat ((wrap64 ((t231.size : Int) - 8)) : Int).toNat)).size ≤ 9223372036854775807) = true := decide_eq_true c30
                          try (have c30b1n := c30b1; simp only [ByteArray.size_append, hxe, show (⟨#[32, 114, 101, 102, 105, 110, 101, 32]⟩ : ByteArray).size = 8 from rfl, show (⟨#[98, 117, 100, 103, 101, 116, 32]⟩ : ByteArray).size = 7 from rfl, Int.natCast_add, Int.cast_ofNat_Int] at c30b1n)
                          try have c30b2 : (9223372036854775807 < ((rdOf ByteArray.empty y236 (ji26)) ++ (⟨#[32, 114, 101, 102, 105, 110, 101, 32]⟩ : ByteArray)).size + ((⟨#[98, 117, 100, 103, 101, 116, 32]⟩ : ByteArray) ++ (t231.extract ((ji21) : Int).toNat ((wrap64 ((t231.size : Int) - 8)) : Int).toNat)).size) = False := eq_false (Nat.not_lt.2 c30)
                          try (have c30b2n := c30b2; simp only [ByteArray.size_append, hxe, show (⟨#[32, 114, 101, 102, 105, 110, 101, 32]⟩ : ByteArray).size = 8 from rfl, show (⟨#[98, 117, 100, 103, 101, 116, 32]⟩ : ByteArray).size = 7 from rfl, Int.natCast_add, Int.cast_ofNat_Int] at c30b2n)
                          try have c30b3 : (9223372036854775807 < (rdOf ByteArray.empty y236 (ji26)).size + 8 + (7 + (t231.extract ((ji21) : Int).toNat ((wrap64 ((t231.size : Int) - 8)) : Int).toNat).size)) = False := eq_false (by have h_ := c30; simp only [ByteArray.size_append] at h_; exact Nat.not_lt.2 h_)
                          try (have c30b3n := c30b3; simp only [ByteArray.size_append, hxe, Int.natCast_add, Int.cast_ofNat_Int] at c30b3n)
                          replace H := Option.bind_eq_some_iff.mp H
                          obtain ⟨⟨t240, t241, t242, t243, t244⟩, A310, H⟩ := H
                          replace H : (if (((rdOf ByteArray.empty y236 (ji26)) ++ (⟨#[32, 114, 101, 102, 105, 110, 101, 32]⟩ : ByteArray)) ++ ((⟨#[98, 117, 100, 103, 101, 116, 32]⟩ : ByteArray) ++ (t231.extract ((ji21) : Int).toNat ((wrap64 ((t231.size : Int) - 8)) : Int).toNat))).size + 7 ≤ 9223372036854775807 then ((options_Parse.f ((((rdOf ByteArray.empty y236 (ji26)) ++ (⟨#[32, 114, 101, 102, 105, 110, 101, 32]⟩ : ByteArray)) ++ ((⟨#[98, 117, 100, 103, 101, 116, 32]⟩ : ByteArray) ++ (t231.extract ((ji21) : Int).toNat ((wrap64 ((t231.size : Int) - 8)) : Int).toNat))) ++ (⟨#[32, 114, 101, 102, 105, 110, 101]⟩ : ByteArray))).bind fun bt246 => (if (((rdOf ByteArray.empty y236 (ji26)) ++ (⟨#[32, 114, 101, 102, 105, 110, 101, 32]⟩ : ByteArray)) ++ ((⟨#[98, 117, 100, 103, 101, 116, 32]⟩ : ByteArray) ++ (t231.extract ((ji21) : Int).toNat ((wrap64 ((t231.size : Int) - 8)) : Int).toNat))).size + 1 ≤ 9223372036854775807 then (if ((((rdOf ByteArray.empty y236 (ji26)) ++ (⟨#[32, 114, 101, 102, 105, 110, 101, 32]⟩ : ByteArray)) ++ ((⟨#[98, 117, 100, 103, 101, 116, 32]⟩ : ByteArray) ++ (t231.extract ((ji21) : Int).toNat ((wrap64 ((t231.size : Int) - 8)) : Int).toNat))) ++ (⟨#[32]⟩ : ByteArray)).size + ((⟨#[98, 117, 100, 103, 101, 116, 32]⟩ : ByteArray) ++ (t231.extract ((ji21) : Int).toNat ((wrap64 ((t231.size : Int) - 8)) : Int).toNat)).size ≤ 9223372036854775807 then ((options_Parse.f (((((rdOf ByteArray.empty y236 (ji26)) ++ (⟨#[32, 114, 101, 102, 105, 110, 101, 32]⟩ : ByteArray)) ++ ((⟨#[98, 117, 100, 103, 101, 116, 32]⟩ : ByteArray) ++ (t231.extract ((ji21) : Int).toNat ((wrap64 ((t231.size : Int) - 8)) : Int).toNat))) ++ (⟨#[32]⟩ : ByteArray)) ++ ((⟨#[98, 117, 100, 103, 101, 116, 32]⟩ : ByteArray) ++ (t231.extract ((ji21) : Int).toNat ((wrap64 ((t231.size : Int) - 8)) : Int).toNat)))).bind fun bt252 => (if (t240 == a0_0 && (t241 == a0_1 && (t242 == a0_2))) = true then (if t243 = 0 then (if t244 = 0 then (if bt246.2.2.2.1 = (wrap64 (((((rdOf ByteArray.empty y236 (ji26)) ++ (⟨#[32, 114, 101, 102, 105, 110, 101, 32]⟩ : ByteArray)) ++ ((⟨#[98, 117, 100, 103, 101, 116, 32]⟩ : ByteArray) ++ (t231.extract ((ji21) : Int).toNat ((wrap64 ((t231.size : Int) - 8)) : Int).toNat))).size : Int) + 1)) then (if bt246.2.2.2.2 = 11 then (if bt252.2.2.2.1 = (wrap64 (((((rdOf ByteArray.empty y236 (ji26)) ++ (⟨#[32, 114, 101, 102, 105, 110, 101, 32]⟩ : ByteArray)) ++ ((⟨#[98, 117, 100, 103, 101, 116, 32]⟩ : ByteArray) ++ (t231.extract ((ji21) : Int).toNat ((wrap64 ((t231.size : Int) - 8)) : Int).toNat))).size : Int) + 1)) then (if bt252.2.2.2.2 = 11 then ((parquetlaw06_known.f).bind fun t258 => (some t258)) else (some false)) else (some false)) else (some false)) else (some false)) else (some false)) else (some false)) else (some false))) else (none)) else (none))) else (none)) = some r := H
                          have A31 := Aside0.mk A310
                          clear A310
                          by_cases c32 : (((rdOf ByteArray.empty y236 (ji26)) ++ (⟨#[32, 114, 101, 102, 105, 110, 101, 32]⟩ : ByteArray)) ++ ((⟨#[98, 117, 100, 103, 101, 116, 32]⟩ : ByteArray) ++ (t231.extract ((ji21) : Int).toNat ((wrap64 ((t231.size : Int) - 8)) : Int).toNat))).size + 7 ≤ 9223372036854775807
                          · rw [if_pos c32] at H
                            have c32b0 := eq_true c32
                            have c32b1 : decide ((((rdOf ByteArray.empty y236 (ji26)) ++ (⟨#[32, 114, 101, 102, 105, 110, 101, 32]⟩ : ByteArray)) ++ ((⟨#[98, 117, 100, 103, 101, 116, 32]⟩ : ByteArray) ++ (t231.extract ((ji21) : Int).toNat ((wrap64 ((t231.size : Int) - 8)) : Int).toNat))).size + 7 ≤ 9223372036854775807) = true := decide_eq_true c32
                            try (have c32b1n := c32b1; simp only [ByteArray.size_append, hxe, show (⟨#[32, 114, 101, 102, 105, 110, 101, 32]⟩ : ByteArray).size = 8 from rfl, show (⟨#[98, 117, 100, 103, 101, 116, 32]⟩ : ByteArray).size = 7 from rfl, Int.natCast_add, Int.cast_ofNat_Int] at c32b1n)
                            try have c32b2 : (9223372036854775807 < (((rdOf ByteArray.empty y236 (ji26)) ++ (⟨#[32, 114, 101, 102, 105, 110, 101, 32]⟩ : ByteArray)) ++ ((⟨#[98, 117, 100, 103, 101, 116, 32]⟩ : ByteArray) ++ (t231.extract ((ji21) : Int).toNat ((wrap64 ((t231.size : Int) - 8)) : Int).toNat))).size + 7) = False := eq_false (Nat.not_lt.2 c32)
                            try (have c32b2n := c32b2; simp only [ByteArray.size_append, hxe, show (⟨#[32, 114, 101, 102, 105, 110, 101, 32]⟩ : ByteArray).size = 8 from rfl, show (⟨#[98, 117, 100, 103, 101, 116, 32]⟩ : ByteArray).size = 7 from rfl, Int.natCast_add, Int.cast_ofNat_Int] at c32b2n)
                            try have c32b3 : (9223372036854775807 < (rdOf ByteArray.empty y236 (ji26)).size + 8 + (7 + (t231.extract ((ji21) : Int).toNat ((wrap64 ((t231.size : Int) - 8)) : Int).toNat).size) + 7) = False := eq_false (by have h_ := c32; simp only [ByteArray.size_append] at h_; exact Nat.not_lt.2 h_)
                            try (have c32b3n := c32b3; simp only [ByteArray.size_append, hxe, Int.natCast_add, Int.cast_ofNat_Int] at c32b3n)
                            replace H := Option.bind_eq_some_iff.mp H
                            obtain ⟨⟨t246, t247, t248, t249, t250⟩, A330, H⟩ := H
                            replace H : (if (((rdOf ByteArray.empty y236 (ji26)) ++ (⟨#[32, 114, 101, 102, 105, 110, 101, 32]⟩ : ByteArray)) ++ ((⟨#[98, 117, 100, 103, 101, 116, 32]⟩ : ByteArray) ++ (t231.extract ((ji21) : Int).toNat ((wrap64 ((t231.size : Int) - 8)) : Int).toNat))).size + 1 ≤ 9223372036854775807 then (if ((((rdOf ByteArray.empty y236 (ji26)) ++ (⟨#[32, 114, 101, 102, 105, 110, 101, 32]⟩ : ByteArray)) ++ ((⟨#[98, 117, 100, 103, 101, 116, 32]⟩ : ByteArray) ++ (t231.extract ((ji21) : Int).toNat ((wrap64 ((t231.size : Int) - 8)) : Int).toNat))) ++ (⟨#[32]⟩ : ByteArray)).size + ((⟨#[98, 117, 100, 103, 101, 116, 32]⟩ : ByteArray) ++ (t231.extract ((ji21) : Int).toNat ((wrap64 ((t231.size : Int) - 8)) : Int).toNat)).size ≤ 9223372036854775807 then ((options_Parse.f (((((rdOf ByteArray.empty y236 (ji26)) ++ (⟨#[32, 114, 101, 102, 105, 110, 101, 32]⟩ : ByteArray)) ++ ((⟨#[98, 117, 100, 103, 101, 116, 32]⟩ : ByteArray) ++ (t231.extract ((ji21) : Int).toNat ((wrap64 ((t231.size : Int) - 8)) : Int).toNat))) ++ (⟨#[32]⟩ : ByteArray)) ++ ((⟨#[98, 117, 100, 103, 101, 116, 32]⟩ : ByteArray) ++ (t231.extract ((ji21) : Int).toNat ((wrap64 ((t231.size : Int) - 8)) : Int).toNat)))).bind fun bt252 => (if (t240 == a0_0 && (t241 == a0_1 && (t242 == a0_2))) = true then (if t243 = 0 then (if t244 = 0 then (if t249 = (wrap64 (((((rdOf ByteArray.empty y236 (ji26)) ++ (⟨#[32, 114, 101, 102, 105, 110, 101, 32]⟩ : ByteArray)) ++ ((⟨#[98, 117, 100, 103, 101, 116, 32]⟩ : ByteArray) ++ (t231.extract ((ji21) : Int).toNat ((wrap64 ((t231.size : Int) - 8)) : Int).toNat))).size : Int) + 1)) then (if t250 = 11 then (if bt252.2.2.2.1 = (wrap64 (((((rdOf ByteArray.empty y236 (ji26)) ++ (⟨#[32, 114, 101, 102, 105, 110, 101, 32]⟩ : ByteArray)) ++ ((⟨#[98, 117, 100, 103, 101, 116, 32]⟩ : ByteArray) ++ (t231.extract ((ji21) : Int).toNat ((wrap64 ((t231.size : Int) - 8)) : Int).toNat))).size : Int) + 1)) then (if bt252.2.2.2.2 = 11 then ((parquetlaw06_known.f).bind fun t258 => (some t258)) else (some false)) else (some false)) else (some false)) else (some false)) else (some false)) else (some false)) else (some false))) else (none)) else (none)) = some r := H
                            have A33 := Aside0.mk A330
                            clear A330
                            by_cases c34 : (((rdOf ByteArray.empty y236 (ji26)) ++ (⟨#[32, 114, 101, 102, 105, 110, 101, 32]⟩ : ByteArray)) ++ ((⟨#[98, 117, 100, 103, 101, 116, 32]⟩ : ByteArray) ++ (t231.extract ((ji21) : Int).toNat ((wrap64 ((t231.size : Int) - 8)) : Int).toNat))).size + 1 ≤ 9223372036854775807
                            · rw [if_pos c34] at H
                              have c34b0 := eq_true c34
                              have c34b1 : decide ((((rdOf ByteArray.empty y236 (ji26)) ++ (⟨#[32, 114, 101, 102, 105, 110, 101, 32]⟩ : ByteArray)) ++ ((⟨#[98, 117, 100, 103, 101, 116, 32]⟩ : ByteArray) ++ (t231.extract ((ji21) : Int).toNat ((wrap64 ((t231.size : Int) - 8)) : Int).toNat))).size + 1 ≤ 9223372036854775807) = true := decide_eq_true c34
                              try (have c34b1n := c34b1; simp only [ByteArray.size_append, hxe, show (⟨#[32, 114, 101, 102, 105, 110, 101, 32]⟩ : ByteArray).size = 8 from rfl, show (⟨#[98, 117, 100, 103, 101, 116, 32]⟩ : ByteArray).size = 7 from rfl, Int.natCast_add, Int.cast_ofNat_Int] at c34b1n)
                              try have c34b2 : (9223372036854775807 < (((rdOf ByteArray.empty y236 (ji26)) ++ (⟨#[32, 114, 101, 102, 105, 110, 101, 32]⟩ : ByteArray)) ++ ((⟨#[98, 117, 100, 103, 101, 116, 32]⟩ : ByteArray) ++ (t231.extract ((ji21) : Int).toNat ((wrap64 ((t231.size : Int) - 8)) : Int).toNat))).size + 1) = False := eq_false (Nat.not_lt.2 c34)
                              try (have c34b2n := c34b2; simp only [ByteArray.size_append, hxe, show (⟨#[32, 114, 101, 102, 105, 110, 101, 32]⟩ : ByteArray).size = 8 from rfl, show (⟨#[98, 117, 100, 103, 101, 116, 32]⟩ : ByteArray).size = 7 from rfl, Int.natCast_add, Int.cast_ofNat_Int] at c34b2n)
                              try have c34b3 : (9223372036854775807 < (rdOf ByteArray.empty y236 (ji26)).size + 8 + (7 + (t231.extract ((ji21) : Int).toNat ((wrap64 ((t231.size : Int) - 8)) : Int).toNat).size) + 1) = False := eq_false (by have h_ := c34; simp only [ByteArray.size_append] at h_; exact Nat.not_lt.2 h_)
                              try (have c34b3n := c34b3; simp only [ByteArray.size_append, hxe, Int.natCast_add, Int.cast_ofNat_Int] at c34b3n)
                              by_cases c35 : ((((rdOf ByteArray.empty y236 (ji26)) ++ (⟨#[32, 114, 101, 102, 105, 110, 101, 32]⟩ : ByteArray)) ++ ((⟨#[98, 117, 100, 103, 101, 116, 32]⟩ : ByteArray) ++ (t231.extract ((ji21) : Int).toNat ((wrap64 ((t231.size : Int) - 8)) : Int).toNat))) ++ (⟨#[32]⟩ : ByteArray)).size + ((⟨#[98, 117, 100, 103, 101, 116, 32]⟩ : ByteArray) ++ (t231.extract ((ji21) : Int).toNat ((wrap64 ((t231.size : Int) - 8)) : Int).toNat)).size ≤ 9223372036854775807
                              · rw [if_pos c35] at H
                                have c35b0 := eq_true c35
                                have c35b1 : decide (((((rdOf ByteArray.empty y236 (ji26)) ++ (⟨#[32, 114, 101, 102, 105, 110, 101, 32]⟩ : ByteArray)) ++ ((⟨#[98, 117, 100, 103, 101, 116, 32]⟩ : ByteArray) ++ (t231.extract ((ji21) : Int).toNat ((wrap64 ((t231.size : Int) - 8)) : Int).toNat))) ++ (⟨#[32]⟩ : ByteArray)).size + ((⟨#[98, 117, 100, 103, 101, 116, 32]⟩ : ByteArray) ++ (t231.extract ((ji21) : Int).toNat ((wrap64 ((t231.size : Int) - 8)) : Int).toNat)).size ≤ 9223372036854775807) = true := decide_eq_true c35
                                try (have c35b1n := c35b1; simp only [ByteArray.size_append, hxe, show (⟨#[32, 114, 101, 102, 105, 110, 101, 32]⟩ : ByteArray).size = 8 from rfl, show (⟨#[32]⟩ : ByteArray).size = 1 from rfl, show (⟨#[98, 117, 100, 103, 101, 116, 32]⟩ : ByteArray).size = 7 from rfl, Int.natCast_add, Int.cast_ofNat_Int] at c35b1n)
                                try have c35b2 : (9223372036854775807 < ((((rdOf ByteArray.empty y236 (ji26)) ++ (⟨#[32, 114, 101, 102, 105, 110, 101, 32]⟩ : ByteArray)) ++ ((⟨#[98, 117, 100, 103, 101, 116, 32]⟩ : ByteArray) ++ (t231.extract ((ji21) : Int).toNat ((wrap64 ((t231.size : Int) - 8)) : Int).toNat))) ++ (⟨#[32]⟩ : ByteArray)).size + ((⟨#[98, 117, 100, 103, 101, 116, 32]⟩ : ByteArray) ++ (t231.extract ((ji21) : Int).toNat ((wrap64 ((t231.size : Int) - 8)) : Int).toNat)).size) = False := eq_false (Nat.not_lt.2 c35)
                                try (have c35b2n := c35b2; simp only [ByteArray.size_append, hxe, show (⟨#[32, 114, 101, 102, 105, 110, 101, 32]⟩ : ByteArray).size = 8 from rfl, show (⟨#[32]⟩ : ByteArray).size = 1 from rfl, show (⟨#[98, 117, 100, 103, 101, 116, 32]⟩ : ByteArray).size = 7 from rfl, Int.natCast_add, Int.cast_ofNat_Int] at c35b2n)
                                try have c35b3 : (9223372036854775807 < (rdOf ByteArray.empty y236 (ji26)).size + 8 + (7 + (t231.extract ((ji21) : Int).toNat ((wrap64 ((t231.size : Int) - 8)) : Int).toNat).size) + 1 + (7 + (t231.extract ((ji21) : Int).toNat ((wrap64 ((t231.size : Int) - 8)) : Int).toNat).size)) = False := eq_false (by have h_ := c35; simp only [ByteArray.size_append] at h_; exact Nat.not_lt.2 h_)
                                try (have c35b3n := c35b3; simp only [ByteArray.size_append, hxe, Int.natCast_add, Int.cast_ofNat_Int] at c35b3n)
                                replace H := Option.bind_eq_some_iff.mp H
                                obtain ⟨⟨t252, t253, t254, t255, t256⟩, A360, H⟩ := H
                                replace H : (if (t240 == a0_0 && (t241 == a0_1 && (t242 == a0_2))) = true then (if t243 = 0 then (if t244 = 0 then (if t249 = (wrap64 (((((rdOf ByteArray.empty y236 (ji26)) ++ (⟨#[32, 114, 101, 102, 105, 110, 101, 32]⟩ : ByteArray)) ++ ((⟨#[98, 117, 100, 103, 101, 116, 32]⟩ : ByteArray) ++ (t231.extract ((ji21) : Int).toNat ((wrap64 ((t231.size : Int) - 8)) : Int).toNat))).size : Int) + 1)) then (if t250 = 11 then (if t255 = (wrap64 (((((rdOf ByteArray.empty y236 (ji26)) ++ (⟨#[32, 114, 101, 102, 105, 110, 101, 32]⟩ : ByteArray)) ++ ((⟨#[98, 117, 100, 103, 101, 116, 32]⟩ : ByteArray) ++ (t231.extract ((ji21) : Int).toNat ((wrap64 ((t231.size : Int) - 8)) : Int).toNat))).size : Int) + 1)) then (if t256 = 11 then ((parquetlaw06_known.f).bind fun t258 => (some t258)) else (some false)) else (some false)) else (some false)) else (some false)) else (some false)) else (some false)) else (some false)) = some r := H
                                have A36 := Aside0.mk A360
                                clear A360
                                by_cases c37 : (t240 == a0_0 && (t241 == a0_1 && (t242 == a0_2))) = true
                                · rw [if_pos c37] at H
                                  have c37b0 : (t240 == a0_0 && (t241 == a0_1 && (t242 == a0_2))) = true := c37
                                  (try (have c37b1 : decide (t240 = a0_0 && (t241 == a0_1 && (t242 == a0_2))) = true := by simpa using c37))
                                  (try (have c37b2 : (t240 == a0_0 && (t241 == a0_1 && (t242 == a0_2))) = true := by simpa using c37))
                                  clear c37
                                  by_cases c38 : t243 = 0
                                  · rw [if_pos c38] at H
                                    have c38b0 : (t243 == 0) = true := beq_iff_eq.mpr c38
                                    have c38b1 : (t243 != 0) = false := bne_eq_false_iff_eq.mpr c38
                                    clear c38
                                    by_cases c39 : t244 = 0
                                    · rw [if_pos c39] at H
                                      have c39b0 : (t244 == 0) = true := beq_iff_eq.mpr c39
                                      have c39b1 : (t244 != 0) = false := bne_eq_false_iff_eq.mpr c39
                                      clear c39
                                      by_cases c40 : t249 = (wrap64 (((((rdOf ByteArray.empty y236 (ji26)) ++ (⟨#[32, 114, 101, 102, 105, 110, 101, 32]⟩ : ByteArray)) ++ ((⟨#[98, 117, 100, 103, 101, 116, 32]⟩ : ByteArray) ++ (t231.extract ((ji21) : Int).toNat ((wrap64 ((t231.size : Int) - 8)) : Int).toNat))).size : Int) + 1))
                                      · rw [if_pos c40] at H
                                        have c40b0 : (t249 == (wrap64 (((((rdOf ByteArray.empty y236 (ji26)) ++ (⟨#[32, 114, 101, 102, 105, 110, 101, 32]⟩ : ByteArray)) ++ ((⟨#[98, 117, 100, 103, 101, 116, 32]⟩ : ByteArray) ++ (t231.extract ((ji21) : Int).toNat ((wrap64 ((t231.size : Int) - 8)) : Int).toNat))).size : Int) + 1))) = true := beq_iff_eq.mpr c40
                                        try (have c40b0n := c40b0; simp only [ByteArray.size_append, hxe, show (⟨#[32, 114, 101, 102, 105, 110, 101, 32]⟩ : ByteArray).size = 8 from rfl, show (⟨#[98, 117, 100, 103, 101, 116, 32]⟩ : ByteArray).size = 7 from rfl, Int.natCast_add, Int.cast_ofNat_Int] at c40b0n)
                                        have c40b1 : (t249 != (wrap64 (((((rdOf ByteArray.empty y236 (ji26)) ++ (⟨#[32, 114, 101, 102, 105, 110, 101, 32]⟩ : ByteArray)) ++ ((⟨#[98, 117, 100, 103, 101, 116, 32]⟩ : ByteArray) ++ (t231.extract ((ji21) : Int).toNat ((wrap64 ((t231.size : Int) - 8)) : Int).toNat))).size : Int) + 1))) = false := bne_eq_false_iff_eq.mpr c40
                                        try (have c40b1n := c40b1; simp only [ByteArray.size_append, hxe, show (⟨#[32, 114, 101, 102, 105, 110, 101, 32]⟩ : ByteArray).size = 8 from rfl, show (⟨#[98, 117, 100, 103, 101, 116, 32]⟩ : ByteArray).size = 7 from rfl, Int.natCast_add, Int.cast_ofNat_Int] at c40b1n)
                                        clear c40
                                        by_cases c41 : t250 = 11
                                        · rw [if_pos c41] at H
                                          have c41b0 : (t250 == 11) = true := beq_iff_eq.mpr c41
                                          have c41b1 : (t250 != 11) = false := bne_eq_false_iff_eq.mpr c41
                                          clear c41
                                          by_cases c42 : t255 = (wrap64 (((((rdOf ByteArray.empty y236 (ji26)) ++ (⟨#[32, 114, 101, 102, 105, 110, 101, 32]⟩ : ByteArray)) ++ ((⟨#[98, 117, 100, 103, 101, 116, 32]⟩ : ByteArray) ++ (t231.extract ((ji21) : Int).toNat ((wrap64 ((t231.size : Int) - 8)) : Int).toNat))).size : Int) + 1))
                                          · rw [if_pos c42] at H
                                            have c42b0 : (t255 == (wrap64 (((((rdOf ByteArray.empty y236 (ji26)) ++ (⟨#[32, 114, 101, 102, 105, 110, 101, 32]⟩ : ByteArray)) ++ ((⟨#[98, 117, 100, 103, 101, 116, 32]⟩ : ByteArray) ++ (t231.extract ((ji21) : Int).toNat ((wrap64 ((t231.size : Int) - 8)) : Int).toNat))).size : Int) + 1))) = true := beq_iff_eq.mpr c42
                                            try (have c42b0n := c42b0; simp only [ByteArray.size_append, hxe, show (⟨#[32, 114, 101, 102, 105, 110, 101, 32]⟩ : ByteArray).size = 8 from rfl, show (⟨#[98, 117, 100, 103, 101, 116, 32]⟩ : ByteArray).size = 7 from rfl, Int.natCast_add, Int.cast_ofNat_Int] at c42b0n)
                                            have c42b1 : (t255 != (wrap64 (((((rdOf ByteArray.empty y236 (ji26)) ++ (⟨#[32, 114, 101, 102, 105, 110, 101, 32]⟩ : ByteArray)) ++ ((⟨#[98, 117, 100, 103, 101, 116, 32]⟩ : ByteArray) ++ (t231.extract ((ji21) : Int).toNat ((wrap64 ((t231.size : Int) - 8)) : Int).toNat))).size : Int) + 1))) = false := bne_eq_false_iff_eq.mpr c42
                                            try (have c42b1n := c42b1; simp only [ByteArray.size_append, hxe, show (⟨#[32, 114, 101, 102, 105, 110, 101, 32]⟩ : ByteArray).size = 8 from rfl, show (⟨#[98, 117, 100, 103, 101, 116, 32]⟩ : ByteArray).size = 7 from rfl, Int.natCast_add, Int.cast_ofNat_Int] at c42b1n)
                                            clear c42
                                            by_cases c43 : t256 = 11
                                            · rw [if_pos c43] at H
                                              have c43b0 : (t256 == 11) = true := beq_iff_eq.mpr c43
                                              have c43b1 : (t256 != 11) = false := bne_eq_false_iff_eq.mpr c43
                                              clear c43
                                              replace H := Option.bind_eq_some_iff.mp H
                                              obtain ⟨t258, A440, H⟩ := H
                                              replace H : (some t258) = some r := H
                                              have A44 := Aside0.mk A440
                                              clear A440
                                              obtain rfl := Option.some.inj H
                                              have hcz45_0 : wc.cell? ⟨gb230, 0, none⟩ = some (.int .i64 a0_0) := (blk_cell BK230.out 0).trans rfl
                                              have hcz45_1 : wc.cell? ⟨gb230, 1, none⟩ = some (.int .i64 a0_1) := (blk_cell BK230.out 1).trans rfl
                                              have hcz45_2 : wc.cell? ⟨gb230, 2, none⟩ = some (.bool a0_2) := (blk_cell BK230.out 2).trans rfl
                                              have hfz45_0 := blk_frozen BK230.out 0
                                              have hfz45_1 := blk_frozen BK230.out 1
                                              have hfz45_2 := blk_frozen BK230.out 2
                                              go_wp2_with (first | ((with_reducible refine gate_callee (f := 18) rfl ?_); refine goesL_ (some 54) rfl rfl Try.func18 (by kernel_rfl) rfl #[.int .i64 a0_1] rfl (by (try simp only [List.map_toArray, List.map_cons, List.map_nil]); first | done | rfl | (simp only [List.length_drop, List.length_take]; rfl)) ?_; (with_reducible refine (parquetlaw06_digits.calls kj3 a0_1 t235 _ A20.out).mono ?_); rintro e w' ⟨rfl, ⟨nd, rfl⟩⟩; refine ⟨_, rfl, ?_⟩; (try (rw [drewN_self wc]; generalize hq_ : World.drewN wc _ = wc; have n0_ : Aside0 (wc.heap[gb230]? = some (.cells #[.int .i64 a0_0, .int .i64 a0_1, .bool a0_2] 25 (0, 0))) := ⟨by rw [← hq_]; exact (by (with_reducible repeat (first | refine blk_drewN ?_ _ | refine blk_drew ?_ | refine blk_alloc ?_ _)); exact BK230.out)⟩; have n1_ : Aside0 (Below w.heap.size w wc) := ⟨by rw [← hq_]; exact (by repeat (first | (with_reducible first | exact HB.out | apply below_alloc | apply pw_below_drewN | apply below_drew1 | refine below_set ?_ GE230.out) | exact HB.out))⟩; clear BK230 HB hq_; have BK230 := n0_; have HB := n1_; clear n0_ n1_))) | ((with_reducible refine gate_dst (N := 61) rfl ?_); (try (refine gate_guard (by rfl) ?_; dsimp only)); refine Kd.R_lit Kd.string _ 9 ?hg (N := 61) ?hd (xs := ([(⟨#[116, 114, 105]⟩ : ByteArray), (⟨#[113, 117, 97, 100]⟩ : ByteArray), (⟨#[97, 108, 108]⟩ : ByteArray)] : List ByteArray)) (inner := [.string (⟨#[116, 114, 105]⟩ : ByteArray), .string (⟨#[113, 117, 97, 100]⟩ : ByteArray), .string (⟨#[97, 108, 108]⟩ : ByteArray)]) (ok := fun _ => True) (okp := fun _ => True) ?hr ?hp (fun _ hk => hk) trivial (Below.refl _ _) (Nat.le_refl _) (by simp) ?_; (case hd => rfl); (case hg => rfl); (case hr => first | (go_simp; done) | (go_simp; rfl)); (case hp => exact (Reps.one (show Kd.M Kd.string _ _ _ (⟨#[116, 114, 105]⟩ : ByteArray) [.string (⟨#[116, 114, 105]⟩ : ByteArray)] from rfl) (Reps.one (show Kd.M Kd.string _ _ _ (⟨#[113, 117, 97, 100]⟩ : ByteArray) [.string (⟨#[113, 117, 97, 100]⟩ : ByteArray)] from rfl) (Reps.one (show Kd.M Kd.string _ _ _ (⟨#[97, 108, 108]⟩ : ByteArray) [.string (⟨#[97, 108, 108]⟩ : ByteArray)] from rfl) (Reps.none _ _))))); intro v237 w46 ho47 hb hg_ hnew_; clear hg_ hnew_; (first | rw [← Ny236.out] at ho47 | (simp only [Int.reduceToNat] at ho47; rw [← Ny236.out] at ho47)); have n0_ := Aside0.mk (Kd.R_lower ho47 (below_size (by repeat (first | (with_reducible first | exact HB.out | apply below_alloc | apply pw_below_drewN | apply below_drew1 | refine below_set ?_ GE230.out) | exact HB.out)))); have n1_ := Aside0.mk (blk_below (g := gb230) (o := .cells #[.int .i64 a0_0, .int .i64 a0_1, .bool a0_2] 25 (0, 0)) (by (with_reducible repeat (first | refine blk_drewN ?_ _ | refine blk_drew ?_ | refine blk_alloc ?_ _)); exact BK230.out) hb); have n2_ := Aside0.mk (below_step (by repeat (first | (with_reducible first | exact HB.out | apply below_alloc | apply pw_below_drewN | apply below_drew1 | refine below_set ?_ GE230.out) | exact HB.out)) hb); clear BK230; clear HB; have HO238 := n0_; have BK230 := n1_; have HB := n2_; clear n0_ n1_ n2_; clear hb ho47; have hcz48_0 : w46.cell? ⟨gb230, 0, none⟩ = some (.int .i64 a0_0) := (blk_cell BK230.out 0).trans rfl; have hcz48_1 : w46.cell? ⟨gb230, 1, none⟩ = some (.int .i64 a0_1) := (blk_cell BK230.out 1).trans rfl; have hcz48_2 : w46.cell? ⟨gb230, 2, none⟩ = some (.bool a0_2) := (blk_cell BK230.out 2).trans rfl; have hfz48_0 := blk_frozen BK230.out 0; have hfz48_1 := blk_frozen BK230.out 1; have hfz48_2 := blk_frozen BK230.out 2; obtain ⟨Ao49, co49, eo49⟩ := Kd.R_slice HO238.out; subst eo49; have p239 : 0 ≤ ((ji26) : Int) := of_decide_eq_true (by first | (with_reducible assumption) | assumption); have q239 : (ji26) < (y236.length : Int) := of_decide_eq_true (by first | (with_reducible assumption) | assumption); obtain ⟨ad239, e239, hx239_0⟩ := Kd.at_string (Kd.R_reads' HO238.out).2.2 (ji26) p239 q239; cases e239; replace p239 := eq_true p239; replace q239 := eq_true q239) | ((with_reducible refine gate_callee (f := 10) rfl ?_); refine goesL_ (some 74) rfl rfl Try.func10 (by kernel_rfl) rfl #[.slice (some ⟨_, 0, none⟩) _ _] rfl (by (try simp only [List.map_toArray, List.map_cons, List.map_nil]); rfl) ?_; (with_reducible refine (options_Parse.calls (((rdOf ByteArray.empty y236 (ji26)) ++ (⟨#[32, 114, 101, 102, 105, 110, 101, 32]⟩ : ByteArray)) ++ ((⟨#[98, 117, 100, 103, 101, 116, 32]⟩ : ByteArray) ++ (t231.extract ((ji21) : Int).toNat ((wrap64 ((t231.size : Int) - 8)) : Int).toNat))) t240 t241 t242 t243 t244 _ A31.out ?hn ?hb ?hc).mono ?_); (case hn => first | (with_reducible rfl) | (simp only [ByteArray.size_append]; first | done | rfl) | (simp only [ByteArray.size_append, hxe]; first | done | rfl)); (case hb => first | (with_reducible rfl) | simp); (case hc => exact grownCap_ge _ _ _ _); rintro e w50 ⟨rfl, hb⟩; refine ⟨_, rfl, ?_⟩; have n0_ := Aside0.mk (Kd.R_below (by (with_reducible repeat (first | apply Kd.R_alloc | apply Kd.R_drewN | apply Kd.R_drew)); exact HO238.out) hb); have n1_ := Aside0.mk (blk_below (g := gb230) (o := .cells #[.int .i64 a0_0, .int .i64 a0_1, .bool a0_2] 25 (0, 0)) (by (with_reducible repeat (first | refine blk_drewN ?_ _ | refine blk_drew ?_ | refine blk_alloc ?_ _)); exact BK230.out) hb); have n2_ := Aside0.mk (below_step (by repeat (first | (with_reducible first | exact HB.out | apply below_alloc | apply pw_below_drewN | apply below_drew1 | refine below_set ?_ GE230.out) | exact HB.out)) hb); clear HO238; clear BK230; clear HB; have HO238 := n0_; have BK230 := n1_; have HB := n2_; clear n0_ n1_ n2_; (try clear hb); (try clear hb2); (try clear hk); (try clear hi)) | ((with_reducible refine gate_dst (N := 10) rfl ?_); (try (refine gate_guard (by rfl) ?_; dsimp only)); refine box_event ?hg (N := 10) ?hd (cs := #[.int .i64 0, .int .i64 0, .bool false]) (t := 25) ?hr ?_; (case hd => rfl); (case hg => rfl); (case hr => first | (go_simp; done) | (go_simp; rfl)); intro gb245 hg w51 hbox hb; have n0_ := Aside0.mk (Kd.R_below (by (with_reducible repeat (first | apply Kd.R_alloc | apply Kd.R_drewN | apply Kd.R_drew)); exact HO238.out) hb); have n1_ := Aside0.mk (blk_below (g := gb230) (o := .cells #[.int .i64 a0_0, .int .i64 a0_1, .bool a0_2] 25 (0, 0)) (by (with_reducible repeat (first | refine blk_drewN ?_ _ | refine blk_drew ?_ | refine blk_alloc ?_ _)); exact BK230.out) hb); have n2_ := Aside0.mk (below_step (by repeat (first | (with_reducible first | exact HB.out | apply below_alloc | apply pw_below_drewN | apply below_drew1 | refine below_set ?_ GE230.out) | exact HB.out)) hb); have n3_ := Aside0.mk (hbox); have n4_ := Aside0.mk ((by rw [hg]; exact (below_size (by repeat (first | (with_reducible first | exact HB.out | apply below_alloc | apply pw_below_drewN | apply below_drew1 | refine below_set ?_ GE230.out) | exact HB.out))) : w.heap.size ≤ gb245)); have n5_ := Aside0.mk ((by rw [hg]; exact (below_size (by repeat (first | (with_reducible first | exact HB.out | apply below_alloc | apply pw_below_drewN | apply below_drew1 | refine below_set ?_ GE230.out) | exact HB.out))) : w.heap.size ≤ gb245)); have n6_ := Aside0.mk ((by rw [hg]; exact Nat.ne_of_lt (blk_lt (g := gb230) (o := .cells #[.int .i64 a0_0, .int .i64 a0_1, .bool a0_2] 25 (0, 0)) (by (with_reducible repeat (first | refine blk_drewN ?_ _ | refine blk_drew ?_ | refine blk_alloc ?_ _)); exact BK230.out)) : gb230 ≠ gb245)); have n7_ := Aside0.mk ((by rw [hg]; exact Nat.ne_of_gt (blk_lt (g := gb230) (o := .cells #[.int .i64 a0_0, .int .i64 a0_1, .bool a0_2] 25 (0, 0)) (by (with_reducible repeat (first | refine blk_drewN ?_ _ | refine blk_drew ?_ | refine blk_alloc ?_ _)); exact BK230.out)) : gb245 ≠ gb230)); clear HO238; clear BK230; clear HB; have HO238 := n0_; have BK230 := n1_; have HB := n2_; have BK245 := n3_; have GW245 := n4_; have GE245 := n5_; have NB230_245 := n6_; have NB245_230 := n7_; clear n0_ n1_ n2_ n3_ n4_ n5_ n6_ n7_; clear hb hbox hg; have hnb52 := NB245_230.out; have hnc52 := NB230_245.out; have hcz53_0 : w51.cell? ⟨gb245, 0, none⟩ = some (.int .i64 0) := (blk_cell BK245.out 0).trans rfl; have hcz53_1 : w51.cell? ⟨gb245, 1, none⟩ = some (.int .i64 0) := (blk_cell BK245.out 1).trans rfl; have hcz53_2 : w51.cell? ⟨gb245, 2, none⟩ = some (.bool false) := (blk_cell BK245.out 2).trans rfl; have hfz53_0 := blk_frozen BK245.out 0; have hfz53_1 := blk_frozen BK245.out 1; have hfz53_2 := blk_frozen BK245.out 2) | ((with_reducible refine gate_callee (f := 10) rfl ?_); refine goesL_ (some 82) rfl rfl Try.func10 (by kernel_rfl) rfl #[.slice (some ⟨_, 0, none⟩) _ _] rfl (by (try simp only [List.map_toArray, List.map_cons, List.map_nil]); rfl) ?_; (with_reducible refine (options_Parse.calls ((((rdOf ByteArray.empty y236 (ji26)) ++ (⟨#[32, 114, 101, 102, 105, 110, 101, 32]⟩ : ByteArray)) ++ ((⟨#[98, 117, 100, 103, 101, 116, 32]⟩ : ByteArray) ++ (t231.extract ((ji21) : Int).toNat ((wrap64 ((t231.size : Int) - 8)) : Int).toNat))) ++ (⟨#[32, 114, 101, 102, 105, 110, 101]⟩ : ByteArray)) t246 t247 t248 t249 t250 _ A33.out ?hn ?hb ?hc).mono ?_); (case hn => first | (with_reducible rfl) | (simp only [ByteArray.size_append]; first | done | rfl) | (simp only [ByteArray.size_append, hxe]; first | done | rfl)); (case hb => first | (with_reducible rfl) | simp); (case hc => exact grownCap_ge _ _ _ _); rintro e w54 ⟨rfl, hb⟩; refine ⟨_, rfl, ?_⟩; have n0_ := Aside0.mk (Kd.R_below (by (with_reducible repeat (first | apply Kd.R_alloc | apply Kd.R_drewN | apply Kd.R_drew)); exact (Kd.R_mono (Kd.R_far (p := ⟨gb245, 2, none⟩) (Kd.R_far (p := ⟨gb245, 1, none⟩) (Kd.R_far (p := ⟨gb245, 0, none⟩) (Kd.R_types HO238.out BK245.out (by decide)) (fun _ hk => hk.2) (.int .i64 t240)) (fun _ hk => hk.2) (.int .i64 t241)) (fun _ hk => hk.2) (.bool t242)) (fun _ h_ => h_.1))) hb); have n1_ := Aside0.mk (blk_below (g := gb230) (o := .cells #[.int .i64 a0_0, .int .i64 a0_1, .bool a0_2] 25 (0, 0)) (by (with_reducible repeat (first | refine blk_drewN ?_ _ | refine blk_drew ?_ | refine blk_alloc ?_ _)); refine blk_far ?_ NB230_245.out _; (with_reducible repeat (first | refine blk_drewN ?_ _ | refine blk_drew ?_ | refine blk_alloc ?_ _)); refine blk_far ?_ NB230_245.out _; (with_reducible repeat (first | refine blk_drewN ?_ _ | refine blk_drew ?_ | refine blk_alloc ?_ _)); refine blk_far ?_ NB230_245.out _; (with_reducible repeat (first | refine blk_drewN ?_ _ | refine blk_drew ?_ | refine blk_alloc ?_ _)); exact BK230.out) hb); have n2_ := Aside0.mk (blk_below (g := gb245) (o := .cells #[.int .i64 t240, .int .i64 t241, .bool t242] 25 (0, 0)) (by (with_reducible repeat (first | refine blk_drewN ?_ _ | refine blk_drew ?_ | refine blk_alloc ?_ _)); refine blk_put (cs := #[.int .i64 t240, .int .i64 t241, .bool false]) ?_ 2 _ rfl; (with_reducible repeat (first | refine blk_drewN ?_ _ | refine blk_drew ?_ | refine blk_alloc ?_ _)); refine blk_put (cs := #[.int .i64 t240, .int .i64 0, .bool false]) ?_ 1 _ rfl; (with_reducible repeat (first | refine blk_drewN ?_ _ | refine blk_drew ?_ | refine blk_alloc ?_ _)); refine blk_put (cs := #[.int .i64 0, .int .i64 0, .bool false]) ?_ 0 _ rfl; (with_reducible repeat (first | refine blk_drewN ?_ _ | refine blk_drew ?_ | refine blk_alloc ?_ _)); exact BK245.out) hb); have n3_ := Aside0.mk (below_step (by repeat (first | (with_reducible first | exact HB.out | apply below_alloc | apply pw_below_drewN | apply below_drew1 | refine below_set ?_ GE230.out | refine below_set ?_ GE245.out) | exact HB.out)) hb); clear HO238; clear BK230; clear BK245; clear HB; have HO238 := n0_; have BK230 := n1_; have BK245 := n2_; have HB := n3_; clear n0_ n1_ n2_ n3_; (try clear hb); (try clear hb2); (try clear hk); (try clear hi)) | ((with_reducible refine gate_dst (N := 13) rfl ?_); (try (refine gate_guard (by rfl) ?_; dsimp only)); refine box_event ?hg (N := 13) ?hd (cs := #[.int .i64 0, .int .i64 0, .bool false]) (t := 25) ?hr ?_; (case hd => rfl); (case hg => rfl); (case hr => first | (go_simp; done) | (go_simp; rfl)); intro gb251 hg w55 hbox hb; have n0_ := Aside0.mk (Kd.R_below (by (with_reducible repeat (first | apply Kd.R_alloc | apply Kd.R_drewN | apply Kd.R_drew)); exact HO238.out) hb); have n1_ := Aside0.mk (blk_below (g := gb230) (o := .cells #[.int .i64 a0_0, .int .i64 a0_1, .bool a0_2] 25 (0, 0)) (by (with_reducible repeat (first | refine blk_drewN ?_ _ | refine blk_drew ?_ | refine blk_alloc ?_ _)); exact BK230.out) hb); have n2_ := Aside0.mk (blk_below (g := gb245) (o := .cells #[.int .i64 t240, .int .i64 t241, .bool t242] 25 (0, 0)) (by (with_reducible repeat (first | refine blk_drewN ?_ _ | refine blk_drew ?_ | refine blk_alloc ?_ _)); exact BK245.out) hb); have n3_ := Aside0.mk (below_step (by repeat (first | (with_reducible first | exact HB.out | apply below_alloc | apply pw_below_drewN | apply below_drew1 | refine below_set ?_ GE230.out | refine below_set ?_ GE245.out) | exact HB.out)) hb); have n4_ := Aside0.mk (hbox); have n5_ := Aside0.mk ((by rw [hg]; exact (below_size (by repeat (first | (with_reducible first | exact HB.out | apply below_alloc | apply pw_below_drewN | apply below_drew1 | refine below_set ?_ GE230.out | refine below_set ?_ GE245.out) | exact HB.out))) : w.heap.size ≤ gb251)); have n6_ := Aside0.mk ((by rw [hg]; exact (below_size (by repeat (first | (with_reducible first | exact HB.out | apply below_alloc | apply pw_below_drewN | apply below_drew1 | refine below_set ?_ GE230.out | refine below_set ?_ GE245.out) | exact HB.out))) : w.heap.size ≤ gb251)); have n7_ := Aside0.mk ((by rw [hg]; exact Nat.ne_of_lt (blk_lt (g := gb230) (o := .cells #[.int .i64 a0_0, .int .i64 a0_1, .bool a0_2] 25 (0, 0)) (by (with_reducible repeat (first | refine blk_drewN ?_ _ | refine blk_drew ?_ | refine blk_alloc ?_ _)); exact BK230.out)) : gb230 ≠ gb251)); have n8_ := Aside0.mk ((by rw [hg]; exact Nat.ne_of_gt (blk_lt (g := gb230) (o := .cells #[.int .i64 a0_0, .int .i64 a0_1, .bool a0_2] 25 (0, 0)) (by (with_reducible repeat (first | refine blk_drewN ?_ _ | refine blk_drew ?_ | refine blk_alloc ?_ _)); exact BK230.out)) : gb251 ≠ gb230)); have n9_ := Aside0.mk ((by rw [hg]; exact Nat.ne_of_lt (blk_lt (g := gb245) (o := .cells #[.int .i64 t240, .int .i64 t241, .bool t242] 25 (0, 0)) (by (with_reducible repeat (first | refine blk_drewN ?_ _ | refine blk_drew ?_ | refine blk_alloc ?_ _)); exact BK245.out)) : gb245 ≠ gb251)); have n10_ := Aside0.mk ((by rw [hg]; exact Nat.ne_of_gt (blk_lt (g := gb245) (o := .cells #[.int .i64 t240, .int .i64 t241, .bool t242] 25 (0, 0)) (by (with_reducible repeat (first | refine blk_drewN ?_ _ | refine blk_drew ?_ | refine blk_alloc ?_ _)); exact BK245.out)) : gb251 ≠ gb245)); clear HO238; clear BK230; clear BK245; clear HB; have HO238 := n0_; have BK230 := n1_; have BK245 := n2_; have HB := n3_; have BK251 := n4_; have GW251 := n5_; have GE251 := n6_; have NB230_251 := n7_; have NB251_230 := n8_; have NB245_251 := n9_; have NB251_245 := n10_; clear n0_ n1_ n2_ n3_ n4_ n5_ n6_ n7_ n8_ n9_ n10_; clear hb hbox hg; have hnb56 := NB251_230.out; have hnc56 := NB230_251.out; have hnb57 := NB251_245.out; have hnc57 := NB245_251.out; have hcz58_0 : w55.cell? ⟨gb251, 0, none⟩ = some (.int .i64 0) := (blk_cell BK251.out 0).trans rfl; have hcz58_1 : w55.cell? ⟨gb251, 1, none⟩ = some (.int .i64 0) := (blk_cell BK251.out 1).trans rfl; have hcz58_2 : w55.cell? ⟨gb251, 2, none⟩ = some (.bool false) := (blk_cell BK251.out 2).trans rfl; have hfz58_0 := blk_frozen BK251.out 0; have hfz58_1 := blk_frozen BK251.out 1; have hfz58_2 := blk_frozen BK251.out 2) | ((with_reducible refine gate_callee (f := 10) rfl ?_); refine goesL_ (some 92) rfl rfl Try.func10 (by kernel_rfl) rfl #[.slice (some ⟨_, 0, none⟩) _ _] rfl (by (try simp only [List.map_toArray, List.map_cons, List.map_nil]); rfl) ?_; (with_reducible refine (options_Parse.calls (((((rdOf ByteArray.empty y236 (ji26)) ++ (⟨#[32, 114, 101, 102, 105, 110, 101, 32]⟩ : ByteArray)) ++ ((⟨#[98, 117, 100, 103, 101, 116, 32]⟩ : ByteArray) ++ (t231.extract ((ji21) : Int).toNat ((wrap64 ((t231.size : Int) - 8)) : Int).toNat))) ++ (⟨#[32]⟩ : ByteArray)) ++ ((⟨#[98, 117, 100, 103, 101, 116, 32]⟩ : ByteArray) ++ (t231.extract ((ji21) : Int).toNat ((wrap64 ((t231.size : Int) - 8)) : Int).toNat))) t252 t253 t254 t255 t256 _ A36.out ?hn ?hb ?hc).mono ?_); (case hn => first | (with_reducible rfl) | (simp only [ByteArray.size_append]; first | done | rfl) | (simp only [ByteArray.size_append, hxe]; first | done | rfl)); (case hb => first | (with_reducible rfl) | simp); (case hc => exact grownCap_ge _ _ _ _); rintro e w59 ⟨rfl, hb⟩; refine ⟨_, rfl, ?_⟩; have n0_ := Aside0.mk (Kd.R_below (by (with_reducible repeat (first | apply Kd.R_alloc | apply Kd.R_drewN | apply Kd.R_drew)); exact (Kd.R_mono (Kd.R_far (p := ⟨gb251, 2, none⟩) (Kd.R_far (p := ⟨gb251, 1, none⟩) (Kd.R_far (p := ⟨gb251, 0, none⟩) (Kd.R_types HO238.out BK251.out (by decide)) (fun _ hk => hk.2) (.int .i64 t246)) (fun _ hk => hk.2) (.int .i64 t247)) (fun _ hk => hk.2) (.bool t248)) (fun _ h_ => h_.1))) hb); have n1_ := Aside0.mk (blk_below (g := gb230) (o := .cells #[.int .i64 a0_0, .int .i64 a0_1, .bool a0_2] 25 (0, 0)) (by (with_reducible repeat (first | refine blk_drewN ?_ _ | refine blk_drew ?_ | refine blk_alloc ?_ _)); refine blk_far ?_ NB230_251.out _; (with_reducible repeat (first | refine blk_drewN ?_ _ | refine blk_drew ?_ | refine blk_alloc ?_ _)); refine blk_far ?_ NB230_251.out _; (with_reducible repeat (first | refine blk_drewN ?_ _ | refine blk_drew ?_ | refine blk_alloc ?_ _)); refine blk_far ?_ NB230_251.out _; (with_reducible repeat (first | refine blk_drewN ?_ _ | refine blk_drew ?_ | refine blk_alloc ?_ _)); exact BK230.out) hb); have n2_ := Aside0.mk (blk_below (g := gb245) (o := .cells #[.int .i64 t240, .int .i64 t241, .bool t242] 25 (0, 0)) (by (with_reducible repeat (first | refine blk_drewN ?_ _ | refine blk_drew ?_ | refine blk_alloc ?_ _)); refine blk_far ?_ NB245_251.out _; (with_reducible repeat (first | refine blk_drewN ?_ _ | refine blk_drew ?_ | refine blk_alloc ?_ _)); refine blk_far ?_ NB245_251.out _; (with_reducible repeat (first | refine blk_drewN ?_ _ | refine blk_drew ?_ | refine blk_alloc ?_ _)); refine blk_far ?_ NB245_251.out _; (with_reducible repeat (first | refine blk_drewN ?_ _ | refine blk_drew ?_ | refine blk_alloc ?_ _)); exact BK245.out) hb); have n3_ := Aside0.mk (blk_below (g := gb251) (o := .cells #[.int .i64 t246, .int .i64 t247, .bool t248] 25 (0, 0)) (by (with_reducible repeat (first | refine blk_drewN ?_ _ | refine blk_drew ?_ | refine blk_alloc ?_ _)); refine blk_put (cs := #[.int .i64 t246, .int .i64 t247, .bool false]) ?_ 2 _ rfl; (with_reducible repeat (first | refine blk_drewN ?_ _ | refine blk_drew ?_ | refine blk_alloc ?_ _)); refine blk_put (cs := #[.int .i64 t246, .int .i64 0, .bool false]) ?_ 1 _ rfl; (with_reducible repeat (first | refine blk_drewN ?_ _ | refine blk_drew ?_ | refine blk_alloc ?_ _)); refine blk_put (cs := #[.int .i64 0, .int .i64 0, .bool false]) ?_ 0 _ rfl; (with_reducible repeat (first | refine blk_drewN ?_ _ | refine blk_drew ?_ | refine blk_alloc ?_ _)); exact BK251.out) hb); have n4_ := Aside0.mk (below_step (by repeat (first | (with_reducible first | exact HB.out | apply below_alloc | apply pw_below_drewN | apply below_drew1 | refine below_set ?_ GE230.out | refine below_set ?_ GE245.out | refine below_set ?_ GE251.out) | exact HB.out)) hb); clear HO238; clear BK230; clear BK245; clear BK251; clear HB; have HO238 := n0_; have BK230 := n1_; have BK245 := n2_; have BK251 := n3_; have HB := n4_; clear n0_ n1_ n2_ n3_ n4_; (try clear hb); (try clear hb2); (try clear hk); (try clear hi)) | ((with_reducible refine gate_dst (N := 16) rfl ?_); (try (refine gate_guard (by rfl) ?_; dsimp only)); refine box_event ?hg (N := 16) ?hd (cs := #[.int .i64 0, .int .i64 0, .bool false]) (t := 25) ?hr ?_; (case hd => rfl); (case hg => rfl); (case hr => first | (go_simp; done) | (go_simp; rfl)); intro gb257 hg w60 hbox hb; have n0_ := Aside0.mk (Kd.R_below (by (with_reducible repeat (first | apply Kd.R_alloc | apply Kd.R_drewN | apply Kd.R_drew)); exact HO238.out) hb); have n1_ := Aside0.mk (blk_below (g := gb230) (o := .cells #[.int .i64 a0_0, .int .i64 a0_1, .bool a0_2] 25 (0, 0)) (by (with_reducible repeat (first | refine blk_drewN ?_ _ | refine blk_drew ?_ | refine blk_alloc ?_ _)); exact BK230.out) hb); have n2_ := Aside0.mk (blk_below (g := gb245) (o := .cells #[.int .i64 t240, .int .i64 t241, .bool t242] 25 (0, 0)) (by (with_reducible repeat (first | refine blk_drewN ?_ _ | refine blk_drew ?_ | refine blk_alloc ?_ _)); exact BK245.out) hb); have n3_ := Aside0.mk (blk_below (g := gb251) (o := .cells #[.int .i64 t246, .int .i64 t247, .bool t248] 25 (0, 0)) (by (with_reducible repeat (first | refine blk_drewN ?_ _ | refine blk_drew ?_ | refine blk_alloc ?_ _)); exact BK251.out) hb); have n4_ := Aside0.mk (below_step (by repeat (first | (with_reducible first | exact HB.out | apply below_alloc | apply pw_below_drewN | apply below_drew1 | refine below_set ?_ GE230.out | refine below_set ?_ GE245.out | refine below_set ?_ GE251.out) | exact HB.out)) hb); have n5_ := Aside0.mk (hbox); have n6_ := Aside0.mk ((by rw [hg]; exact (below_size (by repeat (first | (with_reducible first | exact HB.out | apply below_alloc | apply pw_below_drewN | apply below_drew1 | refine below_set ?_ GE230.out | refine below_set ?_ GE245.out | refine below_set ?_ GE251.out) | exact HB.out))) : w.heap.size ≤ gb257)); have n7_ := Aside0.mk ((by rw [hg]; exact (below_size (by repeat (first | (with_reducible first | exact HB.out | apply below_alloc | apply pw_below_drewN | apply below_drew1 | refine below_set ?_ GE230.out | refine below_set ?_ GE245.out | refine below_set ?_ GE251.out) | exact HB.out))) : w.heap.size ≤ gb257)); have n8_ := Aside0.mk ((by rw [hg]; exact Nat.ne_of_lt (blk_lt (g := gb230) (o := .cells #[.int .i64 a0_0, .int .i64 a0_1, .bool a0_2] 25 (0, 0)) (by (with_reducible repeat (first | refine blk_drewN ?_ _ | refine blk_drew ?_ | refine blk_alloc ?_ _)); exact BK230.out)) : gb230 ≠ gb257)); have n9_ := Aside0.mk ((by rw [hg]; exact Nat.ne_of_gt (blk_lt (g := gb230) (o := .cells #[.int .i64 a0_0, .int .i64 a0_1, .bool a0_2] 25 (0, 0)) (by (with_reducible repeat (first | refine blk_drewN ?_ _ | refine blk_drew ?_ | refine blk_alloc ?_ _)); exact BK230.out)) : gb257 ≠ gb230)); have n10_ := Aside0.mk ((by rw [hg]; exact Nat.ne_of_lt (blk_lt (g := gb245) (o := .cells #[.int .i64 t240, .int .i64 t241, .bool t242] 25 (0, 0)) (by (with_reducible repeat (first | refine blk_drewN ?_ _ | refine blk_drew ?_ | refine blk_alloc ?_ _)); exact BK245.out)) : gb245 ≠ gb257)); have n11_ := Aside0.mk ((by rw [hg]; exact Nat.ne_of_gt (blk_lt (g := gb245) (o := .cells #[.int .i64 t240, .int .i64 t241, .bool t242] 25 (0, 0)) (by (with_reducible repeat (first | refine blk_drewN ?_ _ | refine blk_drew ?_ | refine blk_alloc ?_ _)); exact BK245.out)) : gb257 ≠ gb245)); have n12_ := Aside0.mk ((by rw [hg]; exact Nat.ne_of_lt (blk_lt (g := gb251) (o := .cells #[.int .i64 t246, .int .i64 t247, .bool t248] 25 (0, 0)) (by (with_reducible repeat (first | refine blk_drewN ?_ _ | refine blk_drew ?_ | refine blk_alloc ?_ _)); exact BK251.out)) : gb251 ≠ gb257)); have n13_ := Aside0.mk ((by rw [hg]; exact Nat.ne_of_gt (blk_lt (g := gb251) (o := .cells #[.int .i64 t246, .int .i64 t247, .bool t248] 25 (0, 0)) (by (with_reducible repeat (first | refine blk_drewN ?_ _ | refine blk_drew ?_ | refine blk_alloc ?_ _)); exact BK251.out)) : gb257 ≠ gb251)); clear HO238; clear BK230; clear BK245; clear BK251; clear HB; have HO238 := n0_; have BK230 := n1_; have BK245 := n2_; have BK251 := n3_; have HB := n4_; have BK257 := n5_; have GW257 := n6_; have GE257 := n7_; have NB230_257 := n8_; have NB257_230 := n9_; have NB245_257 := n10_; have NB257_245 := n11_; have NB251_257 := n12_; have NB257_251 := n13_; clear n0_ n1_ n2_ n3_ n4_ n5_ n6_ n7_ n8_ n9_ n10_ n11_ n12_ n13_; clear hb hbox hg; have hnb61 := NB257_230.out; have hnc61 := NB230_257.out; have hnb62 := NB257_245.out; have hnc62 := NB245_257.out; have hnb63 := NB257_251.out; have hnc63 := NB251_257.out; have hcz64_0 : w60.cell? ⟨gb257, 0, none⟩ = some (.int .i64 0) := (blk_cell BK257.out 0).trans rfl; have hcz64_1 : w60.cell? ⟨gb257, 1, none⟩ = some (.int .i64 0) := (blk_cell BK257.out 1).trans rfl; have hcz64_2 : w60.cell? ⟨gb257, 2, none⟩ = some (.bool false) := (blk_cell BK257.out 2).trans rfl; have hfz64_0 := blk_frozen BK257.out 0; have hfz64_1 := blk_frozen BK257.out 1; have hfz64_2 := blk_frozen BK257.out 2; have hcz65_0 : w60.cell? ⟨gb245, 0, none⟩ = some (.int .i64 t240) := (blk_cell BK245.out 0).trans rfl; have hcz65_1 : w60.cell? ⟨gb245, 1, none⟩ = some (.int .i64 t241) := (blk_cell BK245.out 1).trans rfl; have hcz65_2 : w60.cell? ⟨gb245, 2, none⟩ = some (.bool t242) := (blk_cell BK245.out 2).trans rfl; have hfz65_0 := blk_frozen BK245.out 0; have hfz65_1 := blk_frozen BK245.out 1; have hfz65_2 := blk_frozen BK245.out 2; have hcz66_0 : w60.cell? ⟨gb230, 0, none⟩ = some (.int .i64 a0_0) := (blk_cell BK230.out 0).trans rfl; have hcz66_1 : w60.cell? ⟨gb230, 1, none⟩ = some (.int .i64 a0_1) := (blk_cell BK230.out 1).trans rfl; have hcz66_2 : w60.cell? ⟨gb230, 2, none⟩ = some (.bool a0_2) := (blk_cell BK230.out 2).trans rfl; have hfz66_0 := blk_frozen BK230.out 0; have hfz66_1 := blk_frozen BK230.out 1; have hfz66_2 := blk_frozen BK230.out 2) | (go_at_call 9; (with_reducible refine (parquetlaw06_known.calls  t258 _ A44.out).mono ?_); rintro e w67 ⟨rfl, hb⟩; have n0_ := Aside0.mk (Kd.R_below (by (with_reducible repeat (first | apply Kd.R_alloc | apply Kd.R_drewN | apply Kd.R_drew)); exact (Kd.R_mono (Kd.R_far (p := ⟨gb257, 2, none⟩) (Kd.R_far (p := ⟨gb257, 1, none⟩) (Kd.R_far (p := ⟨gb257, 0, none⟩) (Kd.R_types HO238.out BK257.out (by decide)) (fun _ hk => hk.2) (.int .i64 t252)) (fun _ hk => hk.2) (.int .i64 t253)) (fun _ hk => hk.2) (.bool t254)) (fun _ h_ => h_.1))) hb); have n1_ := Aside0.mk (blk_below (g := gb230) (o := .cells #[.int .i64 a0_0, .int .i64 a0_1, .bool a0_2] 25 (0, 0)) (by (with_reducible repeat (first | refine blk_drewN ?_ _ | refine blk_drew ?_ | refine blk_alloc ?_ _)); refine blk_far ?_ NB230_257.out _; (with_reducible repeat (first | refine blk_drewN ?_ _ | refine blk_drew ?_ | refine blk_alloc ?_ _)); refine blk_far ?_ NB230_257.out _; (with_reducible repeat (first | refine blk_drewN ?_ _ | refine blk_drew ?_ | refine blk_alloc ?_ _)); refine blk_far ?_ NB230_257.out _; (with_reducible repeat (first | refine blk_drewN ?_ _ | refine blk_drew ?_ | refine blk_alloc ?_ _)); exact BK230.out) hb); have n2_ := Aside0.mk (blk_below (g := gb245) (o := .cells #[.int .i64 t240, .int .i64 t241, .bool t242] 25 (0, 0)) (by (with_reducible repeat (first | refine blk_drewN ?_ _ | refine blk_drew ?_ | refine blk_alloc ?_ _)); refine blk_far ?_ NB245_257.out _; (with_reducible repeat (first | refine blk_drewN ?_ _ | refine blk_drew ?_ | refine blk_alloc ?_ _)); refine blk_far ?_ NB245_257.out _; (with_reducible repeat (first | refine blk_drewN ?_ _ | refine blk_drew ?_ | refine blk_alloc ?_ _)); refine blk_far ?_ NB245_257.out _; (with_reducible repeat (first | refine blk_drewN ?_ _ | refine blk_drew ?_ | refine blk_alloc ?_ _)); exact BK245.out) hb); have n3_ := Aside0.mk (blk_below (g := gb251) (o := .cells #[.int .i64 t246, .int .i64 t247, .bool t248] 25 (0, 0)) (by (with_reducible repeat (first | refine blk_drewN ?_ _ | refine blk_drew ?_ | refine blk_alloc ?_ _)); refine blk_far ?_ NB251_257.out _; (with_reducible repeat (first | refine blk_drewN ?_ _ | refine blk_drew ?_ | refine blk_alloc ?_ _)); refine blk_far ?_ NB251_257.out _; (with_reducible repeat (first | refine blk_drewN ?_ _ | refine blk_drew ?_ | refine blk_alloc ?_ _)); refine blk_far ?_ NB251_257.out _; (with_reducible repeat (first | refine blk_drewN ?_ _ | refine blk_drew ?_ | refine blk_alloc ?_ _)); exact BK251.out) hb); have n4_ := Aside0.mk (blk_below (g := gb257) (o := .cells #[.int .i64 t252, .int .i64 t253, .bool t254] 25 (0, 0)) (by (with_reducible repeat (first | refine blk_drewN ?_ _ | refine blk_drew ?_ | refine blk_alloc ?_ _)); refine blk_put (cs := #[.int .i64 t252, .int .i64 t253, .bool false]) ?_ 2 _ rfl; (with_reducible repeat (first | refine blk_drewN ?_ _ | refine blk_drew ?_ | refine blk_alloc ?_ _)); refine blk_put (cs := #[.int .i64 t252, .int .i64 0, .bool false]) ?_ 1 _ rfl; (with_reducible repeat (first | refine blk_drewN ?_ _ | refine blk_drew ?_ | refine blk_alloc ?_ _)); refine blk_put (cs := #[.int .i64 0, .int .i64 0, .bool false]) ?_ 0 _ rfl; (with_reducible repeat (first | refine blk_drewN ?_ _ | refine blk_drew ?_ | refine blk_alloc ?_ _)); exact BK257.out) hb); have n5_ := Aside0.mk (below_step (by repeat (first | (with_reducible first | exact HB.out | apply below_alloc | apply pw_below_drewN | apply below_drew1 | refine below_set ?_ GE230.out | refine below_set ?_ GE245.out | refine below_set ?_ GE251.out | refine below_set ?_ GE257.out) | exact HB.out)) hb); clear HO238; clear BK230; clear BK245; clear BK251; clear BK257; clear HB; have HO238 := n0_; have BK230 := n1_; have BK245 := n2_; have BK251 := n3_; have BK257 := n4_; have HB := n5_; clear n0_ n1_ n2_ n3_ n4_ n5_; (try clear hb); (try clear hb2); (try clear hk); (try clear hi)))
                                              go_ret
                                              exact ⟨by first | rfl | (simp [errW_none, errW_some] <;> rfl) | (simp only [← hji21, ← hji26]; first | rfl | (simp [errW_none, errW_some] <;> rfl)) | (simp [*, errW_none, errW_some] <;> rfl), by repeat (first | (with_reducible first | exact HB.out | apply below_alloc | apply pw_below_drewN | apply below_drew1 | refine below_set ?_ GE230.out | refine below_set ?_ GE245.out | refine below_set ?_ GE251.out | refine below_set ?_ GE257.out) | exact HB.out)⟩
                                            · rw [if_neg c43] at H
                                              have c43b0 : (t256 == 11) = false := beq_eq_false_iff_ne.mpr c43
                                              have c43b1 : (t256 != 11) = true := bne_iff_ne.mpr c43
                                              exact absurd ((Option.some.inj H).trans hr_) (by decide)
                                          · rw [if_neg c42] at H
                                            have c42b0 : (t255 == (wrap64 (((((rdOf ByteArray.empty y236 (ji26)) ++ (⟨#[32, 114, 101, 102, 105, 110, 101, 32]⟩ : ByteArray)) ++ ((⟨#[98, 117, 100, 103, 101, 116, 32]⟩ : ByteArray) ++ (t231.extract ((ji21) : Int).toNat ((wrap64 ((t231.size : Int) - 8)) : Int).toNat))).size : Int) + 1))) = false := beq_eq_false_iff_ne.mpr c42
                                            try (have c42b0n := c42b0; simp only [ByteArray.size_append, hxe, show (⟨#[32, 114, 101, 102, 105, 110, 101, 32]⟩ : ByteArray).size = 8 from rfl, show (⟨#[98, 117, 100, 103, 101, 116, 32]⟩ : ByteArray).size = 7 from rfl, Int.natCast_add, Int.cast_ofNat_Int] at c42b0n)
                                            have c42b1 : (t255 != (wrap64 (((((rdOf ByteArray.empty y236 (ji26)) ++ (⟨#[32, 114, 101, 102, 105, 110, 101, 32]⟩ : ByteArray)) ++ ((⟨#[98, 117, 100, 103, 101, 116, 32]⟩ : ByteArray) ++ (t231.extract ((ji21) : Int).toNat ((wrap64 ((t231.size : Int) - 8)) : Int).toNat))).size : Int) + 1))) = true := bne_iff_ne.mpr c42
                                            try (have c42b1n := c42b1; simp only [ByteArray.size_append, hxe, show (⟨#[32, 114, 101, 102, 105, 110, 101, 32]⟩ : ByteArray).size = 8 from rfl, show (⟨#[98, 117, 100, 103, 101, 116, 32]⟩ : ByteArray).size = 7 from rfl, Int.natCast_add, Int.cast_ofNat_Int] at c42b1n)
                                            exact absurd ((Option.some.inj H).trans hr_) (by decide)
                                        · rw [if_neg c41] at H
                                          have c41b0 : (t250 == 11) = false := beq_eq_false_iff_ne.mpr c41
                                          have c41b1 : (t250 != 11) = true := bne_iff_ne.mpr c41
                                          exact absurd ((Option.some.inj H).trans hr_) (by decide)
                                      · rw [if_neg c40] at H
                                        have c40b0 : (t249 == (wrap64 (((((rdOf ByteArray.empty y236 (ji26)) ++ (⟨#[32, 114, 101, 102, 105, 110, 101, 32]⟩ : ByteArray)) ++ ((⟨#[98, 117, 100, 103, 101, 116, 32]⟩ : ByteArray) ++ (t231.extract ((ji21) : Int).toNat ((wrap64 ((t231.size : Int) - 8)) : Int).toNat))).size : Int) + 1))) = false := beq_eq_false_iff_ne.mpr c40
                                        try (have c40b0n := c40b0; simp only [ByteArray.size_append, hxe, show (⟨#[32, 114, 101, 102, 105, 110, 101, 32]⟩ : ByteArray).size = 8 from rfl, show (⟨#[98, 117, 100, 103, 101, 116, 32]⟩ : ByteArray).size = 7 from rfl, Int.natCast_add, Int.cast_ofNat_Int] at c40b0n)
                                        have c40b1 : (t249 != (wrap64 (((((rdOf ByteArray.empty y236 (ji26)) ++ (⟨#[32, 114, 101, 102, 105, 110, 101, 32]⟩ : ByteArray)) ++ ((⟨#[98, 117, 100, 103, 101, 116, 32]⟩ : ByteArray) ++ (t231.extract ((ji21) : Int).toNat ((wrap64 ((t231.size : Int) - 8)) : Int).toNat))).size : Int) + 1))) = true := bne_iff_ne.mpr c40
                                        try (have c40b1n := c40b1; simp only [ByteArray.size_append, hxe, show (⟨#[32, 114, 101, 102, 105, 110, 101, 32]⟩ : ByteArray).size = 8 from rfl, show (⟨#[98, 117, 100, 103, 101, 116, 32]⟩ : ByteArray).size = 7 from rfl, Int.natCast_add, Int.cast_ofNat_Int] at c40b1n)
                                        exact absurd ((Option.some.inj H).trans hr_) (by decide)
                                    · rw [if_neg c39] at H
                                      have c39b0 : (t244 == 0) = false := beq_eq_false_iff_ne.mpr c39
                                      have c39b1 : (t244 != 0) = true := bne_iff_ne.mpr c39
                                      exact absurd ((Option.some.inj H).trans hr_) (by decide)
                                  · rw [if_neg c38] at H
                                    have c38b0 : (t243 == 0) = false := beq_eq_false_iff_ne.mpr c38
                                    have c38b1 : (t243 != 0) = true := bne_iff_ne.mpr c38
                                    exact absurd ((Option.some.inj H).trans hr_) (by decide)
                                · rw [if_neg c37] at H
                                  have c37b0 : (t240 == a0_0 && (t241 == a0_1 && (t242 == a0_2))) = false := by simpa using c37
                                  (try (have c37b1 : decide (t240 = a0_0 && (t241 == a0_1 && (t242 == a0_2))) = false := by simpa using c37))
                                  (try (have c37b2 : (t240 == a0_0 && (t241 == a0_1 && (t242 == a0_2))) = false := by simpa using c37))
                                  (try (have c37b3 : ¬ (t240 = a0_0 && (t241 == a0_1 && (t242 == a0_2))) := by simpa using c37))
                                  clear c37
                                  exact absurd ((Option.some.inj H).trans hr_) (by decide)
                              · rw [if_neg c35] at H
                                exact absurd H (by simp)
                            · rw [if_neg c34] at H
                              exact absurd H (by simp)
                          · rw [if_neg c32] at H
                            exact absurd H (by simp)
                        · rw [if_neg c30] at H
                          exact absurd H (by simp)
                      · rw [if_neg c29] at H
                        exact absurd H (by simp)
                    · rw [if_neg c28] at H
                      exact absurd H (by simp)
                  · rw [if_neg c27] at H
                    exact absurd H (by simp)
                · rw [if_neg c25] at H
                  exact absurd H (by simp)
              · rw [if_neg c24] at H
                exact absurd H (by simp)
            · rw [if_neg c23] at H
              exact absurd H (by simp)
          · rw [if_neg c22] at H
            exact absurd H (by simp)

end Go.Proofs.Ytbiafpklgkkoaaa.MU

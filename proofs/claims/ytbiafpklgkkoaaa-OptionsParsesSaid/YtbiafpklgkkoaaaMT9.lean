/- The functions of the given program told as Lean functions, each with its contract proved; no condition. -/
import Derived.Test.YtbiafpklgkkoaaaMT0
import Derived.Test.YtbiafpklgkkoaaaMT1
import Derived.Test.YtbiafpklgkkoaaaMT2
import Derived.Test.YtbiafpklgkkoaaaMT8
namespace Go.Proofs.Ytbiafpklgkkoaaa.MT
open Go.RowKit Go.Proofs.YtbiafpklgkkoaaaW.PrintWords Go.Proofs.YtbiafpklgkkoaaaW.PrintLast Go.Proofs.YtbiafpklgkkoaaaW.PrintMore
attribute [local go_sem] max2_int min2_int max_two min_two max_three min_three max_four min_four   -- for this text's walks alone
set_option linter.unusedVariables false
set_option linter.unusedSimpArgs false

attribute [local go_sem high] eqA25
/-! ### parquetlaw06_OptionsParses: function 3 -/
def parquetlaw06_OptionsParses.f (k : Nat) (l0 : List Int) : Option (Bool) := if (l0.length : Int) > 2000 then ((parquetlaw06_known.f).bind fun t242 => (some t242)) else ((options_Parse.f l0).bind fun bt243 => ((parquetref06_Parse.f k l0).bind fun bt249 => (if (bt243.1 == bt249.1 && (bt243.2.1 == bt249.2.1 && (bt243.2.2.1 == bt249.2.2.1))) = true then (if bt243.2.2.2.1 = bt249.2.2.2.1 then (if bt243.2.2.2.2 = bt249.2.2.2.2 then ((parquetlaw06_known.f).bind fun t255 => (some t255)) else (some false)) else (some false)) else (some false))))
theorem parquetlaw06_OptionsParses.mono : ∀ a0 k, LeO (parquetlaw06_OptionsParses.f k a0) (parquetlaw06_OptionsParses.f (k + 1) a0) := by
 intro a0 k
 unfold parquetlaw06_OptionsParses.f
 repeat' first
   | (with_reducible exact parquetref06_Parse.mono _ _)
   | (with_reducible exact LeO.refl _)
   | (with_reducible exact LeO.none _)
   | (with_reducible refine LeO.ite ?_ ?_)
   | (with_reducible refine LeO.bind ?_ (fun _ => ?_))
   | exact parquetref06_Parse.mono _ _
   | exact LeO.none _
   | refine LeO.ite ?_ ?_
   | refine LeO.bind ?_ (fun _ => ?_)
set_option maxHeartbeats 8000000 in
set_option maxRecDepth 100000 in
theorem parquetlaw06_OptionsParses.calls (k : Nat) (A0 : Option Addr) (c0 : Nat) (l0 : List Int) (r : Bool) (w : World) (hr0 : Kd.C (Kd.int .u8) w A0 l0.length l0) (hc0 : l0.length ≤ c0) (h : parquetlaw06_OptionsParses.f k l0 = some r) (hr_ : r = true) :
  Calls Try.prog 3 #[.slice A0 l0.length c0] w fun e w' => e = .returned (.bool r) ∧ Below w.heap.size w w' := by
 have hu25 := Try.underlying25
 have HR0 := Aside0.mk hr0
 have HC0 := Aside0.mk hc0
 clear hr0 hc0
 have HB := Aside0.mk (Below.refl w.heap.size w)
 have H : (if (l0.length : Int) > 2000 then ((parquetlaw06_known.f).bind fun t242 => (some t242)) else ((options_Parse.f l0).bind fun bt243 => ((parquetref06_Parse.f k l0).bind fun bt249 => (if (bt243.1 == bt249.1 && (bt243.2.1 == bt249.2.1 && (bt243.2.2.1 == bt249.2.2.1))) = true then (if bt243.2.2.2.1 = bt249.2.2.2.1 then (if bt243.2.2.2.2 = bt249.2.2.2.2 then ((parquetlaw06_known.f).bind fun t255 => (some t255)) else (some false)) else (some false)) else (some false))))) = some r := h
 clear h
 by_cases c2 : (l0.length : Int) > 2000
 ·rw [if_pos c2] at H
  have c2b0 : decide (2000 < (l0.length : Int)) = true := decide_eq_true c2
  have c2b1 : decide (2000 < l0.length) = true := decide_eq_true (by omega)
  clear c2
  replace H := Option.bind_eq_some_iff.mp H
  obtain ⟨t242, A30, H⟩ := H
  replace H : (some t242) = some r := H
  have A3 := Aside0.mk A30
  clear A30
  obtain rfl := Option.some.inj H
  go_enter Try.func3, Try.ntmps3
  go_wp2_with (first | ((with_reducible refine gate_callee (f := 9) rfl ?_); refine goesL_ (some 12) rfl rfl Try.func9 (by kernel_rfl) rfl #[] rfl (by (try simp only [List.map_toArray, List.map_cons, List.map_nil]); first | done | rfl | (simp only [List.length_drop, List.length_take]; rfl)) ?_; (with_reducible refine (parquetlaw06_known.calls  t242 _ A3.out).mono ?_); rintro e w4 ⟨rfl, hb⟩; refine ⟨_, rfl, ?_⟩; have n0_ := Aside0.mk (below_step (by repeat (first | (with_reducible first | exact HB.out | apply qa | apply qn | apply qd) | exact HB.out)) hb); clear HB; have HB := n0_; clear n0_; (try clear hb); (try clear hb2); (try clear hk); (try clear hi)))
  go_ret
  exact ⟨by first | rfl | (simp [errW_none, errW_some] <;> rfl) | (simp [*, errW_none, errW_some] <;> rfl), by repeat (first | (with_reducible first | exact HB.out | apply qa | apply qn | apply qd) | exact HB.out)⟩
 ·rw [if_neg c2] at H
  have c2b0 : decide (2000 < (l0.length : Int)) = false := decide_eq_false c2
  have c2b1 : decide (2000 < l0.length) = false := decide_eq_false (by omega)
  clear c2
  replace H := Option.bind_eq_some_iff.mp H
  obtain ⟨⟨t243, t244, t245, t246, t247⟩, A50, H⟩ := H
  try dsimp only at H
  have A5 := Aside0.mk A50
  clear A50
  replace H := Option.bind_eq_some_iff.mp H
  obtain ⟨⟨t249, t250, t251, t252, t253⟩, A60, H⟩ := H
  replace H : (if (t243 == t249 && (t244 == t250 && (t245 == t251))) = true then (if t246 = t252 then (if t247 = t253 then ((parquetlaw06_known.f).bind fun t255 => (some t255)) else (some false)) else (some false)) else (some false)) = some r := H
  have A6 := Aside0.mk A60
  clear A60
  by_cases c7 : (t243 == t249 && (t244 == t250 && (t245 == t251))) = true
  ·rw [if_pos c7] at H
   have c7b0 : (t243 == t249 && (t244 == t250 && (t245 == t251))) = true := c7
   (try (have c7b1 : decide (t243 = t249 && (t244 == t250 && (t245 == t251))) = true := by simpa using c7))
   (try (have c7b2 : (t243 == t249 && (t244 == t250 && (t245 == t251))) = true := by simpa using c7))
   clear c7
   by_cases c8 : t246 = t252
   ·rw [if_pos c8] at H
    have c8b0 : (t246 == t252) = true := beq_iff_eq.mpr c8
    have c8b1 : (t246 != t252) = false := bne_eq_false_iff_eq.mpr c8
    clear c8
    by_cases c9 : t247 = t253
    ·rw [if_pos c9] at H
     have c9b0 : (t247 == t253) = true := beq_iff_eq.mpr c9
     have c9b1 : (t247 != t253) = false := bne_eq_false_iff_eq.mpr c9
     clear c9
     replace H := Option.bind_eq_some_iff.mp H
     obtain ⟨t255, A100, H⟩ := H
     replace H : (some t255) = some r := H
     have A10 := Aside0.mk A100
     clear A100
     obtain rfl := Option.some.inj H
     go_enter Try.func3, Try.ntmps3
     go_wp2_with (first | ((with_reducible refine gate_callee (f := 10) rfl ?_); refine goesL_ (some 15) rfl rfl Try.func10 (by kernel_rfl) rfl #[.slice A0 l0.length c0] rfl (by (try simp only [List.map_toArray, List.map_cons, List.map_nil]); first | done | rfl | (simp only [List.length_drop, List.length_take]; rfl)) ?_; (with_reducible refine (options_Parse.calls _ _ l0 t243 t244 t245 t246 t247 _ ?side1 ?side2 A5.out).mono ?_); (case side1 => repeat (first | exact HR0.out | (with_reducible refine Kd.C_alloc ?_ _) | (with_reducible refine Kd.C_drewN ?_ _) | (with_reducible refine Kd.C_drew ?_))); (case side2 => exact HC0.out); rintro e w11 ⟨rfl, hb⟩; refine ⟨_, rfl, ?_⟩; have n0_ := Aside0.mk (below_step (by repeat (first | (with_reducible first | exact HB.out | apply qa | apply qn | apply qd) | exact HB.out)) hb); clear HB; have HB := n0_; clear n0_; (try clear hb); (try clear hb2); (try clear hk); (try clear hi)) | ((with_reducible refine gate_dst (N := 3) rfl ?_); refine box_event ?hg (N := 3) ?hd (cs := #[.int .i64 0, .int .i64 0, .bool false]) (t := 25) ?hr ?_; (case hd => rfl); (case hg => rfl); (case hr => first | (go_simp; done) | (go_simp; rfl)); intro gb248 hg w12 hbox hb; have n0_ := Aside0.mk (below_step (by repeat (first | (with_reducible first | exact HB.out | apply qa | apply qn | apply qd) | exact HB.out)) hb); have n1_ := Aside0.mk (hbox); have n2_ := bgw HB hg; have n3_ := bgw HB hg; clear HB; have HB := n0_; have BK248 := n1_; have GW248 := n2_; have GE248 := n3_; clear n0_ n1_ n2_ n3_; clear hb hbox hg; have hcz13_0 : w12.cell? ⟨gb248, 0, none⟩ = some (.int .i64 0) := (blk_cell BK248.out 0).trans rfl; have hcz13_1 : w12.cell? ⟨gb248, 1, none⟩ = some (.int .i64 0) := (blk_cell BK248.out 1).trans rfl; have hcz13_2 : w12.cell? ⟨gb248, 2, none⟩ = some (.bool false) := (blk_cell BK248.out 2).trans rfl; have hfz13_0 := blk_frozen BK248.out 0; have hfz13_1 := blk_frozen BK248.out 1; have hfz13_2 := blk_frozen BK248.out 2) | ((with_reducible refine gate_callee (f := 11) rfl ?_); refine goesL_ (some 21) rfl rfl Try.func11 (by kernel_rfl) rfl #[.slice A0 l0.length c0] rfl (by (try simp only [List.map_toArray, List.map_cons, List.map_nil]); first | done | rfl | (simp only [List.length_drop, List.length_take]; rfl)) ?_; (with_reducible refine (parquetref06_Parse.calls k _ _ l0 t249 t250 t251 t252 t253 _ ?side1 ?side2 A6.out).mono ?_); (case side1 => exact Kd.C_below HR0.out (by repeat (first | (with_reducible first | exact HB.out | apply qa | apply qn | apply qd | refine qs ?_ GE248.out) | exact HB.out))); (case side2 => exact HC0.out); rintro e w14 ⟨rfl, hb⟩; refine ⟨_, rfl, ?_⟩; have n0_ := Aside0.mk (blk_below (g := gb248) (o := .cells #[.int .i64 t243, .int .i64 t244, .bool t245] 25 (0, 0)) (by (with_reducible repeat (first | refine cn ?_ _ | refine cd ?_ | refine ca ?_ _)); refine blk_put (cs := #[.int .i64 t243, .int .i64 t244, .bool false]) ?_ 2 _ rfl; (with_reducible repeat (first | refine cn ?_ _ | refine cd ?_ | refine ca ?_ _)); refine blk_put (cs := #[.int .i64 t243, .int .i64 0, .bool false]) ?_ 1 _ rfl; (with_reducible repeat (first | refine cn ?_ _ | refine cd ?_ | refine ca ?_ _)); refine blk_put (cs := #[.int .i64 0, .int .i64 0, .bool false]) ?_ 0 _ rfl; (with_reducible repeat (first | refine cn ?_ _ | refine cd ?_ | refine ca ?_ _)); exact BK248.out) hb); have n1_ := Aside0.mk (below_step (by repeat (first | (with_reducible first | exact HB.out | apply qa | apply qn | apply qd | refine qs ?_ GE248.out) | exact HB.out)) hb); clear BK248; clear HB; have BK248 := n0_; have HB := n1_; clear n0_ n1_; (try clear hb); (try clear hb2); (try clear hk); (try clear hi)) | ((with_reducible refine gate_dst (N := 6) rfl ?_); refine box_event ?hg (N := 6) ?hd (cs := #[.int .i64 0, .int .i64 0, .bool false]) (t := 25) ?hr ?_; (case hd => rfl); (case hg => rfl); (case hr => first | (go_simp; done) | (go_simp; rfl)); intro gb254 hg w15 hbox hb; have n0_ := bb BK248 hb; have n1_ := Aside0.mk (below_step (by repeat (first | (with_reducible first | exact HB.out | apply qa | apply qn | apply qd | refine qs ?_ GE248.out) | exact HB.out)) hb); have n2_ := Aside0.mk (hbox); have n3_ := bgw HB hg; have n4_ := bgw HB hg; have n5_ := bnl BK248 hg; have n6_ := bng BK248 hg; clear BK248; clear HB; have BK248 := n0_; have HB := n1_; have BK254 := n2_; have GW254 := n3_; have GE254 := n4_; have NB248_254 := n5_; have NB254_248 := n6_; clear n0_ n1_ n2_ n3_ n4_ n5_ n6_; clear hb hbox hg; have hnb16 := NB254_248.out; have hnc16 := NB248_254.out; have hcz17_0 : w15.cell? ⟨gb254, 0, none⟩ = some (.int .i64 0) := (blk_cell BK254.out 0).trans rfl; have hcz17_1 : w15.cell? ⟨gb254, 1, none⟩ = some (.int .i64 0) := (blk_cell BK254.out 1).trans rfl; have hcz17_2 : w15.cell? ⟨gb254, 2, none⟩ = some (.bool false) := (blk_cell BK254.out 2).trans rfl; have hfz17_0 := blk_frozen BK254.out 0; have hfz17_1 := blk_frozen BK254.out 1; have hfz17_2 := blk_frozen BK254.out 2; have hcz18_0 : w15.cell? ⟨gb248, 0, none⟩ = some (.int .i64 t243) := (blk_cell BK248.out 0).trans rfl; have hcz18_1 : w15.cell? ⟨gb248, 1, none⟩ = some (.int .i64 t244) := (blk_cell BK248.out 1).trans rfl; have hcz18_2 : w15.cell? ⟨gb248, 2, none⟩ = some (.bool t245) := (blk_cell BK248.out 2).trans rfl; have hfz18_0 := blk_frozen BK248.out 0; have hfz18_1 := blk_frozen BK248.out 1; have hfz18_2 := blk_frozen BK248.out 2) | (go_at_call 9; (with_reducible refine (parquetlaw06_known.calls  t255 _ A10.out).mono ?_); rintro e w19 ⟨rfl, hb⟩; have n0_ := Aside0.mk (blk_below (g := gb248) (o := .cells #[.int .i64 t243, .int .i64 t244, .bool t245] 25 (0, 0)) (by repeat (with_reducible first | exact lb BK248.out | refine blk_far ?_ NB248_254.out _ | refine cn ?_ _ | refine cd ?_ | refine ca ?_ _)) hb); have n1_ := Aside0.mk (blk_below (g := gb254) (o := .cells #[.int .i64 t249, .int .i64 t250, .bool t251] 25 (0, 0)) (by (with_reducible repeat (first | refine cn ?_ _ | refine cd ?_ | refine ca ?_ _)); refine blk_put (cs := #[.int .i64 t249, .int .i64 t250, .bool false]) ?_ 2 _ rfl; (with_reducible repeat (first | refine cn ?_ _ | refine cd ?_ | refine ca ?_ _)); refine blk_put (cs := #[.int .i64 t249, .int .i64 0, .bool false]) ?_ 1 _ rfl; (with_reducible repeat (first | refine cn ?_ _ | refine cd ?_ | refine ca ?_ _)); refine blk_put (cs := #[.int .i64 0, .int .i64 0, .bool false]) ?_ 0 _ rfl; (with_reducible repeat (first | refine cn ?_ _ | refine cd ?_ | refine ca ?_ _)); exact BK254.out) hb); have n2_ := Aside0.mk (below_step (by repeat (first | (with_reducible first | exact HB.out | apply qa | apply qn | apply qd | refine qs ?_ GE248.out | refine qs ?_ GE254.out) | exact HB.out)) hb); clear BK248; clear BK254; clear HB; have BK248 := n0_; have BK254 := n1_; have HB := n2_; clear n0_ n1_ n2_; (try clear hb); (try clear hb2); (try clear hk); (try clear hi)))
     go_ret
     exact ⟨by first | rfl | (simp [errW_none, errW_some] <;> rfl) | (simp [*, errW_none, errW_some] <;> rfl), by repeat (first | (with_reducible first | exact HB.out | apply qa | apply qn | apply qd | refine qs ?_ GE248.out | refine qs ?_ GE254.out) | exact HB.out)⟩
    ·rw [if_neg c9] at H
     have c9b0 : (t247 == t253) = false := beq_eq_false_iff_ne.mpr c9
     have c9b1 : (t247 != t253) = true := bne_iff_ne.mpr c9
     exact absurd ((Option.some.inj H).trans hr_) (by decide)
   ·rw [if_neg c8] at H
    have c8b0 : (t246 == t252) = false := beq_eq_false_iff_ne.mpr c8
    have c8b1 : (t246 != t252) = true := bne_iff_ne.mpr c8
    exact absurd ((Option.some.inj H).trans hr_) (by decide)
  ·rw [if_neg c7] at H
   have c7b0 : (t243 == t249 && (t244 == t250 && (t245 == t251))) = false := by simpa using c7
   (try (have c7b1 : decide (t243 = t249 && (t244 == t250 && (t245 == t251))) = false := by simpa using c7))
   (try (have c7b2 : (t243 == t249 && (t244 == t250 && (t245 == t251))) = false := by simpa using c7))
   (try (have c7b3 : ¬ (t243 = t249 && (t244 == t250 && (t245 == t251))) := by simpa using c7))
   clear c7
   exact absurd ((Option.some.inj H).trans hr_) (by decide)

/-- THE ONE PURE STATEMENT of parquetlaw06_OptionsParses: yours. -/
def parquetlaw06_OptionsParses.Pure : Prop := ∀ (l0 : List Int), l0.length ≤ maxLen → l0.length * 1 ≤ 140737488351232 → (∀ x ∈ l0, (Lit.int .u8 x).wf = true) → ∃ k, parquetlaw06_OptionsParses.f k l0 = some true
theorem parquetlaw06_OptionsParses.walk (P : parquetlaw06_OptionsParses.Pure) (a0 : Option Addr) (len0 cap0 : Nat) (z0 : List Int) (w : World) (w0 : (a0 = none ∧ len0 = 0 ∧ cap0 = 0 ∧ z0 = []) ∨ ∃ x, a0 = some x ∧ len0 ≤ cap0 ∧ cap0 ≤ maxLen ∧ z0.length = cap0 ∧ (∀ i, i < z0.length → w.cell? (x.add i) = some (.int .u8 (z0.getD i 0))) ∧ ∀ n ∈ z0, (Lit.int .u8 n).wf = true) (y0 : len0 * 1 ≤ 140737488351232) :
  Calls Try.prog 3 #[.slice a0 len0 cap0] w fun e w' => e = .returned (.bool true) ∧ Below w.heap.size w w' := by
 obtain ⟨l0, rfl, hr0, hm0, hw0, hc0⟩ := ReadsInt.ofRowC w0
 obtain ⟨k, h⟩ := P l0 hm0 y0 hw0
 refine (parquetlaw06_OptionsParses.calls k _ _ l0 true w (Kd.C_of_reads (d := (0 : Int)) (h1 := fun _ => rfl) hr0) hc0 h rfl).mono ?_
 rintro e w' ⟨rfl, hd⟩
 exact ⟨rfl, hd⟩

end Go.Proofs.Ytbiafpklgkkoaaa.MT

/- A function of the given program told as a Lean function, its contract proved; no condition. -/
import Derived.Test.YtmpbbodafenonaaMT0
import Derived.Test.YtmpbbodafenonaaMT1
namespace Go.Proofs.Ytmpbbodafenonaa.MT
open Go.RowKit Go.Proofs.YtmpbbodafenonaaW.PrintWords Go.Proofs.YtmpbbodafenonaaW.PrintLast Go.Proofs.YtmpbbodafenonaaW.PrintMore
attribute [local go_sem] max2_int min2_int max_two min_two max_three min_three max_four min_four   -- for this text's walks alone
set_option linter.unusedVariables false
set_option linter.unusedSimpArgs false
/-! ### wide_Text: function 33 -/
mutual
def wide_Text.l0 : Nat → List Int → Bool → Int → Int → Int → Int → Int → Int → Int → Int → Option (ByteArray)
 | 0, _, _, _, _, _, _, _, _, _, _ => none
 | k + 1, x3, x217000, x217001, x217002, x217003, x217004, x219000, x219001, x219002, x219003 => (wide_none.f x219000 x219001 x219002 x219003).bind fun t219 => (if t219 = true then (if x217000 = true then (if x3.length < 140737488355328 then (wide_Text.j1 k (x3 ++ [45])) else (none)) else (wide_Text.j1 k x3)) else ((wide_divide.f x219000 x219001 x219002 x219003 10 0 0 0).bind fun bt220 => (if x3.length < 140737488355328 then (wide_Text.l0 k (x3 ++ [(IntKind.u64.wrap (48 + bt220.2.2.2.2.1)) % 256]) x217000 x217001 x217002 x217003 x217004 bt220.1 bt220.2.1 bt220.2.2.1 bt220.2.2.2.1) else (none))))
def wide_Text.j1 : Nat → List Int → Option (ByteArray)
 | 0, _ => none
 | k + 1, x3 => wide_Text.l1 k x3 0 (wrap64 ((x3.length : Int) - 1))
def wide_Text.l1 : Nat → List Int → Int → Int → Option (ByteArray)
 | 0, _, _, _ => none
 | k + 1, x3, x7, x8 => if x7 < x8 then (if 0 ≤ x8 then (if x8 < (x3.length : Int) then (if 0 ≤ x7 then (if x7 < (x3.length : Int) then (wide_Text.l1 k ((x3.set (x7 : Int).toNat (rd x3 x8)).set (x8 : Int).toNat (rd x3 x7)) (wrap64 (x7 + 1)) (wrap64 (x8 - 1))) else (none)) else (none)) else (none)) else (none)) else (some (strOfNums x3))
end
def wide_Text.f (k : Nat) (a0_0 : Bool) (a0_1 : Int) (a0_2 : Int) (a0_3 : Int) (a0_4 : Int) : Option (ByteArray) := (wide_none.f a0_1 a0_2 a0_3 a0_4).bind fun t217 => (if t217 = true then (some (⟨#[48]⟩ : ByteArray)) else (wide_Text.l0 k ([] : List Int) a0_0 a0_1 a0_2 a0_3 a0_4 a0_1 a0_2 a0_3 a0_4))
theorem wide_Text.mono_l : ∀ k, (∀ y0 y1 y2 y3 y4 y5 y6 y7 y8 y9, LeO (wide_Text.l0 k y0 y1 y2 y3 y4 y5 y6 y7 y8 y9) (wide_Text.l0 (k + 1) y0 y1 y2 y3 y4 y5 y6 y7 y8 y9)) ∧ (∀ y0, LeO (wide_Text.j1 k y0) (wide_Text.j1 (k + 1) y0)) ∧ (∀ y0 y1 y2, LeO (wide_Text.l1 k y0 y1 y2) (wide_Text.l1 (k + 1) y0 y1 y2))
 | 0 => ⟨fun _ _ _ _ _ _ _ _ _ _ r h => by simp [wide_Text.l0] at h, fun _ r h => by simp [wide_Text.j1] at h, fun _ _ _ r h => by simp [wide_Text.l1] at h⟩
 | k + 1 => by
  obtain ⟨ih0, ih1, ih2⟩ := wide_Text.mono_l k
  refine ⟨?_, ?_, ?_⟩
  ·intro y0 y1 y2 y3 y4 y5 y6 y7 y8 y9
   unfold wide_Text.l0
   repeat' first
   | (with_reducible exact ih0 _ _ _ _ _ _ _ _ _ _)
   | (with_reducible exact ih1 _)
   | (with_reducible exact ih2 _ _ _)
   | (with_reducible exact LeO.refl _)
   | (with_reducible exact LeO.none _)
   | (with_reducible refine LeO.ite ?_ ?_)
   | (with_reducible refine LeO.bind ?_ (fun _ => ?_))
   | exact ih0 _ _ _ _ _ _ _ _ _ _
   | exact ih1 _
   | exact ih2 _ _ _
   | exact LeO.none _
   | refine LeO.ite ?_ ?_
   | refine LeO.bind ?_ (fun _ => ?_)
  ·intro y0
   unfold wide_Text.j1
   repeat' first
   | (with_reducible exact ih0 _ _ _ _ _ _ _ _ _ _)
   | (with_reducible exact ih1 _)
   | (with_reducible exact ih2 _ _ _)
   | (with_reducible exact LeO.refl _)
   | (with_reducible exact LeO.none _)
   | (with_reducible refine LeO.ite ?_ ?_)
   | (with_reducible refine LeO.bind ?_ (fun _ => ?_))
   | exact ih0 _ _ _ _ _ _ _ _ _ _
   | exact ih1 _
   | exact ih2 _ _ _
   | exact LeO.none _
   | refine LeO.ite ?_ ?_
   | refine LeO.bind ?_ (fun _ => ?_)
  ·intro y0 y1 y2
   unfold wide_Text.l1
   repeat' first
   | (with_reducible exact ih0 _ _ _ _ _ _ _ _ _ _)
   | (with_reducible exact ih1 _)
   | (with_reducible exact ih2 _ _ _)
   | (with_reducible exact LeO.refl _)
   | (with_reducible exact LeO.none _)
   | (with_reducible refine LeO.ite ?_ ?_)
   | (with_reducible refine LeO.bind ?_ (fun _ => ?_))
   | exact ih0 _ _ _ _ _ _ _ _ _ _
   | exact ih1 _
   | exact ih2 _ _ _
   | exact LeO.none _
   | refine LeO.ite ?_ ?_
   | refine LeO.bind ?_ (fun _ => ?_)
theorem wide_Text.mono : ∀ a0 a1 a2 a3 a4 k, LeO (wide_Text.f k a0 a1 a2 a3 a4) (wide_Text.f (k + 1) a0 a1 a2 a3 a4) := by
 intro a0 a1 a2 a3 a4 k
 obtain ⟨ih0, ih1, ih2⟩ := wide_Text.mono_l k
 unfold wide_Text.f
 repeat' first
   | (with_reducible exact ih0 _ _ _ _ _ _ _ _ _ _)
   | (with_reducible exact ih1 _)
   | (with_reducible exact ih2 _ _ _)
   | (with_reducible exact LeO.refl _)
   | (with_reducible exact LeO.none _)
   | (with_reducible refine LeO.ite ?_ ?_)
   | (with_reducible refine LeO.bind ?_ (fun _ => ?_))
   | exact ih0 _ _ _ _ _ _ _ _ _ _
   | exact ih1 _
   | exact ih2 _ _ _
   | exact LeO.none _
   | refine LeO.ite ?_ ?_
   | refine LeO.bind ?_ (fun _ => ?_)
def wide_Text.T14 : Bool × List (List Nat × List Nat) := (true, [([], []), ([], []), ([], []), ([], []), ([], []), ([], []), ([4, 5], [4, 5]), ([6], [6]), ([], []), ([], []), ([8, 9], [8, 9]), ([10], [10]), ([0, 1, 0, 1, 4, 5, 6, 7, 11], [0, 1]), ([12, 7, 0, 1, 4, 5, 6, 7, 11], [7, 12]), ([2, 3, 0, 1, 2, 3, 4, 5, 6, 7, 8, 9, 10, 11, 12, 13], [2, 3]), ([14, 11, 13, 0, 1, 2, 3, 4, 5, 6, 7, 8, 9, 10, 11, 12, 13], [11, 14])])
def wide_Text.B14 : List Nat := [0, 0, 0, 0, 0, 0, 48, 112, 0, 0, 768, 1792, 4083, 8179, 16383, 32767]
theorem wide_Text.tab14 : rtab .any (opsOf Try.f33 14) = wide_Text.T14 := by kernel_rfl
theorem wide_Text.bits14 : waitsOk wide_Text.T14.2 wide_Text.B14 = true := by kernel_rfl
set_option maxHeartbeats 8000000 in
set_option maxRecDepth 100000 in
theorem wide_Text.calls (k : Nat) (a0_0 : Bool) (a0_1 : Int) (a0_2 : Int) (a0_3 : Int) (a0_4 : Int) (r : ByteArray) (w : World) (h : wide_Text.f k a0_0 a0_1 a0_2 a0_3 a0_4 = some r) :
  Calls Try.prog 33 #[.agg #[.bool a0_0, .int .u64 a0_1, .int .u64 a0_2, .int .u64 a0_3, .int .u64 a0_4]] w fun e w' => e = .returned (.string r) ∧ Below w.heap.size w w' := by
 have hu27 := Try.underlying27
 have hu25 := Try.underlying25
 have HB := Aside0.mk (Below.refl w.heap.size w)
 have H : ((wide_none.f a0_1 a0_2 a0_3 a0_4).bind fun t217 => (if t217 = true then (some (⟨#[48]⟩ : ByteArray)) else (wide_Text.l0 k ([] : List Int) a0_0 a0_1 a0_2 a0_3 a0_4 a0_1 a0_2 a0_3 a0_4))) = some r := h
 clear h
 replace H := Option.bind_eq_some_iff.mp H
 obtain ⟨t217, A20, H⟩ := H
 replace H : (if t217 = true then (some (⟨#[48]⟩ : ByteArray)) else (wide_Text.l0 k ([] : List Int) a0_0 a0_1 a0_2 a0_3 a0_4 a0_1 a0_2 a0_3 a0_4)) = some r := H
 have A2 := Aside0.mk A20
 clear A20
 by_cases c3 : t217 = true
 ·subst c3
  have H1 : (some (⟨#[48]⟩ : ByteArray)) = some r := by rw [if_pos rfl] at H; exact H
  clear H
  have H := H1
  clear H1
  obtain rfl := Option.some.inj H
  go_enter Try.func33, Try.ntmps33
  go_wp2_with (first | ((with_reducible refine gate_dst (N := 1) rfl ?_); refine box_event ?hg (N := 1) ?hd (cs := #[.bool a0_0, .int .u64 a0_1, .int .u64 a0_2, .int .u64 a0_3, .int .u64 a0_4]) (t := 27) ?hr ?_; (case hd => rfl); (case hg => rfl); (case hr => first | (go_simp; done) | (go_simp; rfl)); intro gb216 hg w4 hbox hb; have n0_ := Aside0.mk (below_step (by repeat (first | (with_reducible first | exact HB.out | apply qa | apply qn | apply qd) | exact HB.out)) hb); have n1_ := Aside0.mk (hbox); have n2_ := bgw HB hg; have n3_ := bgw HB hg; clear HB; have HB := n0_; have BK216 := n1_; have GW216 := n2_; have GE216 := n3_; clear n0_ n1_ n2_ n3_; clear hb hbox hg; obtain ⟨hcz5_0, hcz5_1, hcz5_2, hcz5_3, hcz5_4⟩ := cl5 BK216.out; obtain ⟨hfz5_0, hfz5_1, hfz5_2, hfz5_3, hfz5_4⟩ := fr5 BK216.out) | ((with_reducible refine gate_callee (f := 69) rfl ?_); refine goesL_ (some 11) rfl rfl Try.func69 (by kernel_rfl) rfl #[.agg #[.int .u64 a0_1, .int .u64 a0_2, .int .u64 a0_3, .int .u64 a0_4]] rfl (by (try simp only [List.map_toArray, List.map_cons, List.map_nil]); first | done | rfl | (simp only [List.length_drop, List.length_take]; rfl)) ?_; (with_reducible refine (wide_none.calls a0_1 a0_2 a0_3 a0_4 true _ A2.out).mono ?_); rintro e w6 ⟨rfl, hb⟩; refine ⟨_, rfl, ?_⟩; have n0_ := bb BK216 hb; have n1_ := Aside0.mk (below_step (by repeat (first | (with_reducible first | exact HB.out | apply qa | apply qn | apply qd | refine qs ?_ GE216.out) | exact HB.out)) hb); clear BK216; clear HB; have BK216 := n0_; have HB := n1_; clear n0_ n1_; (try clear hb); (try clear hb2); (try clear hk); (try clear hi)))
  go_ret
  exact ⟨by first | rfl | (simp [errW_none, errW_some] <;> rfl) | (simp [*, errW_none, errW_some] <;> rfl), by repeat (first | (with_reducible first | exact HB.out | apply qa | apply qn | apply qd | refine qs ?_ GE216.out) | exact HB.out)⟩
 replace c3 := Bool.eq_false_iff.mpr c3
 subst c3
 have H1 : (wide_Text.l0 k ([] : List Int) a0_0 a0_1 a0_2 a0_3 a0_4 a0_1 a0_2 a0_3 a0_4) = some r := by rw [if_neg (show ¬ (false = true) by decide)] at H; exact H
 clear H
 have H := H1
 clear H1
 have H' := Aside0.mk H
 clear H
 go_enter Try.func33, Try.ntmps33
 go_wp2_with (first | ((with_reducible refine gate_dst (N := 1) rfl ?_); refine box_event ?hg (N := 1) ?hd (cs := #[.bool a0_0, .int .u64 a0_1, .int .u64 a0_2, .int .u64 a0_3, .int .u64 a0_4]) (t := 27) ?hr ?_; (case hd => rfl); (case hg => rfl); (case hr => first | (go_simp; done) | (go_simp; rfl)); intro gb216 hg w7 hbox hb; have n0_ := Aside0.mk (below_step (by repeat (first | (with_reducible first | exact HB.out | apply qa | apply qn | apply qd) | exact HB.out)) hb); have n1_ := Aside0.mk (hbox); have n2_ := bgw HB hg; have n3_ := bgw HB hg; clear HB; have HB := n0_; have BK216 := n1_; have GW216 := n2_; have GE216 := n3_; clear n0_ n1_ n2_ n3_; clear hb hbox hg; obtain ⟨hcz8_0, hcz8_1, hcz8_2, hcz8_3, hcz8_4⟩ := cl5 BK216.out; obtain ⟨hfz8_0, hfz8_1, hfz8_2, hfz8_3, hfz8_4⟩ := fr5 BK216.out) | ((with_reducible refine gate_callee (f := 69) rfl ?_); refine goesL_ (some 11) rfl rfl Try.func69 (by kernel_rfl) rfl #[.agg #[.int .u64 a0_1, .int .u64 a0_2, .int .u64 a0_3, .int .u64 a0_4]] rfl (by (try simp only [List.map_toArray, List.map_cons, List.map_nil]); first | done | rfl | (simp only [List.length_drop, List.length_take]; rfl)) ?_; (with_reducible refine (wide_none.calls a0_1 a0_2 a0_3 a0_4 false _ A2.out).mono ?_); rintro e w9 ⟨rfl, hb⟩; refine ⟨_, rfl, ?_⟩; have n0_ := bb BK216 hb; have n1_ := Aside0.mk (below_step (by repeat (first | (with_reducible first | exact HB.out | apply qa | apply qn | apply qd | refine qs ?_ GE216.out) | exact HB.out)) hb); clear BK216; clear HB; have BK216 := n0_; have HB := n1_; clear n0_ n1_; (try clear hb); (try clear hb2); (try clear hk); (try clear hi); obtain ⟨hcz10_0, hcz10_1, hcz10_2, hcz10_3, hcz10_4⟩ := cl5 BK216.out; obtain ⟨hfz10_0, hfz10_1, hfz10_2, hfz10_3, hfz10_4⟩ := fr5 BK216.out) | ((with_reducible refine gate_dst (N := 4) rfl ?_); refine box_event ?hg (N := 4) ?hd (cs := #[.int .u64 0, .int .u64 0, .int .u64 0, .int .u64 0]) (t := 25) ?hr ?_; (case hd => rfl); (case hg => rfl); (case hr => first | (go_simp; done) | (go_simp; rfl)); intro gb218 hg w11 hbox hb; have n0_ := bb BK216 hb; have n1_ := Aside0.mk (below_step (by repeat (first | (with_reducible first | exact HB.out | apply qa | apply qn | apply qd | refine qs ?_ GE216.out) | exact HB.out)) hb); have n2_ := Aside0.mk (hbox); have n3_ := bgw HB hg; have n4_ := bgw HB hg; have n5_ := bnl BK216 hg; have n6_ := bng BK216 hg; clear BK216; clear HB; have BK216 := n0_; have HB := n1_; have BK218 := n2_; have GW218 := n3_; have GE218 := n4_; have NB216_218 := n5_; have NB218_216 := n6_; clear n0_ n1_ n2_ n3_ n4_ n5_ n6_; clear hb hbox hg; have hnb12 := NB218_216.out; have hnc12 := NB216_218.out; obtain ⟨hcz13_0, hcz13_1, hcz13_2, hcz13_3⟩ := cl4 BK218.out; obtain ⟨hfz13_0, hfz13_1, hfz13_2, hfz13_3⟩ := fr4 BK218.out))
 go_loopg [3] k (fun kq v3 w' => ∃ (x3_1 : List Int) (x219000_1 : Int) (x219001_1 : Int) (x219002_1 : Int) (x219003_1 : Int), Aside0 (wide_Text.l0 kq x3_1 a0_0 a0_1 a0_2 a0_3 a0_4 x219000_1 x219001_1 x219002_1 x219003_1 = some r) ∧ Aside0 (kq ≤ k) ∧ Aside0 (Kd.R (Kd.int .u8) 5 w' w.heap.size (fun _ => True) v3 x3_1) ∧ Aside0 (w'.heap[gb216]? = some (.cells #[.bool a0_0, .int .u64 a0_1, .int .u64 a0_2, .int .u64 a0_3, .int .u64 a0_4] 27 (0, 0))) ∧ Aside0 (w'.heap[gb218]? = some (.cells #[.int .u64 x219000_1, .int .u64 x219001_1, .int .u64 x219002_1, .int .u64 x219003_1] 25 (0, 0))) ∧ Aside0 (Below w.heap.size w w'))
 case atStart => exact ⟨(([] : List Int)), (a0_1), (a0_2), (a0_3), (a0_4), H', ⟨Nat.le_refl _⟩, ⟨by first | exact Kd.R_nil _ _ _ _ _ | exact Kd.N_nil _ _ _ _ _ | exact Kd.V_nil _ _ _ _ _ | exact Kd.Q_nil _ _ _ _ _ | exact Kd.S_nil _ _ _ _ _⟩, ⟨by repeat (with_reducible first | exact lb BK216.out | refine blk_far ?_ NB216_218.out _ | refine cn ?_ _ | refine cd ?_ | refine ca ?_ _)⟩, ⟨by repeat (with_reducible first | exact bp4 (lb BK218.out) | refine cn ?_ _ | refine cd ?_ | refine ca ?_ _)⟩, ⟨by repeat (first | (with_reducible first | exact HB.out | apply qa | apply qn | apply qd | refine qs ?_ GE216.out | refine qs ?_ GE218.out) | exact HB.out)⟩⟩
 case round =>
  clear H'
  try clear c1
  try clear p2
  try clear c3
  try clear c6
  try clear c12
  try clear hcz10_0
  try clear hcz10_1
  try clear hcz10_2
  try clear hcz10_3
  try clear hcz10_4
  try clear hcz13_0
  try clear hcz13_1
  try clear hcz13_2
  try clear hcz13_3
  try clear hcz5_0
  try clear hcz5_1
  try clear hcz5_2
  try clear hcz5_3
  try clear hcz5_4
  try clear hcz8_0
  try clear hcz8_1
  try clear hcz8_2
  try clear hcz8_3
  try clear hcz8_4
  try clear hfz10_0
  try clear hfz10_1
  try clear hfz10_2
  try clear hfz10_3
  try clear hfz10_4
  try clear hfz13_0
  try clear hfz13_1
  try clear hfz13_2
  try clear hfz13_3
  try clear hfz5_0
  try clear hfz5_1
  try clear hfz5_2
  try clear hfz5_3
  try clear hfz5_4
  try clear hfz8_0
  try clear hfz8_1
  try clear hfz8_2
  try clear hfz8_3
  try clear hfz8_4
  obtain ⟨x3_1, x219000_1, x219001_1, x219002_1, x219003_1, HA, HK1, HO_3, BK216, BK218, HB⟩ := hrel
  cases gk with
  | zero => exact absurd HA.out (by simp [wide_Text.l0])
  | succ k1 =>
   have H := HA.out
   clear HA
   simp only [wide_Text.l0] at H
   replace H := Option.bind_eq_some_iff.mp H
   obtain ⟨t219, A140, H⟩ := H
   try dsimp only at H
   have A14 := Aside0.mk A140
   clear A140
   by_cases c15 : t219 = true
   rotate_left
   ·replace c15 := Bool.eq_false_iff.mpr c15
    subst c15
    have H1 : ((wide_divide.f x219000_1 x219001_1 x219002_1 x219003_1 10 0 0 0).bind fun bt220 => (if x3_1.length < 140737488355328 then (wide_Text.l0 k1 (x3_1 ++ [(IntKind.u64.wrap (48 + bt220.2.2.2.2.1)) % 256]) a0_0 a0_1 a0_2 a0_3 a0_4 bt220.1 bt220.2.1 bt220.2.2.1 bt220.2.2.2.1) else (none))) = some r := by rw [if_neg (show ¬ (false = true) by decide)] at H; exact H
    clear H
    have H := H1
    clear H1
    replace H := Option.bind_eq_some_iff.mp H
    obtain ⟨⟨t220, t221, t222, t223, t224, t225, t226, t227⟩, A360, H⟩ := H
    replace H : (if x3_1.length < 140737488355328 then (wide_Text.l0 k1 (x3_1 ++ [(IntKind.u64.wrap (48 + t224)) % 256]) a0_0 a0_1 a0_2 a0_3 a0_4 t220 t221 t222 t223) else (none)) = some r := H
    have A36 := Aside0.mk A360
    clear A360
    by_cases c37 : x3_1.length < 140737488355328
    rotate_left
    ·rw [if_neg c37] at H
     exact absurd H (by simp)
    rw [if_pos c37] at H
    have LMc37 := Aside0.mk c37
    clear c37
    obtain ⟨y230, hy230⟩ : ∃ y_ : List Int, y_ = (x3_1 ++ [(IntKind.u64.wrap (48 + t224)) % 256]) := ⟨_, rfl⟩
    replace H : (wide_Text.l0 k1 y230 a0_0 a0_1 a0_2 a0_3 a0_4 t220 t221 t222 t223) = some r := by first | (rw [hy230]; with_reducible exact H) | (have H2_ := (Option.bind_some _ _).symm.trans H; rw [hy230]; with_reducible exact H2_) | (have H2_ := (Option.bind_some _ _).symm.trans H; with_reducible exact H2_) | with_reducible exact H | (rw [hy230]; exact H) | exact H
    have Ny230 := Aside0.mk hy230
    clear hy230
    have H' := Aside0.mk H
    clear H
    have hnb38 := NB218_216.out
    have hnc38 := NB216_218.out
    obtain ⟨hcz39_0, hcz39_1, hcz39_2, hcz39_3⟩ := cl4 BK218.out
    obtain ⟨hfz39_0, hfz39_1, hfz39_2, hfz39_3⟩ := fr4 BK218.out
    go_wp2_with (first | ((with_reducible refine gate_callee (f := 69) rfl ?_); refine goesL_ (some 15) rfl rfl Try.func69 (by kernel_rfl) rfl #[.agg #[.int .u64 x219000_1, .int .u64 x219001_1, .int .u64 x219002_1, .int .u64 x219003_1]] rfl (by (try simp only [List.map_toArray, List.map_cons, List.map_nil]); first | done | rfl | (simp only [List.length_drop, List.length_take]; rfl)) ?_; (with_reducible refine (wide_none.calls x219000_1 x219001_1 x219002_1 x219003_1 false _ A14.out).mono ?_); rintro e w40 ⟨rfl, hb⟩; refine ⟨_, rfl, ?_⟩; have n0_ := Aside0.mk (Kd.R_below (by (with_reducible repeat (first | apply Kd.R_alloc | apply Kd.R_drewN | apply Kd.R_drew)); exact HO_3.out) hb); have n1_ := bb BK216 hb; have n2_ := bb BK218 hb; have n3_ := Aside0.mk (below_step (by repeat (first | (with_reducible first | exact HB.out | apply qa | apply qn | apply qd | refine qs ?_ GE216.out | refine qs ?_ GE218.out) | exact HB.out)) hb); clear HO_3; clear BK216; clear BK218; clear HB; have HO_3 := n0_; have BK216 := n1_; have BK218 := n2_; have HB := n3_; clear n0_ n1_ n2_ n3_; (try clear hb); (try clear hb2); (try clear hk); (try clear hi); obtain ⟨hcz41_0, hcz41_1, hcz41_2, hcz41_3⟩ := cl4 BK218.out; obtain ⟨hfz41_0, hfz41_1, hfz41_2, hfz41_3⟩ := fr4 BK218.out) | ((with_reducible refine gate_callee (f := 70) rfl ?_); refine goesL_ (some 20) rfl rfl Try.func70 (by kernel_rfl) rfl #[.agg #[.int .u64 x219000_1, .int .u64 x219001_1, .int .u64 x219002_1, .int .u64 x219003_1], .agg #[.int .u64 10, .int .u64 0, .int .u64 0, .int .u64 0]] rfl (by (try simp only [List.map_toArray, List.map_cons, List.map_nil]); first | done | rfl | (simp only [List.length_drop, List.length_take]; rfl)) ?_; (with_reducible refine (wide_divide.calls x219000_1 x219001_1 x219002_1 x219003_1 10 0 0 0 t220 t221 t222 t223 t224 t225 t226 t227 _ A36.out).mono ?_); rintro e w42 ⟨rfl, hb⟩; refine ⟨_, rfl, ?_⟩; have n0_ := Aside0.mk (Kd.R_below (by (with_reducible repeat (first | apply Kd.R_alloc | apply Kd.R_drewN | apply Kd.R_drew)); exact HO_3.out) hb); have n1_ := bb BK216 hb; have n2_ := bb BK218 hb; have n3_ := Aside0.mk (below_step (by repeat (first | (with_reducible first | exact HB.out | apply qa | apply qn | apply qd | refine qs ?_ GE216.out | refine qs ?_ GE218.out) | exact HB.out)) hb); clear HO_3; clear BK216; clear BK218; clear HB; have HO_3 := n0_; have BK216 := n1_; have BK218 := n2_; have HB := n3_; clear n0_ n1_ n2_ n3_; (try clear hb); (try clear hb2); (try clear hk); (try clear hi)) | ((with_reducible refine gate_dst (N := 5) rfl ?_); refine box_event ?hg (N := 5) ?hd (cs := #[.int .u64 0, .int .u64 0, .int .u64 0, .int .u64 0]) (t := 25) ?hr ?_; (case hd => rfl); (case hg => rfl); (case hr => first | (go_simp; done) | (go_simp; rfl)); intro gb228 hg w43 hbox hb; have n0_ := Aside0.mk (Kd.R_below (by (with_reducible repeat (first | apply Kd.R_alloc | apply Kd.R_drewN | apply Kd.R_drew)); exact HO_3.out) hb); have n1_ := bb BK216 hb; have n2_ := bb BK218 hb; have n3_ := Aside0.mk (below_step (by repeat (first | (with_reducible first | exact HB.out | apply qa | apply qn | apply qd | refine qs ?_ GE216.out | refine qs ?_ GE218.out) | exact HB.out)) hb); have n4_ := Aside0.mk (hbox); have n5_ := bgw HB hg; have n6_ := bgw HB hg; have n7_ := bnl BK216 hg; have n8_ := bng BK216 hg; have n9_ := bnl BK218 hg; have n10_ := bng BK218 hg; clear HO_3; clear BK216; clear BK218; clear HB; have HO_3 := n0_; have BK216 := n1_; have BK218 := n2_; have HB := n3_; have BK228 := n4_; have GW228 := n5_; have GE228 := n6_; have NB216_228 := n7_; have NB228_216 := n8_; have NB218_228 := n9_; have NB228_218 := n10_; clear n0_ n1_ n2_ n3_ n4_ n5_ n6_ n7_ n8_ n9_ n10_; clear hb hbox hg) | ((with_reducible refine gate_dst (N := 6) rfl ?_); refine box_event ?hg (N := 6) ?hd (cs := #[.int .u64 0, .int .u64 0, .int .u64 0, .int .u64 0]) (t := 25) ?hr ?_; (case hd => rfl); (case hg => rfl); (case hr => first | (go_simp; done) | (go_simp; rfl)); intro gb229 hg w44 hbox hb; have n0_ := Aside0.mk (Kd.R_below (by (with_reducible repeat (first | apply Kd.R_alloc | apply Kd.R_drewN | apply Kd.R_drew)); exact HO_3.out) hb); have n1_ := bb BK216 hb; have n2_ := bb BK218 hb; have n3_ := bb BK228 hb; have n4_ := Aside0.mk (below_step (by repeat (first | (with_reducible first | exact HB.out | apply qa | apply qn | apply qd | refine qs ?_ GE216.out | refine qs ?_ GE218.out | refine qs ?_ GE228.out) | exact HB.out)) hb); have n5_ := Aside0.mk (hbox); have n6_ := bgw HB hg; have n7_ := bgw HB hg; have n8_ := bnl BK216 hg; have n9_ := bng BK216 hg; have n10_ := bnl BK218 hg; have n11_ := bng BK218 hg; have n12_ := bnl BK228 hg; have n13_ := bng BK228 hg; clear HO_3; clear BK216; clear BK218; clear BK228; clear HB; have HO_3 := n0_; have BK216 := n1_; have BK218 := n2_; have BK228 := n3_; have HB := n4_; have BK229 := n5_; have GW229 := n6_; have GE229 := n7_; have NB216_229 := n8_; have NB229_216 := n9_; have NB218_229 := n10_; have NB229_218 := n11_; have NB228_229 := n12_; have NB229_228 := n13_; clear n0_ n1_ n2_ n3_ n4_ n5_ n6_ n7_ n8_ n9_ n10_ n11_ n12_ n13_; clear hb hbox hg; have hnb45 := NB228_216.out; have hnc45 := NB216_228.out; have hnb46 := NB228_218.out; have hnc46 := NB218_228.out; have hnb47 := NB228_229.out; have hnc47 := NB229_228.out; obtain ⟨hcz48_0, hcz48_1, hcz48_2, hcz48_3⟩ := cl4 BK228.out; obtain ⟨hfz48_0, hfz48_1, hfz48_2, hfz48_3⟩ := fr4 BK228.out; have hnb49 := NB229_216.out; have hnc49 := NB216_229.out; have hnb50 := NB229_218.out; have hnc50 := NB218_229.out; obtain ⟨hcz51_0, hcz51_1, hcz51_2, hcz51_3⟩ := cl4 BK229.out; obtain ⟨hfz51_0, hfz51_1, hfz51_2, hfz51_3⟩ := fr4 BK229.out) | ((with_reducible refine gate_builtin (b := .append) (xs := #[.tmp 23, .tmp 28]) rfl ?_); at_builtin; refine Kd.R_append (Kd.int .u8) (w0 := w) w.heap.size rfl (.tmp 23) (.tmp 28) 99 5 (.int .u8 0) 1 rfl Try.underlying99 info5 rfl (by decide) (by omega) u3 x3_1 ((IntKind.u64.wrap (48 + t224)) % 256) [.int .u8 ((IntKind.u64.wrap (48 + t224)) % 256)] (fun _ => True) (fun _ => False) rfl (by first | (go_simp; done) | (go_simp; rfl)) ?aP (fun _ hk => hk.elim) ?aF ?aO ?aB ?aS ?aL ?_; (case aP => exact rfl); (case aB => exact (by repeat (first | (with_reducible first | exact HB.out | apply qa | apply qn | apply qd | refine qs ?_ GE216.out | refine qs ?_ GE218.out | refine qs ?_ GE228.out | refine qs ?_ GE229.out) | exact HB.out))); (case aF => exact (fun _ _ => trivial)); (case aO => exact (by (with_reducible repeat (first | apply Kd.R_alloc | apply Kd.R_drewN | apply Kd.R_drew)); exact Kd.R_mono (Kd.R_far (p := ⟨gb229, 3, none⟩) (Kd.R_far (p := ⟨gb229, 2, none⟩) (Kd.R_far (p := ⟨gb229, 1, none⟩) (Kd.R_far (p := ⟨gb229, 0, none⟩) (Kd.R_far (p := ⟨gb228, 3, none⟩) (Kd.R_far (p := ⟨gb228, 2, none⟩) (Kd.R_far (p := ⟨gb228, 1, none⟩) (Kd.R_far (p := ⟨gb228, 0, none⟩) (Kd.R_types (Kd.R_types HO_3.out BK228.out (by decide)) BK229.out (by decide)) (fun _ hk => hk.1.2) (.int .u64 t220)) (fun _ hk => hk.1.2) (.int .u64 t221)) (fun _ hk => hk.1.2) (.int .u64 t222)) (fun _ hk => hk.1.2) (.int .u64 t223)) (fun _ hk => hk.2) (.int .u64 t224)) (fun _ hk => hk.2) (.int .u64 t225)) (fun _ hk => hk.2) (.int .u64 t226)) (fun _ hk => hk.2) (.int .u64 t227)) (fun _ hk => trivial))); (case aS => exact (below_size (by repeat (first | (with_reducible first | exact HB.out | apply qa | apply qn | apply qd | refine qs ?_ GE216.out | refine qs ?_ GE218.out | refine qs ?_ GE228.out | refine qs ?_ GE229.out) | exact HB.out)))); (case aL => have := LMc37.out; omega); intro v231 w52 ho hb hg hat; rw [← Ny230.out] at ho; have n0_ := Aside0.mk (blk_grown (g := gb216) (o := .cells #[.bool a0_0, .int .u64 a0_1, .int .u64 a0_2, .int .u64 a0_3, .int .u64 a0_4] 27 (0, 0)) (by repeat (with_reducible first | exact lb BK216.out | refine blk_far ?_ NB216_229.out _ | refine blk_far ?_ NB216_228.out _ | refine cn ?_ _ | refine cd ?_ | refine ca ?_ _)) hg (Kd.R_ne HO_3.out BK216.out (by decide))); have n1_ := Aside0.mk (blk_grown (g := gb218) (o := .cells #[.int .u64 x219000_1, .int .u64 x219001_1, .int .u64 x219002_1, .int .u64 x219003_1] 25 (0, 0)) (by repeat (with_reducible first | exact lb BK218.out | refine blk_far ?_ NB218_229.out _ | refine blk_far ?_ NB218_228.out _ | refine cn ?_ _ | refine cd ?_ | refine ca ?_ _)) hg (Kd.R_ne HO_3.out BK218.out (by decide))); have n2_ := Aside0.mk (blk_grown (g := gb228) (o := .cells #[.int .u64 t220, .int .u64 t221, .int .u64 t222, .int .u64 t223] 25 (0, 0)) (by repeat (with_reducible first | exact bp4 (lb BK228.out) | refine blk_far ?_ NB228_229.out _ | refine cn ?_ _ | refine cd ?_ | refine ca ?_ _)) hg (Kd.R_ne HO_3.out BK228.out (by decide))); have n3_ := Aside0.mk (blk_grown (g := gb229) (o := .cells #[.int .u64 t224, .int .u64 t225, .int .u64 t226, .int .u64 t227] 25 (0, 0)) (by (with_reducible repeat (first | refine cn ?_ _ | refine cd ?_ | refine ca ?_ _)); refine blk_put (cs := #[.int .u64 t224, .int .u64 t225, .int .u64 t226, .int .u64 0]) ?_ 3 _ rfl; (with_reducible repeat (first | refine cn ?_ _ | refine cd ?_ | refine ca ?_ _)); refine blk_put (cs := #[.int .u64 t224, .int .u64 t225, .int .u64 0, .int .u64 0]) ?_ 2 _ rfl; (with_reducible repeat (first | refine cn ?_ _ | refine cd ?_ | refine ca ?_ _)); refine blk_put (cs := #[.int .u64 t224, .int .u64 0, .int .u64 0, .int .u64 0]) ?_ 1 _ rfl; (with_reducible repeat (first | refine cn ?_ _ | refine cd ?_ | refine ca ?_ _)); refine blk_put (cs := #[.int .u64 0, .int .u64 0, .int .u64 0, .int .u64 0]) ?_ 0 _ rfl; (with_reducible repeat (first | refine cn ?_ _ | refine cd ?_ | refine ca ?_ _)); refine blk_far ?_ NB229_228.out _; (with_reducible repeat (first | refine cn ?_ _ | refine cd ?_ | refine ca ?_ _)); refine blk_far ?_ NB229_228.out _; (with_reducible repeat (first | refine cn ?_ _ | refine cd ?_ | refine ca ?_ _)); refine blk_far ?_ NB229_228.out _; (with_reducible repeat (first | refine cn ?_ _ | refine cd ?_ | refine ca ?_ _)); refine blk_far ?_ NB229_228.out _; (with_reducible repeat (first | refine cn ?_ _ | refine cd ?_ | refine ca ?_ _)); exact BK229.out) hg (Kd.R_ne HO_3.out BK229.out (by decide))); have n4_ := Aside0.mk (hb); have n5_ := Aside0.mk (ho); clear BK216; clear BK218; clear BK228; clear BK229; clear HB; clear HO_3; have BK216 := n0_; have BK218 := n1_; have BK228 := n2_; have BK229 := n3_; have HB := n4_; have HO232 := n5_; clear n0_ n1_ n2_ n3_ n4_ n5_; clear ho hb hg hat; obtain ⟨hcz53_0, hcz53_1, hcz53_2, hcz53_3⟩ := cl4 BK228.out; obtain ⟨hfz53_0, hfz53_1, hfz53_2, hfz53_3⟩ := fr4 BK228.out; obtain ⟨hcz54_0, hcz54_1, hcz54_2, hcz54_3⟩ := cl4 BK218.out; obtain ⟨hfz54_0, hfz54_1, hfz54_2, hfz54_3⟩ := fr4 BK218.out))
    go_roundg k1
    case measure => have := HK1.out; omega
    case rel => exact ⟨(y230), (t220), (t221), (t222), (t223), H', ⟨by have := HK1.out; omega⟩, ⟨by (with_reducible repeat (first | apply Kd.R_alloc | apply Kd.R_drewN | apply Kd.R_drew)); exact Kd.R_mono (Kd.R_far (p := ⟨gb218, 3, none⟩) (Kd.R_far (p := ⟨gb218, 2, none⟩) (Kd.R_far (p := ⟨gb218, 1, none⟩) (Kd.R_far (p := ⟨gb218, 0, none⟩) (Kd.R_types HO232.out BK218.out (by decide)) (fun _ hk => hk.2) (.int .u64 t220)) (fun _ hk => hk.2) (.int .u64 t221)) (fun _ hk => hk.2) (.int .u64 t222)) (fun _ hk => hk.2) (.int .u64 t223)) (fun _ hk => trivial)⟩, ⟨by repeat (with_reducible first | exact lb BK216.out | refine blk_far ?_ NB216_218.out _ | refine cn ?_ _ | refine cd ?_ | refine ca ?_ _)⟩, ⟨by repeat (with_reducible first | exact bp4 (lb BK218.out) | refine cn ?_ _ | refine cd ?_ | refine ca ?_ _)⟩, ⟨by repeat (first | (with_reducible first | exact HB.out | apply qa | apply qn | apply qd | refine qs ?_ GE216.out | refine qs ?_ GE218.out | refine qs ?_ GE228.out | refine qs ?_ GE229.out) | exact HB.out)⟩⟩
   subst c15
   have H1 : (if a0_0 = true then (if x3_1.length < 140737488355328 then (wide_Text.j1 k1 (x3_1 ++ [45])) else (none)) else (wide_Text.j1 k1 x3_1)) = some r := by rw [if_pos rfl] at H; exact H
   clear H
   have H := H1
   clear H1
   have HC16 := Aside0.mk H
   clear H
   have hnb17 := NB218_216.out
   have hnc17 := NB216_218.out
   obtain ⟨hcz18_0, hcz18_1, hcz18_2, hcz18_3⟩ := cl4 BK218.out
   obtain ⟨hfz18_0, hfz18_1, hfz18_2, hfz18_3⟩ := fr4 BK218.out
   go_upto_if 32 with (first | ((with_reducible refine gate_callee (f := 69) rfl ?_); refine goesL_ (some 15) rfl rfl Try.func69 (by kernel_rfl) rfl #[.agg #[.int .u64 x219000_1, .int .u64 x219001_1, .int .u64 x219002_1, .int .u64 x219003_1]] rfl (by (try simp only [List.map_toArray, List.map_cons, List.map_nil]); first | done | rfl | (simp only [List.length_drop, List.length_take]; rfl)) ?_; (with_reducible refine (wide_none.calls x219000_1 x219001_1 x219002_1 x219003_1 true _ A14.out).mono ?_); rintro e w19 ⟨rfl, hb⟩; refine ⟨_, rfl, ?_⟩; have n0_ := Aside0.mk (Kd.R_below (by (with_reducible repeat (first | apply Kd.R_alloc | apply Kd.R_drewN | apply Kd.R_drew)); exact HO_3.out) hb); have n1_ := bb BK216 hb; have n2_ := bb BK218 hb; have n3_ := Aside0.mk (below_step (by repeat (first | (with_reducible first | exact HB.out | apply qa | apply qn | apply qd | refine qs ?_ GE216.out | refine qs ?_ GE218.out) | exact HB.out)) hb); clear HO_3; clear BK216; clear BK218; clear HB; have HO_3 := n0_; have BK216 := n1_; have BK218 := n2_; have HB := n3_; clear n0_ n1_ n2_ n3_; (try clear hb); (try clear hb2); (try clear hk); (try clear hi); obtain ⟨hcz20_0, hcz20_1, hcz20_2, hcz20_3, hcz20_4⟩ := cl5 BK216.out; obtain ⟨hfz20_0, hfz20_1, hfz20_2, hfz20_3, hfz20_4⟩ := fr5 BK216.out))
   (try simp only [Act.put, List.setIfInBounds_toArray, List.set_cons_zero, List.set_cons_succ])
   go_cut [3] (fun v3 wc => ∃ (kq : Nat) (x3_15 : List Int), Aside0 (wide_Text.j1 kq x3_15 = some r) ∧ Aside0 (kq ≤ k1) ∧ Aside0 (Kd.R (Kd.int .u8) 5 wc w.heap.size (fun _ => True) v3 x3_15) ∧ Aside0 (wc.heap[gb216]? = some (.cells #[.bool a0_0, .int .u64 a0_1, .int .u64 a0_2, .int .u64 a0_3, .int .u64 a0_4] 27 (0, 0))) ∧ Aside0 (wc.heap[gb218]? = some (.cells #[.int .u64 x219000_1, .int .u64 x219001_1, .int .u64 x219002_1, .int .u64 x219003_1] 25 (0, 0))) ∧ Aside0 (Below w.heap.size w wc))
   case first =>
    have H := HC16.out
    clear HC16
    by_cases c21 : a0_0 = true
    rotate_left
    ·replace c21 := Bool.eq_false_iff.mpr c21
     subst c21
     have H1 : (wide_Text.j1 k1 x3_1) = some r := by rw [if_neg (show ¬ (false = true) by decide)] at H; exact H
     clear H
     have H := H1
     clear H1
     have H' := Aside0.mk H
     clear H
     go_wp2
     go_meet
     case rel => exact ⟨_, (x3_1), H', ⟨by have := HK1.out; first | omega | exact Nat.le_refl _⟩, ⟨by (with_reducible repeat (first | apply Kd.R_alloc | apply Kd.R_drewN | apply Kd.R_drew)); exact HO_3.out⟩, ⟨by (with_reducible repeat (first | refine cn ?_ _ | refine cd ?_ | refine ca ?_ _)); exact BK216.out⟩, ⟨by (with_reducible repeat (first | refine cn ?_ _ | refine cd ?_ | refine ca ?_ _)); exact BK218.out⟩, ⟨by repeat (first | (with_reducible first | exact HB.out | apply qa | apply qn | apply qd | refine qs ?_ GE216.out | refine qs ?_ GE218.out) | exact HB.out)⟩⟩
    subst c21
    have H1 : (if x3_1.length < 140737488355328 then (wide_Text.j1 k1 (x3_1 ++ [45])) else (none)) = some r := by rw [if_pos rfl] at H; exact H
    clear H
    have H := H1
    clear H1
    by_cases c22 : x3_1.length < 140737488355328
    rotate_left
    ·rw [if_neg c22] at H
     exact absurd H (by simp)
    rw [if_pos c22] at H
    have LMc22 := Aside0.mk c22
    clear c22
    obtain ⟨y233, hy233⟩ : ∃ y_ : List Int, y_ = (x3_1 ++ [45]) := ⟨_, rfl⟩
    replace H : (wide_Text.j1 k1 y233) = some r := by first | (rw [hy233]; with_reducible exact H) | (have H2_ := (Option.bind_some _ _).symm.trans H; rw [hy233]; with_reducible exact H2_) | (have H2_ := (Option.bind_some _ _).symm.trans H; with_reducible exact H2_) | with_reducible exact H | (rw [hy233]; exact H) | exact H
    have Ny233 := Aside0.mk hy233
    clear hy233
    have H' := Aside0.mk H
    clear H
    go_wp2_with (first | ((with_reducible refine gate_builtin (b := .append) (xs := #[.tmp 33, .tmp 34]) rfl ?_); at_builtin; refine Kd.R_append (Kd.int .u8) (w0 := w) w.heap.size rfl (.tmp 33) (.tmp 34) 99 5 (.int .u8 0) 1 rfl Try.underlying99 info5 rfl (by decide) (by omega) u3 x3_1 45 [.int .u8 45] (fun _ => True) (fun _ => False) rfl rfl ?aP (fun _ hk => hk.elim) ?aF ?aO ?aB ?aS ?aL ?_; (case aP => exact rfl); (case aB => exact (by repeat (first | (with_reducible first | exact HB.out | apply qa | apply qn | apply qd | refine qs ?_ GE216.out | refine qs ?_ GE218.out) | exact HB.out))); (case aF => exact (fun _ _ => trivial)); (case aO => exact (by (with_reducible repeat (first | apply Kd.R_alloc | apply Kd.R_drewN | apply Kd.R_drew)); exact HO_3.out)); (case aS => exact (below_size (by repeat (first | (with_reducible first | exact HB.out | apply qa | apply qn | apply qd | refine qs ?_ GE216.out | refine qs ?_ GE218.out) | exact HB.out)))); (case aL => have := LMc22.out; omega); intro v234 w23 ho hb hg hat; rw [← Ny233.out] at ho; have n0_ := Aside0.mk (blk_grown (g := gb216) (o := .cells #[.bool true, .int .u64 a0_1, .int .u64 a0_2, .int .u64 a0_3, .int .u64 a0_4] 27 (0, 0)) (by exact lb BK216.out) hg (Kd.R_ne HO_3.out BK216.out (by decide))); have n1_ := Aside0.mk (blk_grown (g := gb218) (o := .cells #[.int .u64 x219000_1, .int .u64 x219001_1, .int .u64 x219002_1, .int .u64 x219003_1] 25 (0, 0)) (by exact lb BK218.out) hg (Kd.R_ne HO_3.out BK218.out (by decide))); have n2_ := Aside0.mk (hb); have n3_ := Aside0.mk (ho); clear BK216; clear BK218; clear HB; clear HO_3; have BK216 := n0_; have BK218 := n1_; have HB := n2_; have HO235 := n3_; clear n0_ n1_ n2_ n3_; clear ho hb hg hat))
    go_meet
    case rel => exact ⟨_, (y233), H', ⟨by have := HK1.out; first | omega | exact Nat.le_refl _⟩, ⟨by (with_reducible repeat (first | apply Kd.R_alloc | apply Kd.R_drewN | apply Kd.R_drew)); exact HO235.out⟩, ⟨by (with_reducible repeat (first | refine cn ?_ _ | refine cd ?_ | refine ca ?_ _)); exact BK216.out⟩, ⟨by (with_reducible repeat (first | refine cn ?_ _ | refine cd ?_ | refine ca ?_ _)); exact BK218.out⟩, ⟨by repeat (first | (with_reducible first | exact HB.out | apply qa | apply qn | apply qd | refine qs ?_ GE216.out | refine qs ?_ GE218.out) | exact HB.out)⟩⟩
   case rest =>
    clear HC16
    try clear c1
    try clear c2
    try clear p2
    try clear c3
    try clear c6
    try clear c12
    try clear c15
    try clear c17
    try clear c21
    try clear c22
    try clear hcz10_0
    try clear hcz10_1
    try clear hcz10_2
    try clear hcz10_3
    try clear hcz10_4
    try clear hcz13_0
    try clear hcz13_1
    try clear hcz13_2
    try clear hcz13_3
    try clear hcz18_0
    try clear hcz18_1
    try clear hcz18_2
    try clear hcz18_3
    try clear hcz20_0
    try clear hcz20_1
    try clear hcz20_2
    try clear hcz20_3
    try clear hcz20_4
    try clear hcz5_0
    try clear hcz5_1
    try clear hcz5_2
    try clear hcz5_3
    try clear hcz5_4
    try clear hcz8_0
    try clear hcz8_1
    try clear hcz8_2
    try clear hcz8_3
    try clear hcz8_4
    try clear hfz10_0
    try clear hfz10_1
    try clear hfz10_2
    try clear hfz10_3
    try clear hfz10_4
    try clear hfz13_0
    try clear hfz13_1
    try clear hfz13_2
    try clear hfz13_3
    try clear hfz18_0
    try clear hfz18_1
    try clear hfz18_2
    try clear hfz18_3
    try clear hfz20_0
    try clear hfz20_1
    try clear hfz20_2
    try clear hfz20_3
    try clear hfz20_4
    try clear hfz5_0
    try clear hfz5_1
    try clear hfz5_2
    try clear hfz5_3
    try clear hfz5_4
    try clear hfz8_0
    try clear hfz8_1
    try clear hfz8_2
    try clear hfz8_3
    try clear hfz8_4
    try clear p2
    obtain ⟨kq, x3_15, HA, HJ15, HO_3, BK216, BK218, HB⟩ := hcut
    cases kq with
    | zero => exact absurd HA.out (by simp [wide_Text.j1])
    | succ kj15 =>
     have H := HA.out
     clear HA
     simp only [wide_Text.j1] at H
     have H' := Aside0.mk H
     clear H
     obtain ⟨Ao24, co24, eo24⟩ := Kd.R_slice HO_3.out
     subst eo24
     go_wp2
     go_loopg [7, 8] kj15 (fun kq v7 v8 w' => ∃ (x3_3 : List Int) (x7_3 : Int) (x8_3 : Int), v7 = .int .i64 x7_3 ∧ v8 = .int .i64 x8_3 ∧ Aside0 (wide_Text.l1 kq x3_3 x7_3 x8_3 = some r) ∧ Aside0 (kq ≤ kj15) ∧ Aside0 (Kd.R (Kd.int .u8) 5 w' w.heap.size (fun _ => True) (.slice Ao24 x3_15.length co24) x3_3) ∧ Aside0 (w'.heap[gb216]? = some (.cells #[.bool a0_0, .int .u64 a0_1, .int .u64 a0_2, .int .u64 a0_3, .int .u64 a0_4] 27 (0, 0))) ∧ Aside0 (w'.heap[gb218]? = some (.cells #[.int .u64 x219000_1, .int .u64 x219001_1, .int .u64 x219002_1, .int .u64 x219003_1] 25 (0, 0))) ∧ Aside0 (Below w.heap.size w w'))
     case atStart => exact ⟨(x3_15), (0), (wrap64 ((x3_15.length : Int) - 1)), (by first | rfl | (simp; done) | (simp [*]; done)), (by first | rfl | (simp; done) | (simp [*]; done)), H', ⟨Nat.le_refl _⟩, ⟨by (with_reducible repeat (first | apply Kd.R_alloc | apply Kd.R_drewN | apply Kd.R_drew)); exact HO_3.out⟩, ⟨by (with_reducible repeat (first | refine cn ?_ _ | refine cd ?_ | refine ca ?_ _)); exact BK216.out⟩, ⟨by (with_reducible repeat (first | refine cn ?_ _ | refine cd ?_ | refine ca ?_ _)); exact BK218.out⟩, ⟨by repeat (first | (with_reducible first | exact HB.out | apply qa | apply qn | apply qd | refine qs ?_ GE216.out | refine qs ?_ GE218.out) | exact HB.out)⟩⟩
     case round =>
      clear H'
      try clear c1
      try clear c2
      try clear p2
      try clear c3
      try clear c6
      try clear p6
      try clear c12
      try clear c15
      try clear c17
      try clear c21
      try clear c22
      try clear hcz10_0
      try clear hcz10_1
      try clear hcz10_2
      try clear hcz10_3
      try clear hcz10_4
      try clear hcz13_0
      try clear hcz13_1
      try clear hcz13_2
      try clear hcz13_3
      try clear hcz18_0
      try clear hcz18_1
      try clear hcz18_2
      try clear hcz18_3
      try clear hcz20_0
      try clear hcz20_1
      try clear hcz20_2
      try clear hcz20_3
      try clear hcz20_4
      try clear hcz5_0
      try clear hcz5_1
      try clear hcz5_2
      try clear hcz5_3
      try clear hcz5_4
      try clear hcz8_0
      try clear hcz8_1
      try clear hcz8_2
      try clear hcz8_3
      try clear hcz8_4
      try clear hfz10_0
      try clear hfz10_1
      try clear hfz10_2
      try clear hfz10_3
      try clear hfz10_4
      try clear hfz13_0
      try clear hfz13_1
      try clear hfz13_2
      try clear hfz13_3
      try clear hfz18_0
      try clear hfz18_1
      try clear hfz18_2
      try clear hfz18_3
      try clear hfz20_0
      try clear hfz20_1
      try clear hfz20_2
      try clear hfz20_3
      try clear hfz20_4
      try clear hfz5_0
      try clear hfz5_1
      try clear hfz5_2
      try clear hfz5_3
      try clear hfz5_4
      try clear hfz8_0
      try clear hfz8_1
      try clear hfz8_2
      try clear hfz8_3
      try clear hfz8_4
      try clear p2
      obtain ⟨x3_3, x7_3, x8_3, rfl, rfl, HA, HK3, HO_3, BK216, BK218, HB⟩ := hrel
      have hl3_3 := (Kd.R_reads' HO_3.out).1
      rw [hl3_3] at HO_3
      (try simp only [hl3_3])
      (try simp only [hl3_3] at BK216)
      (try simp only [hl3_3] at BK218)
      cases gk with
      | zero => exact absurd HA.out (by simp [wide_Text.l1])
      | succ k3 =>
       have H := HA.out
       clear HA
       simp only [wide_Text.l1] at H
       by_cases c25 : x7_3 < x8_3
       rotate_left
       ·rw [if_neg c25] at H
        have c25b0 : decide (x7_3 < x8_3) = false := decide_eq_false c25
        clear c25
        obtain rfl := Option.some.inj H
        have hcv35 := own_string (P := Try.prog) Try.underlying99 Try.underlying5 Try.underlying9 (Kd.own_of_R HO_3.out)
        go_wp2
        go_ret
        exact ⟨by first | rfl | (simp [errW_none, errW_some] <;> rfl) | (simp [*, errW_none, errW_some] <;> rfl), by repeat (first | (with_reducible first | exact HB.out | apply qa | apply qn | apply qd | refine qs ?_ GE216.out | refine qs ?_ GE218.out) | exact HB.out)⟩
       rw [if_pos c25] at H
       have c25b0 : decide (x7_3 < x8_3) = true := decide_eq_true c25
       clear c25
       by_cases c26 : 0 ≤ x8_3
       rotate_left
       ·rw [if_neg c26] at H
        exact absurd H (by simp)
       rw [if_pos c26] at H
       have c26b0 : decide (0 ≤ x8_3) = true := decide_eq_true c26
       clear c26
       by_cases c27 : x8_3 < (x3_3.length : Int)
       rotate_left
       ·rw [if_neg c27] at H
        exact absurd H (by simp)
       rw [if_pos c27] at H
       have c27b0 : decide (x8_3 < (x3_3.length : Int)) = true := decide_eq_true c27
       clear c27
       by_cases c28 : 0 ≤ x7_3
       rotate_left
       ·rw [if_neg c28] at H
        exact absurd H (by simp)
       rw [if_pos c28] at H
       have c28b0 : decide (0 ≤ x7_3) = true := decide_eq_true c28
       clear c28
       by_cases c29 : x7_3 < (x3_3.length : Int)
       rotate_left
       ·rw [if_neg c29] at H
        exact absurd H (by simp)
       rw [if_pos c29] at H
       have c29b0 : decide (x7_3 < (x3_3.length : Int)) = true := decide_eq_true c29
       clear c29
       obtain ⟨y238, hy238⟩ : ∃ y_ : List Int, y_ = (x3_3.set (x7_3 : Int).toNat (rd x3_3 x8_3)) := ⟨_, rfl⟩
       replace H : (wide_Text.l1 k3 (y238.set (x8_3 : Int).toNat (rd x3_3 x7_3)) (wrap64 (x7_3 + 1)) (wrap64 (x8_3 - 1))) = some r := by first | (rw [hy238]; with_reducible exact H) | (have H2_ := (Option.bind_some _ _).symm.trans H; rw [hy238]; with_reducible exact H2_) | (have H2_ := (Option.bind_some _ _).symm.trans H; with_reducible exact H2_) | with_reducible exact H | (rw [hy238]; exact H) | exact H
       have Ny238 := Aside0.mk hy238
       clear hy238
       obtain ⟨y239, hy239⟩ : ∃ y_ : List Int, y_ = (y238.set (x8_3 : Int).toNat (rd x3_3 x7_3)) := ⟨_, rfl⟩
       replace H : (wide_Text.l1 k3 y239 (wrap64 (x7_3 + 1)) (wrap64 (x8_3 - 1))) = some r := by first | (rw [hy239]; with_reducible exact H) | (have H2_ := (Option.bind_some _ _).symm.trans H; rw [hy239]; with_reducible exact H2_) | (have H2_ := (Option.bind_some _ _).symm.trans H; with_reducible exact H2_) | with_reducible exact H | (rw [hy239]; exact H) | exact H
       have Ny239 := Aside0.mk hy239
       clear hy239
       have H' := Aside0.mk H
       clear H
       try go_wp2
       have n0_ := Aside0.mk (Kd.R_drew HO_3.out)
       have n1_ := Aside0.mk (blk_drew BK216.out)
       have n2_ := Aside0.mk (blk_drew BK218.out)
       have n3_ := Aside0.mk (below_drew1 HB.out)
       clear HO_3
       clear BK216
       clear BK218
       clear HB
       have HO_3 := n0_
       have BK216 := n1_
       have BK218 := n2_
       have HB := n3_
       clear n0_ n1_ n2_ n3_
       have p236 : 0 ≤ (x8_3 : Int) := of_decide_eq_true (by first | (with_reducible assumption) | assumption)
       have q236 : x8_3 < (x3_3.length : Int) := of_decide_eq_true (by first | (with_reducible assumption) | assumption)
       obtain ⟨ad236, e236, hx236_0⟩ := Kd.at_int (Kd.R_reads' HO_3.out).2.2 x8_3 p236 q236
       cases e236
       replace p236 := eq_true p236
       replace q236 := eq_true q236
       have p237 : 0 ≤ (x7_3 : Int) := of_decide_eq_true (by first | (with_reducible assumption) | assumption)
       have q237 : x7_3 < (x3_3.length : Int) := of_decide_eq_true (by first | (with_reducible assumption) | assumption)
       obtain ⟨ad237, e237, hx237_0⟩ := Kd.at_int (Kd.R_reads' HO_3.out).2.2 x7_3 p237 q237
       obtain rfl : ad236 = ad237 := (by injection e237)
       replace p237 := eq_true p237
       replace q237 := eq_true q237
       have p30 : 0 ≤ (x7_3 : Int) := of_decide_eq_true (by first | (with_reducible assumption) | assumption)
       have q30 : (x7_3 : Int) < ((x3_3.length : Int) : Int) := of_decide_eq_true (by first | (with_reducible assumption) | assumption)
       obtain ⟨go30, co30, eo30, gb30, gl30, cl30, HG30⟩ := Kd.R_form HO_3.out (by omega)
       (first | cases eo30 | (injection eo30 with ea_ en_ ec_; (first | subst ea_ | (injection ea_ with ea_; subst ea_)); subst ec_; clear en_))
       have GB30 := Aside0.mk gb30
       have GG30 := Aside0.mk HG30
       clear gb30 gl30 HG30
       (first | simp only [add_plain] at hx236_0 | skip)
       (first | simp only [add_plain] at hx237_0 | skip)
       obtain ⟨hx30_0, hf30_0⟩ := Kd.R_celln 0 HO_3.out (x7_3 : Int) p30 q30
       replace p30 := eq_true p30
       replace q30 := eq_true q30
       have HP33 := Kd.R_putn HO_3.out (x7_3 : Int) (rd x3_3 x8_3)
       rw [← Ny238.out] at HP33
       have HQ33 := Aside0.mk HP33
       clear HP33
       have p31 : 0 ≤ (x8_3 : Int) := of_decide_eq_true (by first | (with_reducible assumption) | assumption)
       have q31 : (x8_3 : Int) < ((x3_3.length : Int) : Int) := of_decide_eq_true (by first | (with_reducible assumption) | assumption)
       obtain ⟨hx31_0, hf31_0⟩ := Kd.R_celln 0 HQ33.out (x8_3 : Int) p31 q31
       replace p31 := eq_true p31
       replace q31 := eq_true q31
       have HP34 := Kd.R_putn HQ33.out (x8_3 : Int) (rd x3_3 x7_3)
       rw [← Ny239.out] at HP34
       have HQ34 := Aside0.mk HP34
       clear HP34
       refine start_ (n := 16) (S := fun w' => w'.cell? ⟨go30, (x8_3).toNat, none⟩ = some (.int .u8 (rd x3_3 x8_3)) ∧ w'.cell? ⟨go30, (x7_3).toNat, none⟩ = some (.int .u8 (rd x3_3 x7_3))) (ds := [13, 15]) #[Ff, Ff, Ff, Ff, Ff, Ff, Ff, Ff, Ff, Ff, Ff, Ff, Ff, Ff, Ff, Ff] (by kernel_rfl) rfl rfl ⟨hx236_0, hx237_0⟩ (fun hHeld => ?_); refine with_tabW wide_Text.tab14 wide_Text.bits14 (fun HT_ HW_ => ?_)
       generalize wr.drew = w32 at HO_3 BK216 BK218 HB GG30 HQ33 HQ34 hf30_0 hf31_0 hx236_0 hx237_0 hx30_0 hx31_0 hHeld ⊢
       refine pure_ (i := 0) (N := some 46) (v := ?_) (a' := ?_) #[Tt, Ff, Ff, Ff, Ff, Ff, Ff, Ff, Ff, Ff, Ff, Ff, Ff, Ff, Ff, Ff] rfl rfl (any_of HT_.out (by kernel_rfl)) (fun _ _ _ h => h) (Or.inl ⟨by rfl, ?_⟩) ?_ ?_
       rotate_left
       ·intro w'
        go_simp
        with_reducible rfl
       rotate_left
       ·simp only [Act.put, List.setIfInBounds_toArray, List.set_cons_zero, List.set_cons_succ, i64_w, i32_w]
        rfl
       refine pure_ (i := 1) (N := some 47) (v := ?_) (a' := ?_) #[Tt, Tt, Ff, Ff, Ff, Ff, Ff, Ff, Ff, Ff, Ff, Ff, Ff, Ff, Ff, Ff] rfl rfl (any_of HT_.out (by kernel_rfl)) (fun _ _ _ h => h) (Or.inl ⟨by rfl, ?_⟩) ?_ ?_
       rotate_left
       ·intro w'
        go_simp
        with_reducible rfl
       rotate_left
       ·simp only [Act.put, List.setIfInBounds_toArray, List.set_cons_zero, List.set_cons_succ, i64_w, i32_w]
        rfl
       refine pure_ (i := 2) (N := some 48) (v := ?_) (a' := ?_) #[Tt, Tt, Tt, Ff, Ff, Ff, Ff, Ff, Ff, Ff, Ff, Ff, Ff, Ff, Ff, Ff] rfl rfl (any_of HT_.out (by kernel_rfl)) (fun _ _ _ h => h) (Or.inl ⟨by rfl, ?_⟩) ?_ ?_
       rotate_left
       ·intro w'
        go_simp
        with_reducible rfl
       rotate_left
       ·simp only [Act.put, List.setIfInBounds_toArray, List.set_cons_zero, List.set_cons_succ, i64_w, i32_w]
        rfl
       refine pure_ (i := 3) (N := some 49) (v := ?_) (a' := ?_) #[Tt, Tt, Tt, Tt, Ff, Ff, Ff, Ff, Ff, Ff, Ff, Ff, Ff, Ff, Ff, Ff] rfl rfl (any_of HT_.out (by kernel_rfl)) (fun _ _ _ h => h) (Or.inl ⟨by rfl, ?_⟩) ?_ ?_
       rotate_left
       ·intro w'
        go_simp
        with_reducible rfl
       rotate_left
       ·simp only [Act.put, List.setIfInBounds_toArray, List.set_cons_zero, List.set_cons_succ, i64_w, i32_w]
        rfl
       refine pure_ (i := 4) (N := some 50) (v := ?_) (a' := ?_) #[Tt, Tt, Tt, Tt, Tt, Ff, Ff, Ff, Ff, Ff, Ff, Ff, Ff, Ff, Ff, Ff] rfl rfl (any_of HT_.out (by kernel_rfl)) (fun _ _ _ h => h) (Or.inl ⟨by rfl, ?_⟩) ?_ ?_
       rotate_left
       ·intro w'
        go_simp
        with_reducible rfl
       rotate_left
       ·simp only [Act.put, List.setIfInBounds_toArray, List.set_cons_zero, List.set_cons_succ, i64_w, i32_w]
        rfl
       refine pure_ (i := 5) (N := some 51) (v := ?_) (a' := ?_) #[Tt, Tt, Tt, Tt, Tt, Tt, Ff, Ff, Ff, Ff, Ff, Ff, Ff, Ff, Ff, Ff] rfl rfl (any_of HT_.out (by kernel_rfl)) (fun _ _ _ h => h) (Or.inl ⟨by rfl, ?_⟩) ?_ ?_
       rotate_left
       ·intro w'
        go_simp
        with_reducible rfl
       rotate_left
       ·simp only [Act.put, List.setIfInBounds_toArray, List.set_cons_zero, List.set_cons_succ, i64_w, i32_w]
        rfl
       refine pure_ (i := 6) (N := some 52) (v := ?_) (a' := ?_) #[Tt, Tt, Tt, Tt, Tt, Tt, Tt, Ff, Ff, Ff, Ff, Ff, Ff, Ff, Ff, Ff] rfl rfl (any_of HT_.out (by kernel_rfl)) (fun _ _ _ h => h) (Or.inl ⟨by rfl, ?_⟩) ?_ ?_
       rotate_left
       ·intro w'
        go_simp
        with_reducible rfl
       rotate_left
       ·simp only [Act.put, List.setIfInBounds_toArray, List.set_cons_zero, List.set_cons_succ, i64_w, i32_w]
        rfl
       refine pure_ (i := 8) (N := some 54) (v := ?_) (a' := ?_) #[Tt, Tt, Tt, Tt, Tt, Tt, Tt, Ff, Tt, Ff, Ff, Ff, Ff, Ff, Ff, Ff] rfl rfl (any_of HT_.out (by kernel_rfl)) (fun _ _ _ h => h) (Or.inl ⟨by rfl, ?_⟩) ?_ ?_
       rotate_left
       ·intro w'
        go_simp
        with_reducible rfl
       rotate_left
       ·simp only [Act.put, List.setIfInBounds_toArray, List.set_cons_zero, List.set_cons_succ, i64_w, i32_w]
        rfl
       refine pure_ (i := 9) (N := some 55) (v := ?_) (a' := ?_) #[Tt, Tt, Tt, Tt, Tt, Tt, Tt, Ff, Tt, Tt, Ff, Ff, Ff, Ff, Ff, Ff] rfl rfl (any_of HT_.out (by kernel_rfl)) (fun _ _ _ h => h) (Or.inl ⟨by rfl, ?_⟩) ?_ ?_
       rotate_left
       ·intro w'
        go_simp
        with_reducible rfl
       rotate_left
       ·simp only [Act.put, List.setIfInBounds_toArray, List.set_cons_zero, List.set_cons_succ, i64_w, i32_w]
        rfl
       refine pure_ (i := 10) (N := some 56) (v := ?_) (a' := ?_) #[Tt, Tt, Tt, Tt, Tt, Tt, Tt, Ff, Tt, Tt, Tt, Ff, Ff, Ff, Ff, Ff] rfl rfl (any_of HT_.out (by kernel_rfl)) (fun _ _ _ h => h) (Or.inl ⟨by rfl, ?_⟩) ?_ ?_
       rotate_left
       ·intro w'
        go_simp
        with_reducible rfl
       rotate_left
       ·simp only [Act.put, List.setIfInBounds_toArray, List.set_cons_zero, List.set_cons_succ, i64_w, i32_w]
        rfl
       refine take_ (i := 7) (N := some 53) (v := ?_) (a' := ?_) #[Tt, Tt, Tt, Tt, Tt, Tt, Tt, Tt, Tt, Tt, Tt, Ff, Ff, Ff, Ff, Ff] rfl rfl (take_ofW HT_.out HW_.out (by kernel_rfl)) (fun _ _ _ h => h) (Or.inl ⟨by rfl, ?_⟩) hHeld ?_ ?_
       rotate_left
       ·rintro w' ⟨s0, s1⟩
        go_simp
        with_reducible rfl
       rotate_left
       ·simp only [Act.put, List.setIfInBounds_toArray, List.set_cons_zero, List.set_cons_succ, i64_w, i32_w]
        rfl
       refine take_ (i := 11) (N := some 57) (v := ?_) (a' := ?_) #[Tt, Tt, Tt, Tt, Tt, Tt, Tt, Tt, Tt, Tt, Tt, Tt, Ff, Ff, Ff, Ff] rfl rfl (take_ofW HT_.out HW_.out (by kernel_rfl)) (fun _ _ _ h => h) (Or.inl ⟨by rfl, ?_⟩) hHeld ?_ ?_
       rotate_left
       ·rintro w' ⟨s0, s1⟩
        go_simp
        with_reducible rfl
       rotate_left
       ·simp only [Act.put, List.setIfInBounds_toArray, List.set_cons_zero, List.set_cons_succ, i64_w, i32_w]
        rfl
       refine pure_ (i := 12) (N := some 58) (v := ?_) (a' := ?_) #[Tt, Tt, Tt, Tt, Tt, Tt, Tt, Tt, Tt, Tt, Tt, Tt, Tt, Ff, Ff, Ff] rfl rfl (any_of HT_.out (by kernel_rfl)) (fun _ _ _ h => h) (Or.inl ⟨by rfl, ?_⟩) ?_ ?_
       rotate_left
       ·intro w'
        go_simp
        with_reducible rfl
       rotate_left
       ·simp only [Act.put, List.setIfInBounds_toArray, List.set_cons_zero, List.set_cons_succ, i64_w, i32_w]
        rfl
       refine last_ (i := 13) (N := none) #[Tt, Tt, Tt, Tt, Tt, Tt, Tt, Tt, Tt, Tt, Tt, Tt, Tt, Tt, Ff, Ff] rfl rfl (one_of HT_.out (by kernel_rfl)) (by decide) (fun K hK => ?_)
       refine skip_ (w1 := ?_) (by rfl) rfl ?_ ?_
       rotate_left
       ·go_simp
        rfl
       refine hK.out _ _ ?_
       clear hK K
       refine pure_ (i := 14) (N := some 59) (v := ?_) (a' := ?_) #[Tt, Tt, Tt, Tt, Tt, Tt, Tt, Tt, Tt, Tt, Tt, Tt, Tt, Tt, Tt, Ff] rfl rfl (any_of HT_.out (by kernel_rfl)) (fun _ _ _ h => h) (Or.inl ⟨by rfl, ?_⟩) ?_ ?_
       rotate_left
       ·intro w'
        go_simp
        with_reducible rfl
       rotate_left
       ·simp only [Act.put, List.setIfInBounds_toArray, List.set_cons_zero, List.set_cons_succ, i64_w, i32_w]
        rfl
       refine last_ (i := 15) (N := none) #[Tt, Tt, Tt, Tt, Tt, Tt, Tt, Tt, Tt, Tt, Tt, Tt, Tt, Tt, Tt, Tt] rfl rfl (one_of HT_.out (by kernel_rfl)) (by decide) (fun K hK => ?_)
       refine skip_ (w1 := ?_) (by rfl) rfl ?_ ?_
       rotate_left
       ·go_simp
        rfl
       refine hK.out _ _ ?_
       clear hK K
       refine done_ (done_of HT_.out (by kernel_rfl)) ?_
       try go_wp2
       (try simp only [← hl3_3])
       go_roundg k3
       case measure => have := HK1.out; have := HJ15.out; have := HK3.out; omega
       case rel => exact ⟨(y239), (wrap64 (x7_3 + 1)), (wrap64 (x8_3 - 1)), (by first | rfl | (simp; done) | (simp [*]; done)), (by first | rfl | (simp; done) | (simp [*]; done)), H', ⟨by have := HK1.out; have := HJ15.out; have := HK3.out; omega⟩, ⟨by (try simp only [hl3_3]); (with_reducible repeat (first | apply Kd.R_alloc | apply Kd.R_drewN | apply Kd.R_drew)); exact HQ34.out⟩, ⟨by (try simp only [hl3_3]); (with_reducible repeat (first | refine cn ?_ _ | refine cd ?_ | refine ca ?_ _)); refine blk_far ?_ (by have h_ := Kd.R_ne HO_3.out BK216.out (by decide); intro e_; exact h_ (by rw [e_]; rfl)) _; (with_reducible repeat (first | refine cn ?_ _ | refine cd ?_ | refine ca ?_ _)); refine blk_far ?_ (by have h_ := Kd.R_ne HO_3.out BK216.out (by decide); intro e_; exact h_ (by rw [e_]; rfl)) _; (with_reducible repeat (first | refine cn ?_ _ | refine cd ?_ | refine ca ?_ _)); exact BK216.out⟩, ⟨by (try simp only [hl3_3]); (with_reducible repeat (first | refine cn ?_ _ | refine cd ?_ | refine ca ?_ _)); refine blk_far ?_ (by have h_ := Kd.R_ne HO_3.out BK218.out (by decide); intro e_; exact h_ (by rw [e_]; rfl)) _; (with_reducible repeat (first | refine cn ?_ _ | refine cd ?_ | refine ca ?_ _)); refine blk_far ?_ (by have h_ := Kd.R_ne HO_3.out BK218.out (by decide); intro e_; exact h_ (by rw [e_]; rfl)) _; (with_reducible repeat (first | refine cn ?_ _ | refine cd ?_ | refine ca ?_ _)); exact BK218.out⟩, ⟨by repeat (first | (with_reducible first | exact HB.out | apply qa | apply qn | apply qd | refine qs ?_ GB30.out | refine qs ?_ GB30.out | refine qs ?_ GE216.out | refine qs ?_ GE218.out) | exact HB.out)⟩⟩
end Go.Proofs.Ytmpbbodafenonaa.MT

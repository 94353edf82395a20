/- A function of the given program told as a Lean function, its contract proved; no condition. -/
import Derived.Test.YtmpbbodafenonaaMT0
import Derived.Test.YtmpbbodafenonaaMT13
import Derived.Test.YtmpbbodafenonaaMT14
import Derived.Test.YtmpbbodafenonaaMT16
import Derived.Test.YtmpbbodafenonaaMT22
import Derived.Test.YtmpbbodafenonaaMT26
import Derived.Test.YtmpbbodafenonaaMT27
namespace Go.Proofs.Ytmpbbodafenonaa.MT
open Go.RowKit Go.Proofs.YtmpbbodafenonaaW.PrintWords Go.Proofs.YtmpbbodafenonaaW.PrintLast Go.Proofs.YtmpbbodafenonaaW.PrintMore
attribute [local go_sem] max2_int min2_int max_two min_two max_three min_three max_four min_four   -- for this text's walks alone
set_option linter.unusedVariables false
set_option linter.unusedSimpArgs false
/-! ### parquetref01_Parse: function 32 -/
mutual
def parquetref01_Parse.l0 : Nat → ByteArray → Int → Bool → List Int → Option (Bool × Int × Int × Int × Int × Int)
 | 0, _, _, _, _ => none
 | k + 1, x0, x5, x501000, x501001 => if x5 < (x0.size : Int) then (if 0 ≤ x5 then (if (bt x0 x5) = 45 then (parquetref01_Parse.j1 k x0 x5 (x5 == 0) x501000 x501001) else (parquetref01_Parse.j1 k x0 x5 false x501000 x501001)) else (none)) else (if (x0.size : Int) > 0 then (if 0 < (x0.size : Int) then (parquetref01_Parse.j3 k x0 ((bt x0 0) == 45) x501000 x501001) else (none)) else (parquetref01_Parse.j3 k x0 false x501000 x501001))
def parquetref01_Parse.j1 : Nat → ByteArray → Int → Bool → Bool → List Int → Option (Bool × Int × Int × Int × Int × Int)
 | 0, _, _, _, _, _ => none
 | k + 1, x0, x5, x20, x501000, x501001 => if x20 = true then (parquetref01_Parse.l0 k x0 (wrap64 (x5 + 1)) x501000 x501001) else (if 0 ≤ x5 then (if x5 < (x0.size : Int) then (if (bt x0 x5) < 48 then (parquetref01_Parse.j2 k x0 x5 true x501000 x501001) else (parquetref01_Parse.j2 k x0 x5 (decide ((bt x0 x5) > 57)) x501000 x501001)) else (none)) else (none))
def parquetref01_Parse.j2 : Nat → ByteArray → Int → Bool → Bool → List Int → Option (Bool × Int × Int × Int × Int × Int)
 | 0, _, _, _, _, _ => none
 | k + 1, x0, x5, x30, x501000, x501001 => if x30 = true then (some (false, 0, 0, 0, 0, 11)) else ((parquetref01_Small.f k 10).bind fun bt501 => ((parquetref01_Num_Times.f k x501000 x501001 bt501.1 bt501.2).bind fun bt505 => (if 0 ≤ x5 then (if x5 < (x0.size : Int) then ((parquetref01_Small.f k (wrap64 ((wrap64 (bt x0 x5)) - 48))).bind fun bt509 => ((parquetref01_Num_Plus.f k bt505.1 bt505.2 bt509.1 bt509.2).bind fun bt513 => (parquetref01_Parse.l0 k x0 (wrap64 (x5 + 1)) bt513.1 bt513.2))) else (none)) else (none))))
def parquetref01_Parse.j3 : Nat → ByteArray → Bool → Bool → List Int → Option (Bool × Int × Int × Int × Int × Int)
 | 0, _, _, _, _ => none
 | k + 1, x0, x49, x501000, x501001 => if x49 = true then ((parquetref01_Num_Neg.f x501000 x501001).bind fun bt517 => (parquetref01_Parse.j4 k x0 bt517.1 bt517.2)) else (parquetref01_Parse.j4 k x0 x501000 x501001)
def parquetref01_Parse.j4 : Nat → ByteArray → Bool → List Int → Option (Bool × Int × Int × Int × Int × Int)
 | 0, _, _, _ => none
 | k + 1, x0, x501000, x501001 => (parquetref01_Num_Text.f k x501000 x501001).bind fun t521 => (if t521.toList = x0.toList then ((parquetref01_told.f x501000 x501001).bind fun bt522 => (some (bt522.1, bt522.2.1, bt522.2.2.1, bt522.2.2.2.1, bt522.2.2.2.2.1, bt522.2.2.2.2.2))) else (some (false, 0, 0, 0, 0, 11)))
end
def parquetref01_Parse.f (k : Nat) (a0 : ByteArray) : Option (Bool × Int × Int × Int × Int × Int) := parquetref01_Parse.l0 k a0 0 false ([] : List Int)
theorem parquetref01_Parse.mono_l : ∀ k, (∀ y0 y1 y2 y3, LeO (parquetref01_Parse.l0 k y0 y1 y2 y3) (parquetref01_Parse.l0 (k + 1) y0 y1 y2 y3)) ∧ (∀ y0 y1 y2 y3 y4, LeO (parquetref01_Parse.j1 k y0 y1 y2 y3 y4) (parquetref01_Parse.j1 (k + 1) y0 y1 y2 y3 y4)) ∧ (∀ y0 y1 y2 y3 y4, LeO (parquetref01_Parse.j2 k y0 y1 y2 y3 y4) (parquetref01_Parse.j2 (k + 1) y0 y1 y2 y3 y4)) ∧ (∀ y0 y1 y2 y3, LeO (parquetref01_Parse.j3 k y0 y1 y2 y3) (parquetref01_Parse.j3 (k + 1) y0 y1 y2 y3)) ∧ (∀ y0 y1 y2, LeO (parquetref01_Parse.j4 k y0 y1 y2) (parquetref01_Parse.j4 (k + 1) y0 y1 y2))
 | 0 => ⟨fun _ _ _ _ r h => by simp [parquetref01_Parse.l0] at h, fun _ _ _ _ _ r h => by simp [parquetref01_Parse.j1] at h, fun _ _ _ _ _ r h => by simp [parquetref01_Parse.j2] at h, fun _ _ _ _ r h => by simp [parquetref01_Parse.j3] at h, fun _ _ _ r h => by simp [parquetref01_Parse.j4] at h⟩
 | k + 1 => by
  obtain ⟨ih0, ih1, ih2, ih3, ih4⟩ := parquetref01_Parse.mono_l k
  refine ⟨?_, ?_, ?_, ?_, ?_⟩
  ·intro y0 y1 y2 y3
   unfold parquetref01_Parse.l0
   repeat' first
   | (with_reducible exact ih0 _ _ _ _)
   | (with_reducible exact ih1 _ _ _ _ _)
   | (with_reducible exact ih2 _ _ _ _ _)
   | (with_reducible exact ih3 _ _ _ _)
   | (with_reducible exact ih4 _ _ _)
   | (with_reducible exact parquetref01_Num_Plus.mono _ _ _ _ _)
   | (with_reducible exact parquetref01_Num_Text.mono _ _ _)
   | (with_reducible exact parquetref01_Num_Times.mono _ _ _ _ _)
   | (with_reducible exact parquetref01_Small.mono _ _)
   | (with_reducible exact LeO.refl _)
   | (with_reducible exact LeO.none _)
   | (with_reducible refine LeO.ite ?_ ?_)
   | (with_reducible refine LeO.bind ?_ (fun _ => ?_))
   | exact ih0 _ _ _ _
   | exact ih1 _ _ _ _ _
   | exact ih2 _ _ _ _ _
   | exact ih3 _ _ _ _
   | exact ih4 _ _ _
   | exact parquetref01_Num_Plus.mono _ _ _ _ _
   | exact parquetref01_Num_Text.mono _ _ _
   | exact parquetref01_Num_Times.mono _ _ _ _ _
   | exact parquetref01_Small.mono _ _
   | exact LeO.none _
   | refine LeO.ite ?_ ?_
   | refine LeO.bind ?_ (fun _ => ?_)
  ·intro y0 y1 y2 y3 y4
   unfold parquetref01_Parse.j1
   repeat' first
   | (with_reducible exact ih0 _ _ _ _)
   | (with_reducible exact ih1 _ _ _ _ _)
   | (with_reducible exact ih2 _ _ _ _ _)
   | (with_reducible exact ih3 _ _ _ _)
   | (with_reducible exact ih4 _ _ _)
   | (with_reducible exact parquetref01_Num_Plus.mono _ _ _ _ _)
   | (with_reducible exact parquetref01_Num_Text.mono _ _ _)
   | (with_reducible exact parquetref01_Num_Times.mono _ _ _ _ _)
   | (with_reducible exact parquetref01_Small.mono _ _)
   | (with_reducible exact LeO.refl _)
   | (with_reducible exact LeO.none _)
   | (with_reducible refine LeO.ite ?_ ?_)
   | (with_reducible refine LeO.bind ?_ (fun _ => ?_))
   | exact ih0 _ _ _ _
   | exact ih1 _ _ _ _ _
   | exact ih2 _ _ _ _ _
   | exact ih3 _ _ _ _
   | exact ih4 _ _ _
   | exact parquetref01_Num_Plus.mono _ _ _ _ _
   | exact parquetref01_Num_Text.mono _ _ _
   | exact parquetref01_Num_Times.mono _ _ _ _ _
   | exact parquetref01_Small.mono _ _
   | exact LeO.none _
   | refine LeO.ite ?_ ?_
   | refine LeO.bind ?_ (fun _ => ?_)
  ·intro y0 y1 y2 y3 y4
   unfold parquetref01_Parse.j2
   repeat' first
   | (with_reducible exact ih0 _ _ _ _)
   | (with_reducible exact ih1 _ _ _ _ _)
   | (with_reducible exact ih2 _ _ _ _ _)
   | (with_reducible exact ih3 _ _ _ _)
   | (with_reducible exact ih4 _ _ _)
   | (with_reducible exact parquetref01_Num_Plus.mono _ _ _ _ _)
   | (with_reducible exact parquetref01_Num_Text.mono _ _ _)
   | (with_reducible exact parquetref01_Num_Times.mono _ _ _ _ _)
   | (with_reducible exact parquetref01_Small.mono _ _)
   | (with_reducible exact LeO.refl _)
   | (with_reducible exact LeO.none _)
   | (with_reducible refine LeO.ite ?_ ?_)
   | (with_reducible refine LeO.bind ?_ (fun _ => ?_))
   | exact ih0 _ _ _ _
   | exact ih1 _ _ _ _ _
   | exact ih2 _ _ _ _ _
   | exact ih3 _ _ _ _
   | exact ih4 _ _ _
   | exact parquetref01_Num_Plus.mono _ _ _ _ _
   | exact parquetref01_Num_Text.mono _ _ _
   | exact parquetref01_Num_Times.mono _ _ _ _ _
   | exact parquetref01_Small.mono _ _
   | exact LeO.none _
   | refine LeO.ite ?_ ?_
   | refine LeO.bind ?_ (fun _ => ?_)
  ·intro y0 y1 y2 y3
   unfold parquetref01_Parse.j3
   repeat' first
   | (with_reducible exact ih0 _ _ _ _)
   | (with_reducible exact ih1 _ _ _ _ _)
   | (with_reducible exact ih2 _ _ _ _ _)
   | (with_reducible exact ih3 _ _ _ _)
   | (with_reducible exact ih4 _ _ _)
   | (with_reducible exact parquetref01_Num_Plus.mono _ _ _ _ _)
   | (with_reducible exact parquetref01_Num_Text.mono _ _ _)
   | (with_reducible exact parquetref01_Num_Times.mono _ _ _ _ _)
   | (with_reducible exact parquetref01_Small.mono _ _)
   | (with_reducible exact LeO.refl _)
   | (with_reducible exact LeO.none _)
   | (with_reducible refine LeO.ite ?_ ?_)
   | (with_reducible refine LeO.bind ?_ (fun _ => ?_))
   | exact ih0 _ _ _ _
   | exact ih1 _ _ _ _ _
   | exact ih2 _ _ _ _ _
   | exact ih3 _ _ _ _
   | exact ih4 _ _ _
   | exact parquetref01_Num_Plus.mono _ _ _ _ _
   | exact parquetref01_Num_Text.mono _ _ _
   | exact parquetref01_Num_Times.mono _ _ _ _ _
   | exact parquetref01_Small.mono _ _
   | exact LeO.none _
   | refine LeO.ite ?_ ?_
   | refine LeO.bind ?_ (fun _ => ?_)
  ·intro y0 y1 y2
   unfold parquetref01_Parse.j4
   repeat' first
   | (with_reducible exact ih0 _ _ _ _)
   | (with_reducible exact ih1 _ _ _ _ _)
   | (with_reducible exact ih2 _ _ _ _ _)
   | (with_reducible exact ih3 _ _ _ _)
   | (with_reducible exact ih4 _ _ _)
   | (with_reducible exact parquetref01_Num_Plus.mono _ _ _ _ _)
   | (with_reducible exact parquetref01_Num_Text.mono _ _ _)
   | (with_reducible exact parquetref01_Num_Times.mono _ _ _ _ _)
   | (with_reducible exact parquetref01_Small.mono _ _)
   | (with_reducible exact LeO.refl _)
   | (with_reducible exact LeO.none _)
   | (with_reducible refine LeO.ite ?_ ?_)
   | (with_reducible refine LeO.bind ?_ (fun _ => ?_))
   | exact ih0 _ _ _ _
   | exact ih1 _ _ _ _ _
   | exact ih2 _ _ _ _ _
   | exact ih3 _ _ _ _
   | exact ih4 _ _ _
   | exact parquetref01_Num_Plus.mono _ _ _ _ _
   | exact parquetref01_Num_Text.mono _ _ _
   | exact parquetref01_Num_Times.mono _ _ _ _ _
   | exact parquetref01_Small.mono _ _
   | exact LeO.none _
   | refine LeO.ite ?_ ?_
   | refine LeO.bind ?_ (fun _ => ?_)
theorem parquetref01_Parse.mono : ∀ a0 k, LeO (parquetref01_Parse.f k a0) (parquetref01_Parse.f (k + 1) a0) := by
 intro a0 k
 obtain ⟨ih0, ih1, ih2, ih3, ih4⟩ := parquetref01_Parse.mono_l k
 unfold parquetref01_Parse.f
 repeat' first
   | (with_reducible exact ih0 _ _ _ _)
   | (with_reducible exact ih1 _ _ _ _ _)
   | (with_reducible exact ih2 _ _ _ _ _)
   | (with_reducible exact ih3 _ _ _ _)
   | (with_reducible exact ih4 _ _ _)
   | (with_reducible exact parquetref01_Num_Plus.mono _ _ _ _ _)
   | (with_reducible exact parquetref01_Num_Text.mono _ _ _)
   | (with_reducible exact parquetref01_Num_Times.mono _ _ _ _ _)
   | (with_reducible exact parquetref01_Small.mono _ _)
   | (with_reducible exact LeO.refl _)
   | (with_reducible exact LeO.none _)
   | (with_reducible refine LeO.ite ?_ ?_)
   | (with_reducible refine LeO.bind ?_ (fun _ => ?_))
   | exact ih0 _ _ _ _
   | exact ih1 _ _ _ _ _
   | exact ih2 _ _ _ _ _
   | exact ih3 _ _ _ _
   | exact ih4 _ _ _
   | exact parquetref01_Num_Plus.mono _ _ _ _ _
   | exact parquetref01_Num_Text.mono _ _ _
   | exact parquetref01_Num_Times.mono _ _ _ _ _
   | exact parquetref01_Small.mono _ _
   | exact LeO.none _
   | refine LeO.ite ?_ ?_
   | refine LeO.bind ?_ (fun _ => ?_)
def parquetref01_Parse.T8 : Bool × List (List Nat × List Nat) := (true, [([], []), ([], []), ([0, 1, 1], [0, 1]), ([], []), ([], []), ([3, 4], [3, 4]), ([5], [5]), ([6], [6]), ([7, 2], [7]), ([2, 8, 8], [2, 8]), ([9, 9, 0, 1, 2, 3, 4, 5, 6, 7, 8, 9], [9])])
def parquetref01_Parse.B8 : List Nat := [0, 0, 3, 0, 0, 24, 56, 120, 255, 511, 1023]
theorem parquetref01_Parse.tab8 : rtab .any (opsOf Try.f32 8) = parquetref01_Parse.T8 := by kernel_rfl
theorem parquetref01_Parse.bits8 : waitsOk parquetref01_Parse.T8.2 parquetref01_Parse.B8 = true := by kernel_rfl
set_option maxHeartbeats 8000000 in
set_option maxRecDepth 100000 in
theorem parquetref01_Parse.calls (k : Nat) (a0 : ByteArray) (r1 : Bool) (r2 : Int) (r3 : Int) (r4 : Int) (r5 : Int) (r6 : Int) (w : World) (h : parquetref01_Parse.f k a0 = some (r1, r2, r3, r4, r5, r6)) :
  Calls Try.prog 32 #[.string a0] w fun e w' => e = .returned (.tuple #[.agg #[.bool r1, .int .u64 r2, .int .u64 r3, .int .u64 r4, .int .u64 r5], .int .i64 r6]) ∧ Below w.heap.size w w' := by
 have hu27 := Try.underlying27
 have hu38 := Try.underlying38
 have HB := Aside0.mk (Below.refl w.heap.size w)
 have H : (parquetref01_Parse.l0 k a0 0 false ([] : List Int)) = some (r1, r2, r3, r4, r5, r6) := h
 clear h
 have H' := Aside0.mk H
 clear H
 go_enter Try.func32, Try.ntmps32
 go_wp2_with (first | ((with_reducible refine gate_dst (N := 2) rfl ?_); refine box_event ?hg (N := 2) ?hd (cs := #[.bool false, .int .u64 0, .int .u64 0, .int .u64 0, .int .u64 0]) (t := 27) ?hr ?_; (case hd => rfl); (case hg => rfl); (case hr => first | (go_simp; done) | (go_simp; rfl)); intro gb499 hg w2 hbox hb; have n0_ := Aside0.mk (below_step (by repeat (first | (with_reducible first | exact HB.out | apply qa | apply qn | apply qd) | exact HB.out)) hb); have n1_ := Aside0.mk (hbox); have n2_ := bgw HB hg; have n3_ := bgw HB hg; clear HB; have HB := n0_; have BK499 := n1_; have GW499 := n2_; have GE499 := n3_; clear n0_ n1_ n2_ n3_; clear hb hbox hg) | ((with_reducible refine gate_dst (N := 4) rfl ?_); refine box_event ?hg (N := 4) ?hd (cs := #[.bool false, .slice none 0 0]) (t := 38) ?hr ?_; (case hd => rfl); (case hg => rfl); (case hr => first | (go_simp; done) | (go_simp; rfl)); intro gb500 hg w3 hbox hb; have n0_ := bb BK499 hb; have n1_ := Aside0.mk (below_step (by repeat (first | (with_reducible first | exact HB.out | apply qa | apply qn | apply qd | refine qs ?_ GE499.out) | exact HB.out)) hb); have n2_ := Aside0.mk (hbox); have n3_ := bgw HB hg; have n4_ := bgw HB hg; have n5_ := bnl BK499 hg; have n6_ := bng BK499 hg; clear BK499; clear HB; have BK499 := n0_; have HB := n1_; have BK500 := n2_; have GW500 := n3_; have GE500 := n4_; have NB499_500 := n5_; have NB500_499 := n6_; clear n0_ n1_ n2_ n3_ n4_ n5_ n6_; clear hb hbox hg; have hnb4 := NB500_499.out; have hnc4 := NB499_500.out; obtain ⟨hcz5_0, hcz5_1⟩ := cl2 BK500.out; obtain ⟨hfz5_0, hfz5_1⟩ := fr2 BK500.out))
 go_loopg [5] k (fun kq v5 w' => ∃ (x5_1 : Int) (x500000_1 : Bool) (x500001_1 : Int) (x500002_1 : Int) (x500003_1 : Int) (x500004_1 : Int) (x501000_1 : Bool) (x501001_1 : List Int) (u501001 : Value), v5 = .int .i64 x5_1 ∧ Aside0 (parquetref01_Parse.l0 kq a0 x5_1 x501000_1 x501001_1 = some (r1, r2, r3, r4, r5, r6)) ∧ Aside0 (kq ≤ k) ∧ Aside0 (Kd.V (Kd.int .i64) 3 w' w.heap.size (fun k_ => k_ ≠ gb499 ∧ k_ ≠ gb500) u501001 x501001_1) ∧ Aside0 (w'.heap[gb499]? = some (.cells #[.bool x500000_1, .int .u64 x500001_1, .int .u64 x500002_1, .int .u64 x500003_1, .int .u64 x500004_1] 27 (0, 0))) ∧ Aside0 (w'.heap[gb500]? = some (.cells #[.bool x501000_1, u501001] 38 (0, 0))) ∧ Aside0 (Below w.heap.size w w'))
 case atStart => exact ⟨(0), (false), (0), (0), (0), (0), (false), (([] : List Int)), (.slice none 0 0), (by first | rfl | (simp; done) | (simp [*]; done)), H', ⟨Nat.le_refl _⟩, ⟨by first | exact Kd.V_nil _ _ _ _ _ | exact Kd.R_V (Kd.R_nil _ _ _ 0 _)⟩, ⟨by (with_reducible repeat (first | refine cn ?_ _ | refine cd ?_ | refine ca ?_ _)); refine blk_far ?_ NB499_500.out _; (with_reducible repeat (first | refine cn ?_ _ | refine cd ?_ | refine ca ?_ _)); refine blk_far ?_ NB499_500.out _; (with_reducible repeat (first | refine cn ?_ _ | refine cd ?_ | refine ca ?_ _)); exact BK499.out⟩, ⟨by (with_reducible repeat (first | refine cn ?_ _ | refine cd ?_ | refine ca ?_ _)); refine blk_put (cs := #[.bool false, .slice none 0 0]) ?_ 1 _ rfl; (with_reducible repeat (first | refine cn ?_ _ | refine cd ?_ | refine ca ?_ _)); refine blk_put (cs := #[.bool false, .slice none 0 0]) ?_ 0 _ rfl; (with_reducible repeat (first | refine cn ?_ _ | refine cd ?_ | refine ca ?_ _)); exact BK500.out⟩, ⟨by repeat (first | (with_reducible first | exact HB.out | apply qa | apply qn | apply qd | refine qs ?_ GE499.out | refine qs ?_ GE500.out) | exact HB.out)⟩⟩
 case round =>
  clear H'
  try clear p2
  try clear c3
  try clear c4
  try clear hcz5_0
  try clear hcz5_1
  try clear hfz5_0
  try clear hfz5_1
  obtain ⟨x5_1, x500000_1, x500001_1, x500002_1, x500003_1, x500004_1, x501000_1, x501001_1, u501001, rfl, HA, HK1, HO_501001, BK499, BK500, HB⟩ := hrel
  cases gk with
  | zero => exact absurd HA.out (by simp [parquetref01_Parse.l0])
  | succ k1 =>
   have H := HA.out
   clear HA
   simp only [parquetref01_Parse.l0] at H
   by_cases c6 : x5_1 < (a0.size : Int)
   ·rw [if_pos c6] at H
    have c6b0 : decide (x5_1 < (a0.size : Int)) = true := decide_eq_true c6
    clear c6
    have HC7 := Aside0.mk H
    clear H
    go_upto_region 5 with (fail)
    go_cut [20] (fun v20 wc => ∃ (kq : Nat) (x20_6 : Bool), v20 = .bool x20_6 ∧ Aside0 (parquetref01_Parse.j1 kq a0 x5_1 x20_6 x501000_1 x501001_1 = some (r1, r2, r3, r4, r5, r6)) ∧ Aside0 (kq ≤ k1) ∧ Aside0 (Kd.V (Kd.int .i64) 3 wc w.heap.size (fun k_ => k_ ≠ gb499 ∧ k_ ≠ gb500) u501001 x501001_1) ∧ Aside0 (wc.heap[gb499]? = some (.cells #[.bool x500000_1, .int .u64 x500001_1, .int .u64 x500002_1, .int .u64 x500003_1, .int .u64 x500004_1] 27 (0, 0))) ∧ Aside0 (wc.heap[gb500]? = some (.cells #[.bool x501000_1, u501001] 38 (0, 0))) ∧ Aside0 (Below w.heap.size w wc))
    case first =>
     have H := HC7.out
     clear HC7
     by_cases c8 : 0 ≤ x5_1
     ·rw [if_pos c8] at H
      have c8b0 : decide (0 ≤ x5_1) = true := decide_eq_true c8
      clear c8
      (first | rw [c8b0] | (simp only [i64_w, i32_w]; rw [c8b0]) | skip)
      by_cases c10 : (bt a0 x5_1) = 45
      ·rw [if_pos c10] at H
       have c10b0 : ((bt a0 x5_1) == 45) = true := beq_iff_eq.mpr c10
       have c10b1 : ((bt a0 x5_1) != 45) = false := bne_eq_false_iff_eq.mpr c10
       clear c10
       have H' := Aside0.mk H
       clear H
       have p9 : 0 ≤ (x5_1 : Int) := of_decide_eq_true (by first | (with_reducible assumption) | assumption)
       have q9 : x5_1 < (a0.size : Int) := of_decide_eq_true (by first | (with_reducible assumption) | assumption)
       have hx9 := bt_at a0 x5_1
       replace p9 := eq_true p9
       replace q9 := eq_true q9
       go_wp2
       go_meet
       case rel => exact ⟨_, ((x5_1 == 0)), (by first | rfl | (simp; done) | (simp [*]; done)), H', ⟨by have := HK1.out; first | omega | exact Nat.le_refl _⟩, ⟨by (with_reducible repeat (first | apply Kd.V_alloc | apply Kd.V_drewN | apply Kd.V_drew)); exact HO_501001.out⟩, ⟨by (with_reducible repeat (first | refine cn ?_ _ | refine cd ?_ | refine ca ?_ _)); exact BK499.out⟩, ⟨by (with_reducible repeat (first | refine cn ?_ _ | refine cd ?_ | refine ca ?_ _)); exact BK500.out⟩, ⟨by repeat (first | (with_reducible first | exact HB.out | apply qa | apply qn | apply qd | refine qs ?_ GE499.out | refine qs ?_ GE500.out) | exact HB.out)⟩⟩
      ·rw [if_neg c10] at H
       have c10b0 : ((bt a0 x5_1) == 45) = false := beq_eq_false_iff_ne.mpr c10
       have c10b1 : ((bt a0 x5_1) != 45) = true := bne_iff_ne.mpr c10
       have H' := Aside0.mk H
       clear H
       have p9 : 0 ≤ (x5_1 : Int) := of_decide_eq_true (by first | (with_reducible assumption) | assumption)
       have q9 : x5_1 < (a0.size : Int) := of_decide_eq_true (by first | (with_reducible assumption) | assumption)
       have hx9 := bt_at a0 x5_1
       replace p9 := eq_true p9
       replace q9 := eq_true q9
       go_wp2
       go_meet
       case rel => exact ⟨_, (false), (by first | rfl | (simp; done) | (simp [*]; done)), H', ⟨by have := HK1.out; first | omega | exact Nat.le_refl _⟩, ⟨by (with_reducible repeat (first | apply Kd.V_alloc | apply Kd.V_drewN | apply Kd.V_drew)); exact HO_501001.out⟩, ⟨by (with_reducible repeat (first | refine cn ?_ _ | refine cd ?_ | refine ca ?_ _)); exact BK499.out⟩, ⟨by (with_reducible repeat (first | refine cn ?_ _ | refine cd ?_ | refine ca ?_ _)); exact BK500.out⟩, ⟨by repeat (first | (with_reducible first | exact HB.out | apply qa | apply qn | apply qd | refine qs ?_ GE499.out | refine qs ?_ GE500.out) | exact HB.out)⟩⟩
     ·rw [if_neg c8] at H
      exact absurd H (by simp)
    case rest =>
     clear HC7
     try clear c1
     try clear p2
     try clear c3
     try clear c4
     try clear c6
     try clear c6b0
     try clear c8
     try clear c8b0
     try clear p9
     try clear q9
     try clear hx9
     try clear c10
     try clear c10b0
     try clear c10b1
     try clear hcz5_0
     try clear hcz5_1
     try clear hfz5_0
     try clear hfz5_1
     try clear p2
     try clear p9
     try clear q9
     obtain ⟨kq, x20_6, rfl, HA, HJ6, HO_501001, BK499, BK500, HB⟩ := hcut
     cases kq with
     | zero => exact absurd HA.out (by simp [parquetref01_Parse.j1])
     | succ kj6 =>
      have H := HA.out
      clear HA
      simp only [parquetref01_Parse.j1] at H
      by_cases c11 : x20_6 = true
      ·subst c11
       have H1 : (parquetref01_Parse.l0 kj6 a0 (wrap64 (x5_1 + 1)) x501000_1 x501001_1) = some (r1, r2, r3, r4, r5, r6) := by rw [if_pos rfl] at H; exact H
       clear H
       have H := H1
       clear H1
       have H' := Aside0.mk H
       clear H
       go_wp2
       go_roundg kj6
       case measure => have := HK1.out; have := HJ6.out; omega
       case rel => exact ⟨(wrap64 (x5_1 + 1)), (x500000_1), (x500001_1), (x500002_1), (x500003_1), (x500004_1), (x501000_1), (x501001_1), (u501001), (by first | rfl | (simp; done) | (simp [*]; done)), H', ⟨by have := HK1.out; have := HJ6.out; omega⟩, ⟨by (with_reducible repeat (first | apply Kd.V_alloc | apply Kd.V_drewN | apply Kd.V_drew)); exact HO_501001.out⟩, ⟨by (with_reducible repeat (first | refine cn ?_ _ | refine cd ?_ | refine ca ?_ _)); exact BK499.out⟩, ⟨by (with_reducible repeat (first | refine cn ?_ _ | refine cd ?_ | refine ca ?_ _)); exact BK500.out⟩, ⟨by repeat (first | (with_reducible first | exact HB.out | apply qa | apply qn | apply qd | refine qs ?_ GE499.out | refine qs ?_ GE500.out) | exact HB.out)⟩⟩
      ·replace c11 := Bool.eq_false_iff.mpr c11
       subst c11
       have H1 : (if 0 ≤ x5_1 then (if x5_1 < (a0.size : Int) then (if (bt a0 x5_1) < 48 then (parquetref01_Parse.j2 kj6 a0 x5_1 true x501000_1 x501001_1) else (parquetref01_Parse.j2 kj6 a0 x5_1 (decide ((bt a0 x5_1) > 57)) x501000_1 x501001_1)) else (none)) else (none)) = some (r1, r2, r3, r4, r5, r6) := by rw [if_neg (show ¬ (false = true) by decide)] at H; exact H
       clear H
       have H := H1
       clear H1
       have HC12 := Aside0.mk H
       clear H
       go_upto_region 6 with (fail)
       go_cut [30] (fun v30 wc => ∃ (kq : Nat) (x30_11 : Bool), v30 = .bool x30_11 ∧ Aside0 (parquetref01_Parse.j2 kq a0 x5_1 x30_11 x501000_1 x501001_1 = some (r1, r2, r3, r4, r5, r6)) ∧ Aside0 (kq ≤ kj6) ∧ Aside0 (Kd.V (Kd.int .i64) 3 wc w.heap.size (fun k_ => k_ ≠ gb499 ∧ k_ ≠ gb500) u501001 x501001_1) ∧ Aside0 (wc.heap[gb499]? = some (.cells #[.bool x500000_1, .int .u64 x500001_1, .int .u64 x500002_1, .int .u64 x500003_1, .int .u64 x500004_1] 27 (0, 0))) ∧ Aside0 (wc.heap[gb500]? = some (.cells #[.bool x501000_1, u501001] 38 (0, 0))) ∧ Aside0 (Below w.heap.size w wc))
       case first =>
        have H := HC12.out
        clear HC12
        by_cases c13 : 0 ≤ x5_1
        ·rw [if_pos c13] at H
         have c13b0 : decide (0 ≤ x5_1) = true := decide_eq_true c13
         clear c13
         (first | rw [c13b0] | (simp only [i64_w, i32_w]; rw [c13b0]) | skip)
         by_cases c14 : x5_1 < (a0.size : Int)
         ·rw [if_pos c14] at H
          have c14b0 : decide (x5_1 < (a0.size : Int)) = true := decide_eq_true c14
          clear c14
          by_cases c16 : (bt a0 x5_1) < 48
          ·rw [if_pos c16] at H
           have c16b0 : decide ((bt a0 x5_1) < 48) = true := decide_eq_true c16
           clear c16
           have H' := Aside0.mk H
           clear H
           have p15 : 0 ≤ (x5_1 : Int) := of_decide_eq_true (by first | (with_reducible assumption) | assumption)
           have q15 : x5_1 < (a0.size : Int) := of_decide_eq_true (by first | (with_reducible assumption) | assumption)
           have hx15 := bt_at a0 x5_1
           replace p15 := eq_true p15
           replace q15 := eq_true q15
           go_wp2
           go_meet
           case rel => exact ⟨_, (true), (by first | rfl | (simp; done) | (simp [*]; done)), H', ⟨by have := HK1.out; have := HJ6.out; first | omega | exact Nat.le_refl _⟩, ⟨by (with_reducible repeat (first | apply Kd.V_alloc | apply Kd.V_drewN | apply Kd.V_drew)); exact HO_501001.out⟩, ⟨by (with_reducible repeat (first | refine cn ?_ _ | refine cd ?_ | refine ca ?_ _)); exact BK499.out⟩, ⟨by (with_reducible repeat (first | refine cn ?_ _ | refine cd ?_ | refine ca ?_ _)); exact BK500.out⟩, ⟨by repeat (first | (with_reducible first | exact HB.out | apply qa | apply qn | apply qd | refine qs ?_ GE499.out | refine qs ?_ GE500.out) | exact HB.out)⟩⟩
          ·rw [if_neg c16] at H
           have c16b0 : decide ((bt a0 x5_1) < 48) = false := decide_eq_false c16
           clear c16
           have H' := Aside0.mk H
           clear H
           have p15 : 0 ≤ (x5_1 : Int) := of_decide_eq_true (by first | (with_reducible assumption) | assumption)
           have q15 : x5_1 < (a0.size : Int) := of_decide_eq_true (by first | (with_reducible assumption) | assumption)
           have hx15 := bt_at a0 x5_1
           replace p15 := eq_true p15
           replace q15 := eq_true q15
           have p17 : 0 ≤ (x5_1 : Int) := of_decide_eq_true (by first | (with_reducible assumption) | assumption)
           have q17 : x5_1 < (a0.size : Int) := of_decide_eq_true (by first | (with_reducible assumption) | assumption)
           have hx17 := bt_at a0 x5_1
           replace p17 := eq_true p17
           replace q17 := eq_true q17
           go_wp2
           go_meet
           case rel => exact ⟨_, (decide ((bt a0 x5_1) > 57)), (by first | rfl | (simp; done) | (simp [*]; done)), H', ⟨by have := HK1.out; have := HJ6.out; first | omega | exact Nat.le_refl _⟩, ⟨by (with_reducible repeat (first | apply Kd.V_alloc | apply Kd.V_drewN | apply Kd.V_drew)); exact HO_501001.out⟩, ⟨by (with_reducible repeat (first | refine cn ?_ _ | refine cd ?_ | refine ca ?_ _)); exact BK499.out⟩, ⟨by (with_reducible repeat (first | refine cn ?_ _ | refine cd ?_ | refine ca ?_ _)); exact BK500.out⟩, ⟨by repeat (first | (with_reducible first | exact HB.out | apply qa | apply qn | apply qd | refine qs ?_ GE499.out | refine qs ?_ GE500.out) | exact HB.out)⟩⟩
         ·rw [if_neg c14] at H
          exact absurd H (by simp)
        ·rw [if_neg c13] at H
         exact absurd H (by simp)
       case rest =>
        clear HC12
        try clear c1
        try clear p1
        try clear q1
        try clear hx1
        try clear p2
        try clear c3
        try clear c4
        try clear c6
        try clear c6b0
        try clear p6
        try clear c8
        try clear c8b0
        try clear p9
        try clear q9
        try clear hx9
        try clear c10
        try clear c10b0
        try clear c10b1
        try clear c11
        try clear c13
        try clear c13b0
        try clear c14
        try clear c14b0
        try clear p15
        try clear q15
        try clear hx15
        try clear c16
        try clear c16b0
        try clear p17
        try clear q17
        try clear hx17
        try clear hcz5_0
        try clear hcz5_1
        try clear hfz5_0
        try clear hfz5_1
        try clear p15
        try clear p17
        try clear p2
        try clear p9
        try clear q15
        try clear q17
        try clear q9
        obtain ⟨kq, x30_11, rfl, HA, HJ11, HO_501001, BK499, BK500, HB⟩ := hcut
        cases kq with
        | zero => exact absurd HA.out (by simp [parquetref01_Parse.j2])
        | succ kj11 =>
         have H := HA.out
         clear HA
         simp only [parquetref01_Parse.j2] at H
         by_cases c18 : x30_11 = true
         ·subst c18
          have H1 : (some (false, 0, 0, 0, 0, 11)) = some (r1, r2, r3, r4, r5, r6) := by rw [if_pos rfl] at H; exact H
          clear H
          have H := H1
          clear H1
          simp only [Option.some.injEq, Prod.mk.injEq] at H
          obtain ⟨rfl, rfl, rfl, rfl, rfl, rfl⟩ := H
          have hnb19 := NB499_500.out
          have hnc19 := NB500_499.out
          obtain ⟨hcz20_0, hcz20_1, hcz20_2, hcz20_3, hcz20_4⟩ := cl5 BK499.out
          obtain ⟨hfz20_0, hfz20_1, hfz20_2, hfz20_3, hfz20_4⟩ := fr5 BK499.out
          go_wp2
          refine bodyPost_ret (results_ct rfl _ _ gb499 27 #[.bool false, .int .u64 0, .int .u64 0, .int .u64 0, .int .u64 0] (0, 0) _ rfl (by (with_reducible repeat (first | refine cn ?_ _ | refine cd ?_ | refine ca ?_ _)); exact bp5 (lb BK499.out)) Try.underlying27 rfl (by kernel_rfl)) rfl ?_
          exact ⟨by first | rfl | (simp [errW_none, errW_some] <;> rfl) | (simp [*, errW_none, errW_some] <;> rfl), by repeat (first | (with_reducible first | exact HB.out | apply qa | apply qn | apply qd | refine qs ?_ GE499.out | refine qs ?_ GE500.out) | exact HB.out)⟩
         ·replace c18 := Bool.eq_false_iff.mpr c18
          subst c18
          have H1 : ((parquetref01_Small.f kj11 10).bind fun bt501 => ((parquetref01_Num_Times.f kj11 x501000_1 x501001_1 bt501.1 bt501.2).bind fun bt505 => (if 0 ≤ x5_1 then (if x5_1 < (a0.size : Int) then ((parquetref01_Small.f kj11 (wrap64 ((wrap64 (bt a0 x5_1)) - 48))).bind fun bt509 => ((parquetref01_Num_Plus.f kj11 bt505.1 bt505.2 bt509.1 bt509.2).bind fun bt513 => (parquetref01_Parse.l0 kj11 a0 (wrap64 (x5_1 + 1)) bt513.1 bt513.2))) else (none)) else (none)))) = some (r1, r2, r3, r4, r5, r6) := by rw [if_neg (show ¬ (false = true) by decide)] at H; exact H
          clear H
          have H := H1
          clear H1
          replace H := Option.bind_eq_some_iff.mp H
          obtain ⟨⟨t501, t502⟩, A210, H⟩ := H
          replace H : ((parquetref01_Num_Times.f kj11 x501000_1 x501001_1 t501 t502).bind fun bt505 => (if 0 ≤ x5_1 then (if x5_1 < (a0.size : Int) then ((parquetref01_Small.f kj11 (wrap64 ((wrap64 (bt a0 x5_1)) - 48))).bind fun bt509 => ((parquetref01_Num_Plus.f kj11 bt505.1 bt505.2 bt509.1 bt509.2).bind fun bt513 => (parquetref01_Parse.l0 kj11 a0 (wrap64 (x5_1 + 1)) bt513.1 bt513.2))) else (none)) else (none))) = some (r1, r2, r3, r4, r5, r6) := H
          have A21 := Aside0.mk A210
          clear A210
          replace H := Option.bind_eq_some_iff.mp H
          obtain ⟨⟨t505, t506⟩, A220, H⟩ := H
          replace H : (if 0 ≤ x5_1 then (if x5_1 < (a0.size : Int) then ((parquetref01_Small.f kj11 (wrap64 ((wrap64 (bt a0 x5_1)) - 48))).bind fun bt509 => ((parquetref01_Num_Plus.f kj11 t505 t506 bt509.1 bt509.2).bind fun bt513 => (parquetref01_Parse.l0 kj11 a0 (wrap64 (x5_1 + 1)) bt513.1 bt513.2))) else (none)) else (none)) = some (r1, r2, r3, r4, r5, r6) := H
          have A22 := Aside0.mk A220
          clear A220
          by_cases c23 : 0 ≤ x5_1
          ·rw [if_pos c23] at H
           have c23b0 : decide (0 ≤ x5_1) = true := decide_eq_true c23
           clear c23
           by_cases c24 : x5_1 < (a0.size : Int)
           ·rw [if_pos c24] at H
            have c24b0 : decide (x5_1 < (a0.size : Int)) = true := decide_eq_true c24
            clear c24
            replace H := Option.bind_eq_some_iff.mp H
            obtain ⟨⟨t509, t510⟩, A260, H⟩ := H
            replace H : ((parquetref01_Num_Plus.f kj11 t505 t506 t509 t510).bind fun bt513 => (parquetref01_Parse.l0 kj11 a0 (wrap64 (x5_1 + 1)) bt513.1 bt513.2)) = some (r1, r2, r3, r4, r5, r6) := H
            have A26 := Aside0.mk A260
            clear A260
            replace H := Option.bind_eq_some_iff.mp H
            obtain ⟨⟨t513, t514⟩, A270, H⟩ := H
            replace H : (parquetref01_Parse.l0 kj11 a0 (wrap64 (x5_1 + 1)) t513 t514) = some (r1, r2, r3, r4, r5, r6) := H
            have A27 := Aside0.mk A270
            clear A270
            have H' := Aside0.mk H
            clear H
            try go_wp2
            have n0_ := Aside0.mk (Kd.V_drew HO_501001.out)
            have n1_ := Aside0.mk (blk_drew BK499.out)
            have n2_ := Aside0.mk (blk_drew BK500.out)
            have n3_ := Aside0.mk (below_drew1 HB.out)
            clear HO_501001
            clear BK499
            clear BK500
            clear HB
            have HO_501001 := n0_
            have BK499 := n1_
            have BK500 := n2_
            have HB := n3_
            clear n0_ n1_ n2_ n3_
            have p25 : 0 ≤ (x5_1 : Int) := of_decide_eq_true (by first | (with_reducible assumption) | assumption)
            have q25 : x5_1 < (a0.size : Int) := of_decide_eq_true (by first | (with_reducible assumption) | assumption)
            have hx25 := bt_at a0 x5_1
            replace p25 := eq_true p25
            replace q25 := eq_true q25
            refine start_ (n := 11) (S := fun w' => w'.cell? ⟨gb500, 0, none⟩ = some (.bool x501000_1) ∧ w'.cell? ⟨gb500, 1, none⟩ = some (u501001)) (ds := [10]) #[Ff, Ff, Ff, Ff, Ff, Ff, Ff, Ff, Ff, Ff, Ff] (by kernel_rfl) rfl rfl ⟨(blk_cell BK500.out 0).trans rfl, (blk_cell BK500.out 1).trans rfl⟩ (fun hHeld => ?_); refine with_tabW parquetref01_Parse.tab8 parquetref01_Parse.bits8 (fun HT_ HW_ => ?_)
            generalize wc.drew = w28 at HO_501001 BK499 BK500 HB hHeld ⊢
            refine pure_ (i := 3) (N := some 35) (v := ?_) (a' := ?_) #[Ff, Ff, Ff, Tt, Ff, Ff, Ff, Ff, Ff, Ff, Ff] rfl rfl (any_of HT_.out (by kernel_rfl)) (fun _ _ _ h => h) (Or.inl ⟨by rfl, ?_⟩) ?_ ?_
            rotate_left
            ·intro w'
             go_simp
             with_reducible rfl
            rotate_left
            ·simp only [Act.put, List.setIfInBounds_toArray, List.set_cons_zero, List.set_cons_succ, i64_w, i32_w]
             rfl
            refine pure_ (i := 4) (N := some 36) (v := ?_) (a' := ?_) #[Ff, Ff, Ff, Tt, Tt, Ff, Ff, Ff, Ff, Ff, Ff] rfl rfl (any_of HT_.out (by kernel_rfl)) (fun _ _ _ h => h) (Or.inl ⟨by rfl, ?_⟩) ?_ ?_
            rotate_left
            ·intro w'
             go_simp
             with_reducible rfl
            rotate_left
            ·simp only [Act.put, List.setIfInBounds_toArray, List.set_cons_zero, List.set_cons_succ, i64_w, i32_w]
             rfl
            refine take_ (i := 0) (N := some 32) (v := ?_) (a' := ?_) #[Tt, Ff, Ff, Tt, Tt, Ff, Ff, Ff, Ff, Ff, Ff] rfl rfl (take_ofW HT_.out HW_.out (by kernel_rfl)) (fun _ _ _ h => h) (Or.inl ⟨by rfl, ?_⟩) hHeld ?_ ?_
            rotate_left
            ·rintro w' ⟨s0, s1⟩
             go_simp
             with_reducible rfl
            rotate_left
            ·simp only [Act.put, List.setIfInBounds_toArray, List.set_cons_zero, List.set_cons_succ, i64_w, i32_w]
             rfl
            refine take_ (i := 5) (N := some 37) (v := ?_) (a' := ?_) #[Tt, Ff, Ff, Tt, Tt, Tt, Ff, Ff, Ff, Ff, Ff] rfl rfl (take_ofW HT_.out HW_.out (by kernel_rfl)) (fun _ _ _ h => h) (Or.inl ⟨by rfl, ?_⟩) hHeld ?_ ?_
            rotate_left
            ·rintro w' ⟨s0, s1⟩
             go_simp
             with_reducible rfl
            rotate_left
            ·simp only [Act.put, List.setIfInBounds_toArray, List.set_cons_zero, List.set_cons_succ, i64_w, i32_w]
             rfl
            refine pure_ (i := 6) (N := some 38) (v := ?_) (a' := ?_) #[Tt, Ff, Ff, Tt, Tt, Tt, Tt, Ff, Ff, Ff, Ff] rfl rfl (any_of HT_.out (by kernel_rfl)) (fun _ _ _ h => h) (Or.inl ⟨by rfl, ?_⟩) ?_ ?_
            rotate_left
            ·intro w'
             go_simp
             with_reducible rfl
            rotate_left
            ·simp only [Act.put, List.setIfInBounds_toArray, List.set_cons_zero, List.set_cons_succ, i64_w, i32_w]
             rfl
            refine pure_ (i := 7) (N := some 39) (v := ?_) (a' := ?_) #[Tt, Ff, Ff, Tt, Tt, Tt, Tt, Tt, Ff, Ff, Ff] rfl rfl (any_of HT_.out (by kernel_rfl)) (fun _ _ _ h => h) (Or.inl ⟨by rfl, ?_⟩) ?_ ?_
            rotate_left
            ·intro w'
             go_simp
             with_reducible rfl
            rotate_left
            ·simp only [Act.put, List.setIfInBounds_toArray, List.set_cons_zero, List.set_cons_succ, i64_w, i32_w]
             rfl
            refine one_ (i := 1) (N := some 33) #[Tt, Tt, Ff, Tt, Tt, Tt, Tt, Tt, Ff, Ff, Ff] rfl rfl (one_of HT_.out (by kernel_rfl)) (by decide) (fun K hK => ?_)
            refine goes_ Try.func26 (by kernel_rfl) rfl #[.int .i64 10] (by rfl) rfl rfl (by (try simp only [List.map_toArray, List.map_cons, List.map_nil]); first | done | rfl | (simp only [List.length_drop, List.length_take]; rfl)) ?_
            with_reducible refine (parquetref01_Small.calls kj11 10 t501 t502 _ A21.out).mono ?_
            rintro e w29 ⟨v503, rfl, ho0, hb⟩
            refine ⟨_, rfl, ?_⟩
            have n0_ := Aside0.mk (Kd.V_below (by (with_reducible repeat (first | apply Kd.V_alloc | apply Kd.V_drewN | apply Kd.V_drew)); exact HO_501001.out) hb)
            have n1_ := Aside0.mk (Kd.V_lower (Kd.V_mono (ok' := fun k_ => k_ ≠ gb499 ∧ k_ ≠ gb500) ho0 (fun k_ hk_ => ⟨(Kd.freshB (g := gb499) (o := .cells #[.bool x500000_1, .int .u64 x500001_1, .int .u64 x500002_1, .int .u64 x500003_1, .int .u64 x500004_1] 27 (0, 0)) (by exact lb BK499.out) k_ hk_), (Kd.freshB (g := gb500) (o := .cells #[.bool x501000_1, u501001] 38 (0, 0)) (by exact lb BK500.out) k_ hk_)⟩)) (below_size (by repeat (first | (with_reducible first | exact HB.out | apply qa | apply qn | apply qd | refine qs ?_ GE499.out | refine qs ?_ GE500.out) | exact HB.out))))
            have n2_ := bb BK499 hb
            have n3_ := bb BK500 hb
            have n4_ := Aside0.mk (below_step (by repeat (first | (with_reducible first | exact HB.out | apply qa | apply qn | apply qd | refine qs ?_ GE499.out | refine qs ?_ GE500.out) | exact HB.out)) hb)
            clear HO_501001
            clear BK499
            clear BK500
            clear HB
            have HO_501001 := n0_
            have HO504 := n1_
            have BK499 := n2_
            have BK500 := n3_
            have HB := n4_
            clear n0_ n1_ n2_ n3_ n4_
            (try clear hb)
            (try clear hb2)
            (try clear hk)
            (try clear hi)
            (try clear ho0)
            obtain ⟨Ao30, co30, eo30⟩ := Kd.V_slice HO_501001.out
            (first | subst eo30 | (injection eo30 with f1_ f2_ f3_; have f4_ := f1_.symm; have f5_ := f3_.symm; clear f1_ f2_ f3_; subst f4_; subst f5_))
            obtain ⟨Ao31, co31, eo31⟩ := Kd.V_slice HO504.out
            (first | subst eo31 | (injection eo31 with f1_ f2_ f3_; have f4_ := f1_.symm; have f5_ := f3_.symm; clear f1_ f2_ f3_; subst f4_; subst f5_))
            refine hK.out _ _ ⟨(blk_cell BK500.out 0).trans rfl, (blk_cell BK500.out 1).trans rfl⟩ (fun hHeld => ?_)
            clear hK K
            refine norm_ (a' := ?_) ?_ ?_
            rotate_left
            ·show Act.put _ (some 33) _ = _
             simp only [Act.put, List.setIfInBounds_toArray, List.set_cons_zero, List.set_cons_succ, i64_w, i32_w]
             rfl
            refine one_ (i := 2) (N := some 34) #[Tt, Tt, Tt, Tt, Tt, Tt, Tt, Tt, Ff, Ff, Ff] rfl rfl (one_of HT_.out (by kernel_rfl)) (by decide) (fun K hK => ?_)
            refine goes_ Try.func29 (by kernel_rfl) rfl #[.agg #[.bool x501000_1, .slice Ao30 x501001_1.length co30], .agg #[.bool t501, .slice Ao31 t502.length co31]] (by rfl) rfl rfl (by (try simp only [List.map_toArray, List.map_cons, List.map_nil]); first | done | rfl | (simp only [List.length_drop, List.length_take]; rfl)) ?_
            with_reducible refine (parquetref01_Num_Times.calls kj11 x501000_1 _ _ x501001_1 t501 _ _ t502 t505 t506 _ ?side1 ?side2 ?side3 ?side4 A22.out).mono ?_
            (case side1 => repeat (first | exact (Kd.V_reads' HO_501001.out).2.2 | (with_reducible refine Kd.C_alloc ?_ _) | (with_reducible refine Kd.C_drewN ?_ _) | (with_reducible refine Kd.C_drew ?_)))
            (case side2 => exact (Kd.V_reads' HO_501001.out).2.1)
            (case side3 => repeat (first | exact (Kd.V_reads' HO504.out).2.2 | (with_reducible refine Kd.C_alloc ?_ _) | (with_reducible refine Kd.C_drewN ?_ _) | (with_reducible refine Kd.C_drew ?_)))
            (case side4 => exact (Kd.V_reads' HO504.out).2.1)
            rintro e w32 ⟨v507, rfl, ho0, hb⟩
            refine ⟨_, rfl, ?_⟩
            have n0_ := Aside0.mk (Kd.V_below (by (with_reducible repeat (first | apply Kd.V_alloc | apply Kd.V_drewN | apply Kd.V_drew)); exact HO_501001.out) hb)
            have n1_ := Aside0.mk (Kd.V_below (by (with_reducible repeat (first | apply Kd.V_alloc | apply Kd.V_drewN | apply Kd.V_drew)); exact HO504.out) hb)
            have n2_ := Aside0.mk (Kd.V_lower (Kd.V_mono (ok' := fun k_ => k_ ≠ gb499 ∧ k_ ≠ gb500) ho0 (fun k_ hk_ => ⟨(Kd.freshB (g := gb499) (o := .cells #[.bool x500000_1, .int .u64 x500001_1, .int .u64 x500002_1, .int .u64 x500003_1, .int .u64 x500004_1] 27 (0, 0)) (by exact lb BK499.out) k_ hk_), (Kd.freshB (g := gb500) (o := .cells #[.bool x501000_1, .slice Ao30 x501001_1.length co30] 38 (0, 0)) (by exact lb BK500.out) k_ hk_)⟩)) (below_size (by repeat (first | (with_reducible first | exact HB.out | apply qa | apply qn | apply qd | refine qs ?_ GE499.out | refine qs ?_ GE500.out) | exact HB.out))))
            have n3_ := bb BK499 hb
            have n4_ := bb BK500 hb
            have n5_ := Aside0.mk (below_step (by repeat (first | (with_reducible first | exact HB.out | apply qa | apply qn | apply qd | refine qs ?_ GE499.out | refine qs ?_ GE500.out) | exact HB.out)) hb)
            clear HO_501001
            clear HO504
            clear BK499
            clear BK500
            clear HB
            have HO_501001 := n0_
            have HO504 := n1_
            have HO508 := n2_
            have BK499 := n3_
            have BK500 := n4_
            have HB := n5_
            clear n0_ n1_ n2_ n3_ n4_ n5_
            (try clear hb)
            (try clear hb2)
            (try clear hk)
            (try clear hi)
            (try clear ho0)
            refine hK.out _ _ ⟨(blk_cell BK500.out 0).trans rfl, (blk_cell BK500.out 1).trans rfl⟩ (fun hHeld => ?_)
            clear hK K
            refine norm_ (a' := ?_) ?_ ?_
            rotate_left
            ·show Act.put _ (some 34) _ = _
             simp only [Act.put, List.setIfInBounds_toArray, List.set_cons_zero, List.set_cons_succ, i64_w, i32_w]
             rfl
            refine one_ (i := 8) (N := some 40) #[Tt, Tt, Tt, Tt, Tt, Tt, Tt, Tt, Tt, Ff, Ff] rfl rfl (one_of HT_.out (by kernel_rfl)) (by decide) (fun K hK => ?_)
            refine goes_ Try.func26 (by kernel_rfl) rfl #[.int .i64 (wrap64 ((wrap64 (bt a0 x5_1)) - 48))] (by rfl) rfl rfl (by (try simp only [List.map_toArray, List.map_cons, List.map_nil]); first | done | rfl | (simp only [List.length_drop, List.length_take]; rfl)) ?_
            with_reducible refine (parquetref01_Small.calls kj11 (wrap64 ((wrap64 (bt a0 x5_1)) - 48)) t509 t510 _ A26.out).mono ?_
            rintro e w33 ⟨v511, rfl, ho0, hb⟩
            refine ⟨_, rfl, ?_⟩
            have n0_ := Aside0.mk (Kd.V_below (by (with_reducible repeat (first | apply Kd.V_alloc | apply Kd.V_drewN | apply Kd.V_drew)); exact HO_501001.out) hb)
            have n1_ := Aside0.mk (Kd.V_below (by (with_reducible repeat (first | apply Kd.V_alloc | apply Kd.V_drewN | apply Kd.V_drew)); exact HO504.out) hb)
            have n2_ := Aside0.mk (Kd.V_below (by (with_reducible repeat (first | apply Kd.V_alloc | apply Kd.V_drewN | apply Kd.V_drew)); exact HO508.out) hb)
            have n3_ := Aside0.mk (Kd.V_lower (Kd.V_mono (ok' := fun k_ => k_ ≠ gb499 ∧ k_ ≠ gb500) ho0 (fun k_ hk_ => ⟨(Kd.freshB (g := gb499) (o := .cells #[.bool x500000_1, .int .u64 x500001_1, .int .u64 x500002_1, .int .u64 x500003_1, .int .u64 x500004_1] 27 (0, 0)) (by exact lb BK499.out) k_ hk_), (Kd.freshB (g := gb500) (o := .cells #[.bool x501000_1, .slice Ao30 x501001_1.length co30] 38 (0, 0)) (by exact lb BK500.out) k_ hk_)⟩)) (below_size (by repeat (first | (with_reducible first | exact HB.out | apply qa | apply qn | apply qd | refine qs ?_ GE499.out | refine qs ?_ GE500.out) | exact HB.out))))
            have n4_ := bb BK499 hb
            have n5_ := bb BK500 hb
            have n6_ := Aside0.mk (below_step (by repeat (first | (with_reducible first | exact HB.out | apply qa | apply qn | apply qd | refine qs ?_ GE499.out | refine qs ?_ GE500.out) | exact HB.out)) hb)
            clear HO_501001
            clear HO504
            clear HO508
            clear BK499
            clear BK500
            clear HB
            have HO_501001 := n0_
            have HO504 := n1_
            have HO508 := n2_
            have HO512 := n3_
            have BK499 := n4_
            have BK500 := n5_
            have HB := n6_
            clear n0_ n1_ n2_ n3_ n4_ n5_ n6_
            (try clear hb)
            (try clear hb2)
            (try clear hk)
            (try clear hi)
            (try clear ho0)
            obtain ⟨Ao34, co34, eo34⟩ := Kd.V_slice HO508.out
            (first | subst eo34 | (injection eo34 with f1_ f2_ f3_; have f4_ := f1_.symm; have f5_ := f3_.symm; clear f1_ f2_ f3_; subst f4_; subst f5_))
            obtain ⟨Ao35, co35, eo35⟩ := Kd.V_slice HO512.out
            (first | subst eo35 | (injection eo35 with f1_ f2_ f3_; have f4_ := f1_.symm; have f5_ := f3_.symm; clear f1_ f2_ f3_; subst f4_; subst f5_))
            refine hK.out _ _ ⟨(blk_cell BK500.out 0).trans rfl, (blk_cell BK500.out 1).trans rfl⟩ (fun hHeld => ?_)
            clear hK K
            refine norm_ (a' := ?_) ?_ ?_
            rotate_left
            ·show Act.put _ (some 40) _ = _
             simp only [Act.put, List.setIfInBounds_toArray, List.set_cons_zero, List.set_cons_succ, i64_w, i32_w]
             rfl
            refine one_ (i := 9) (N := some 41) #[Tt, Tt, Tt, Tt, Tt, Tt, Tt, Tt, Tt, Tt, Ff] rfl rfl (one_of HT_.out (by kernel_rfl)) (by decide) (fun K hK => ?_)
            refine goes_ Try.func30 (by kernel_rfl) rfl #[.agg #[.bool t505, .slice Ao34 t506.length co34], .agg #[.bool t509, .slice Ao35 t510.length co35]] (by rfl) rfl rfl (by (try simp only [List.map_toArray, List.map_cons, List.map_nil]); first | done | rfl | (simp only [List.length_drop, List.length_take]; rfl)) ?_
            with_reducible refine (parquetref01_Num_Plus.calls kj11 t505 (fun k_ => (k_ ≠ gb499 ∧ k_ ≠ gb500)) _ _ t506 t509 (fun k_ => (k_ ≠ gb499 ∧ k_ ≠ gb500)) _ _ t510 t513 t514 _ ?side1 ?side2 A27.out).mono ?_
            (case side1 => exact HO508.out)
            (case side2 => exact HO512.out)
            rintro e w36 ⟨v515, rfl, ho0, hb⟩
            refine ⟨_, rfl, ?_⟩
            have n0_ := Aside0.mk (Kd.V_below (by (with_reducible repeat (first | apply Kd.V_alloc | apply Kd.V_drewN | apply Kd.V_drew)); exact HO_501001.out) hb)
            have n1_ := Aside0.mk (Kd.V_below (by (with_reducible repeat (first | apply Kd.V_alloc | apply Kd.V_drewN | apply Kd.V_drew)); exact HO504.out) hb)
            have n2_ := Aside0.mk (Kd.V_below (by (with_reducible repeat (first | apply Kd.V_alloc | apply Kd.V_drewN | apply Kd.V_drew)); exact HO508.out) hb)
            have n3_ := Aside0.mk (Kd.V_below (by (with_reducible repeat (first | apply Kd.V_alloc | apply Kd.V_drewN | apply Kd.V_drew)); exact HO512.out) hb)
            have n4_ := Aside0.mk (Kd.V_lower (Kd.V_mono (ok' := fun k_ => k_ ≠ gb499 ∧ k_ ≠ gb500) ho0 (fun k_ hk_ => ⟨Or.elim hk_ (fun hs_ => Or.elim hs_ (fun hs_ => hs_.1) (fun hs_ => hs_.1)) (fun hn_ => (Kd.freshB (g := gb499) (o := .cells #[.bool x500000_1, .int .u64 x500001_1, .int .u64 x500002_1, .int .u64 x500003_1, .int .u64 x500004_1] 27 (0, 0)) (by exact lb BK499.out) k_ hn_)), Or.elim hk_ (fun hs_ => Or.elim hs_ (fun hs_ => hs_.2) (fun hs_ => hs_.2)) (fun hn_ => (Kd.freshB (g := gb500) (o := .cells #[.bool x501000_1, .slice Ao30 x501001_1.length co30] 38 (0, 0)) (by exact lb BK500.out) k_ hn_))⟩)) (below_size (by repeat (first | (with_reducible first | exact HB.out | apply qa | apply qn | apply qd | refine qs ?_ GE499.out | refine qs ?_ GE500.out) | exact HB.out))))
            have n5_ := bb BK499 hb
            have n6_ := bb BK500 hb
            have n7_ := Aside0.mk (below_step (by repeat (first | (with_reducible first | exact HB.out | apply qa | apply qn | apply qd | refine qs ?_ GE499.out | refine qs ?_ GE500.out) | exact HB.out)) hb)
            clear HO_501001
            clear HO504
            clear HO508
            clear HO512
            clear BK499
            clear BK500
            clear HB
            have HO_501001 := n0_
            have HO504 := n1_
            have HO508 := n2_
            have HO512 := n3_
            have HO516 := n4_
            have BK499 := n5_
            have BK500 := n6_
            have HB := n7_
            clear n0_ n1_ n2_ n3_ n4_ n5_ n6_ n7_
            (try clear hb)
            (try clear hb2)
            (try clear hk)
            (try clear hi)
            (try clear ho0)
            obtain ⟨Ao38, co38, eo38⟩ := Kd.V_slice HO516.out
            (first | subst eo38 | (injection eo38 with f1_ f2_ f3_; have f4_ := f1_.symm; have f5_ := f3_.symm; clear f1_ f2_ f3_; subst f4_; subst f5_))
            refine hK.out _ _ ⟨(blk_cell BK500.out 0).trans rfl, (blk_cell BK500.out 1).trans rfl⟩ (fun hHeld => ?_)
            clear hK K
            refine norm_ (a' := ?_) ?_ ?_
            rotate_left
            ·show Act.put _ (some 41) _ = _
             simp only [Act.put, List.setIfInBounds_toArray, List.set_cons_zero, List.set_cons_succ, i64_w, i32_w]
             rfl
            refine last_ (i := 10) (N := none) #[Tt, Tt, Tt, Tt, Tt, Tt, Tt, Tt, Tt, Tt, Tt] rfl rfl (one_of HT_.out (by kernel_rfl)) (by decide) (fun K hK => ?_)
            have hs37 : w36.cell? ⟨gb500, 0, none⟩ = some (.bool x501000_1) := (blk_cell BK500.out 0).trans rfl
            have hfs37 := blk_frozen BK500.out 0
            have hns37_0 := NB499_500.out
            have hms37_0 := NB500_499.out
            have hs39 : w36.cell? ⟨gb500, 1, none⟩ = some (.slice Ao30 x501001_1.length co30) := (blk_cell BK500.out 1).trans rfl
            have hfs39 := blk_frozen BK500.out 1
            have hns39_0 := NB499_500.out
            have hms39_0 := NB500_499.out
            refine skip_ (w1 := ?_) (by rfl) rfl ?_ ?_
            rotate_left
            ·go_simp
             rfl
            refine hK.out _ _ ?_
            clear hK K
            refine done_ (done_of HT_.out (by kernel_rfl)) ?_
            try go_wp2
            go_roundg kj11
            case measure => have := HK1.out; have := HJ6.out; have := HJ11.out; omega
            case rel => exact ⟨(wrap64 (x5_1 + 1)), (x500000_1), (x500001_1), (x500002_1), (x500003_1), (x500004_1), (t513), (t514), (.slice Ao38 t514.length co38), (by first | rfl | (simp; done) | (simp [*]; done)), H', ⟨by have := HK1.out; have := HJ6.out; have := HJ11.out; omega⟩, ⟨by (with_reducible repeat (first | apply Kd.V_alloc | apply Kd.V_drewN | apply Kd.V_drew)); exact Kd.V_mono (Kd.V_far (p := ⟨gb500, 1, none⟩) (Kd.V_far (p := ⟨gb500, 0, none⟩) (Kd.V_mono HO516.out (fun k_ hk => (⟨hk, hk.2⟩ : _ ∧ k_ ≠ gb500))) (fun _ hk => hk.2) (.bool t513)) (fun _ hk => hk.2) (.slice Ao38 t514.length co38)) (fun _ hk => ⟨hk.1.1, hk.1.2⟩)⟩, ⟨by (with_reducible repeat (first | refine cn ?_ _ | refine cd ?_ | refine ca ?_ _)); refine blk_far ?_ NB499_500.out _; (with_reducible repeat (first | refine cn ?_ _ | refine cd ?_ | refine ca ?_ _)); refine blk_far ?_ NB499_500.out _; (with_reducible repeat (first | refine cn ?_ _ | refine cd ?_ | refine ca ?_ _)); exact BK499.out⟩, ⟨by (with_reducible repeat (first | refine cn ?_ _ | refine cd ?_ | refine ca ?_ _)); refine blk_put (cs := #[.bool t513, .slice Ao30 x501001_1.length co30]) ?_ 1 _ rfl; (with_reducible repeat (first | refine cn ?_ _ | refine cd ?_ | refine ca ?_ _)); refine blk_put (cs := #[.bool x501000_1, .slice Ao30 x501001_1.length co30]) ?_ 0 _ rfl; (with_reducible repeat (first | refine cn ?_ _ | refine cd ?_ | refine ca ?_ _)); exact BK500.out⟩, ⟨by repeat (first | (with_reducible first | exact HB.out | apply qa | apply qn | apply qd | refine qs ?_ GE499.out | refine qs ?_ GE500.out) | exact HB.out)⟩⟩
           ·rw [if_neg c24] at H
            exact absurd H (by simp)
          ·rw [if_neg c23] at H
           exact absurd H (by simp)
   ·rw [if_neg c6] at H
    have c6b0 : decide (x5_1 < (a0.size : Int)) = false := decide_eq_false c6
    clear c6
    have HC40 := Aside0.mk H
    clear H
    go_upto_region 9 with (fail)
    go_cut [49] (fun v49 wc => ∃ (kq : Nat) (x49_39 : Bool), v49 = .bool x49_39 ∧ Aside0 (parquetref01_Parse.j3 kq a0 x49_39 x501000_1 x501001_1 = some (r1, r2, r3, r4, r5, r6)) ∧ Aside0 (kq ≤ k1) ∧ Aside0 (Kd.V (Kd.int .i64) 3 wc w.heap.size (fun k_ => k_ ≠ gb499 ∧ k_ ≠ gb500) u501001 x501001_1) ∧ Aside0 (wc.heap[gb499]? = some (.cells #[.bool x500000_1, .int .u64 x500001_1, .int .u64 x500002_1, .int .u64 x500003_1, .int .u64 x500004_1] 27 (0, 0))) ∧ Aside0 (wc.heap[gb500]? = some (.cells #[.bool x501000_1, u501001] 38 (0, 0))) ∧ Aside0 (Below w.heap.size w wc))
    case first =>
     have H := HC40.out
     clear HC40
     by_cases c41 : (a0.size : Int) > 0
     ·rw [if_pos c41] at H
      have c41b0 : decide (0 < (a0.size : Int)) = true := decide_eq_true c41
      have c41b1 : decide (0 < a0.size) = true := decide_eq_true (by omega)
      clear c41
      (first | rw [c41b0] | (simp only [i64_w, i32_w]; rw [c41b0]) | skip)
      by_cases c42 : 0 < (a0.size : Int)
      ·rw [if_pos c42] at H
       have c42b0 : decide (0 < (a0.size : Int)) = true := decide_eq_true c42
       have c42b1 : decide (0 < a0.size) = true := decide_eq_true (by omega)
       clear c42
       have H' := Aside0.mk H
       clear H
       have p43 : 0 ≤ (0 : Int) := (by omega)
       have q43 : 0 < a0.size := (by have : (0 : Int) < (a0.size : Int) := of_decide_eq_true (by first | (with_reducible assumption) | assumption); omega)
       have hx43 : ∀ h : 0 < a0.size, ((a0[0]'h).toNat : Int) = bt a0 0 := bt_at a0 0
       clear p43
       have qi43 : (0 < (a0.size : Int)) = True := eq_true (of_decide_eq_true (by first | (with_reducible assumption) | assumption))
       replace q43 := eq_true q43
       go_wp2
       go_meet
       case rel => exact ⟨_, (((bt a0 0) == 45)), (by first | rfl | (simp; done) | (simp [*]; done)), H', ⟨by have := HK1.out; first | omega | exact Nat.le_refl _⟩, ⟨by (with_reducible repeat (first | apply Kd.V_alloc | apply Kd.V_drewN | apply Kd.V_drew)); exact HO_501001.out⟩, ⟨by (with_reducible repeat (first | refine cn ?_ _ | refine cd ?_ | refine ca ?_ _)); exact BK499.out⟩, ⟨by (with_reducible repeat (first | refine cn ?_ _ | refine cd ?_ | refine ca ?_ _)); exact BK500.out⟩, ⟨by repeat (first | (with_reducible first | exact HB.out | apply qa | apply qn | apply qd | refine qs ?_ GE499.out | refine qs ?_ GE500.out) | exact HB.out)⟩⟩
      ·rw [if_neg c42] at H
       exact absurd H (by simp)
     ·rw [if_neg c41] at H
      have c41b0 : decide (0 < (a0.size : Int)) = false := decide_eq_false c41
      have c41b1 : decide (0 < a0.size) = false := decide_eq_false (by omega)
      clear c41
      (first | rw [c41b0] | (simp only [i64_w, i32_w]; rw [c41b0]) | skip)
      have H' := Aside0.mk H
      clear H
      go_wp2
      go_meet
      case rel => exact ⟨_, (false), (by first | rfl | (simp; done) | (simp [*]; done)), H', ⟨by have := HK1.out; first | omega | exact Nat.le_refl _⟩, ⟨by (with_reducible repeat (first | apply Kd.V_alloc | apply Kd.V_drewN | apply Kd.V_drew)); exact HO_501001.out⟩, ⟨by (with_reducible repeat (first | refine cn ?_ _ | refine cd ?_ | refine ca ?_ _)); exact BK499.out⟩, ⟨by (with_reducible repeat (first | refine cn ?_ _ | refine cd ?_ | refine ca ?_ _)); exact BK500.out⟩, ⟨by repeat (first | (with_reducible first | exact HB.out | apply qa | apply qn | apply qd | refine qs ?_ GE499.out | refine qs ?_ GE500.out) | exact HB.out)⟩⟩
    case rest =>
     clear HC40
     try clear c1
     try clear p1
     try clear q1
     try clear hx1
     try clear c2
     try clear p2
     try clear q2
     try clear hx2
     try clear c3
     try clear c4
     try clear p4
     try clear q4
     try clear hx4
     try clear qi4
     try clear c6
     try clear c6b0
     try clear p6
     try clear c8
     try clear c8b0
     try clear p9
     try clear q9
     try clear hx9
     try clear c10
     try clear c10b0
     try clear c10b1
     try clear c11
     try clear c13
     try clear c13b0
     try clear c14
     try clear c14b0
     try clear p15
     try clear q15
     try clear hx15
     try clear c16
     try clear c16b0
     try clear p17
     try clear q17
     try clear hx17
     try clear c18
     try clear c19
     try clear c23
     try clear c23b0
     try clear c24
     try clear c24b0
     try clear p25
     try clear q25
     try clear hx25
     try clear c26
     try clear c29
     try clear c30
     try clear c32
     try clear c41
     try clear c41b0
     try clear c41b1
     try clear c42
     try clear c42b0
     try clear c42b1
     try clear p43
     try clear q43
     try clear hx43
     try clear qi43
     try clear hcz20_0
     try clear hcz20_1
     try clear hcz20_2
     try clear hcz20_3
     try clear hcz20_4
     try clear hcz5_0
     try clear hcz5_1
     try clear hfz20_0
     try clear hfz20_1
     try clear hfz20_2
     try clear hfz20_3
     try clear hfz20_4
     try clear hfz5_0
     try clear hfz5_1
     try clear p1
     try clear p15
     try clear p17
     try clear p2
     try clear p25
     try clear p43
     try clear p6
     try clear p9
     try clear q1
     try clear q15
     try clear q17
     try clear q25
     try clear q43
     try clear q9
     obtain ⟨kq, x49_39, rfl, HA, HJ39, HO_501001, BK499, BK500, HB⟩ := hcut
     cases kq with
     | zero => exact absurd HA.out (by simp [parquetref01_Parse.j3])
     | succ kj39 =>
      have H := HA.out
      clear HA
      simp only [parquetref01_Parse.j3] at H
      have HC44 := Aside0.mk H
      clear H
      go_upto_if 49 with (fail)
      go_cut [] (fun wc => ∃ (kq : Nat) (x501000_43 : Bool) (x501001_43 : List Int) (u501001 : Value), Aside0 (parquetref01_Parse.j4 kq a0 x501000_43 x501001_43 = some (r1, r2, r3, r4, r5, r6)) ∧ Aside0 (kq ≤ kj39) ∧ Aside0 (Kd.V (Kd.int .i64) 3 wc w.heap.size (fun k_ => k_ ≠ gb499 ∧ k_ ≠ gb500) u501001 x501001_43) ∧ Aside0 (wc.heap[gb499]? = some (.cells #[.bool x500000_1, .int .u64 x500001_1, .int .u64 x500002_1, .int .u64 x500003_1, .int .u64 x500004_1] 27 (0, 0))) ∧ Aside0 (wc.heap[gb500]? = some (.cells #[.bool x501000_43, u501001] 38 (0, 0))) ∧ Aside0 (Below w.heap.size w wc))
      case first =>
       have H := HC44.out
       clear HC44
       by_cases c45 : x49_39 = true
       ·subst c45
        have H1 : ((parquetref01_Num_Neg.f x501000_1 x501001_1).bind fun bt517 => (parquetref01_Parse.j4 kj39 a0 bt517.1 bt517.2)) = some (r1, r2, r3, r4, r5, r6) := by rw [if_pos rfl] at H; exact H
        clear H
        have H := H1
        clear H1
        replace H := Option.bind_eq_some_iff.mp H
        obtain ⟨⟨t517, t518⟩, A460, H⟩ := H
        replace H : (parquetref01_Parse.j4 kj39 a0 t517 t518) = some (r1, r2, r3, r4, r5, r6) := H
        have A46 := Aside0.mk A460
        clear A460
        have H' := Aside0.mk H
        clear H
        have hnb47 := NB500_499.out
        have hnc47 := NB499_500.out
        obtain ⟨hcz48_0, hcz48_1⟩ := cl2 BK500.out
        obtain ⟨hfz48_0, hfz48_1⟩ := fr2 BK500.out
        obtain ⟨Ao49, co49, eo49⟩ := Kd.V_slice HO_501001.out
        subst eo49
        go_wp2_with (first | ((with_reducible refine gate_callee (f := 28) rfl ?_); refine goesL_ (some 51) rfl rfl Try.func28 (by kernel_rfl) rfl #[.agg #[.bool x501000_1, .slice Ao49 x501001_1.length co49]] rfl (by (try simp only [List.map_toArray, List.map_cons, List.map_nil]); first | done | rfl | (simp only [List.length_drop, List.length_take]; rfl)) ?_; (with_reducible refine (parquetref01_Num_Neg.calls x501000_1 (fun k_ => (k_ ≠ gb499 ∧ k_ ≠ gb500)) _ _ x501001_1 t517 t518 _ ?side1 A46.out).mono ?_); (case side1 => exact HO_501001.out); rintro e w50 ⟨v519, rfl, ho0, hb⟩; refine ⟨_, rfl, ?_⟩; have n0_ := Aside0.mk (Kd.V_below (by (with_reducible repeat (first | apply Kd.V_alloc | apply Kd.V_drewN | apply Kd.V_drew)); exact HO_501001.out) hb); have n1_ := Aside0.mk (Kd.V_lower (Kd.V_mono (ok' := fun k_ => k_ ≠ gb499 ∧ k_ ≠ gb500) ho0 (fun k_ hk_ => ⟨Or.elim hk_ (fun hs_ => hs_.1) (fun hn_ => (Kd.freshB (g := gb499) (o := .cells #[.bool x500000_1, .int .u64 x500001_1, .int .u64 x500002_1, .int .u64 x500003_1, .int .u64 x500004_1] 27 (0, 0)) (by exact lb BK499.out) k_ hn_)), Or.elim hk_ (fun hs_ => hs_.2) (fun hn_ => (Kd.freshB (g := gb500) (o := .cells #[.bool x501000_1, .slice Ao49 x501001_1.length co49] 38 (0, 0)) (by exact lb BK500.out) k_ hn_))⟩)) (below_size (by repeat (first | (with_reducible first | exact HB.out | apply qa | apply qn | apply qd | refine qs ?_ GE499.out | refine qs ?_ GE500.out) | exact HB.out)))); have n2_ := bb BK499 hb; have n3_ := bb BK500 hb; have n4_ := Aside0.mk (below_step (by repeat (first | (with_reducible first | exact HB.out | apply qa | apply qn | apply qd | refine qs ?_ GE499.out | refine qs ?_ GE500.out) | exact HB.out)) hb); clear HO_501001; clear BK499; clear BK500; clear HB; have HO_501001 := n0_; have HO520 := n1_; have BK499 := n2_; have BK500 := n3_; have HB := n4_; clear n0_ n1_ n2_ n3_ n4_; (try clear hb); (try clear hb2); (try clear hk); (try clear hi); (try clear ho0); obtain ⟨hcz51_0, hcz51_1⟩ := cl2 BK500.out; obtain ⟨hfz51_0, hfz51_1⟩ := fr2 BK500.out; obtain ⟨Ao52, co52, eo52⟩ := Kd.V_slice HO520.out; subst eo52))
        go_meet
        case rel => exact ⟨_, (t517), (t518), (.slice Ao52 t518.length co52), H', ⟨by have := HK1.out; have := HJ39.out; first | omega | exact Nat.le_refl _⟩, ⟨by (with_reducible repeat (first | apply Kd.V_alloc | apply Kd.V_drewN | apply Kd.V_drew)); exact Kd.V_mono (Kd.V_far (p := ⟨gb500, 1, none⟩) (Kd.V_far (p := ⟨gb500, 0, none⟩) (Kd.V_mono HO520.out (fun k_ hk => (⟨hk, hk.2⟩ : _ ∧ k_ ≠ gb500))) (fun _ hk => hk.2) (.bool t517)) (fun _ hk => hk.2) (.slice Ao52 t518.length co52)) (fun _ hk => ⟨hk.1.1, hk.1.2⟩)⟩, ⟨by (with_reducible repeat (first | refine cn ?_ _ | refine cd ?_ | refine ca ?_ _)); refine blk_far ?_ NB499_500.out _; (with_reducible repeat (first | refine cn ?_ _ | refine cd ?_ | refine ca ?_ _)); refine blk_far ?_ NB499_500.out _; (with_reducible repeat (first | refine cn ?_ _ | refine cd ?_ | refine ca ?_ _)); exact BK499.out⟩, ⟨by (with_reducible repeat (first | refine cn ?_ _ | refine cd ?_ | refine ca ?_ _)); refine blk_put (cs := #[.bool t517, .slice Ao49 x501001_1.length co49]) ?_ 1 _ rfl; (with_reducible repeat (first | refine cn ?_ _ | refine cd ?_ | refine ca ?_ _)); refine blk_put (cs := #[.bool x501000_1, .slice Ao49 x501001_1.length co49]) ?_ 0 _ rfl; (with_reducible repeat (first | refine cn ?_ _ | refine cd ?_ | refine ca ?_ _)); exact BK500.out⟩, ⟨by repeat (first | (with_reducible first | exact HB.out | apply qa | apply qn | apply qd | refine qs ?_ GE499.out | refine qs ?_ GE500.out) | exact HB.out)⟩⟩
       ·replace c45 := Bool.eq_false_iff.mpr c45
        subst c45
        have H1 : (parquetref01_Parse.j4 kj39 a0 x501000_1 x501001_1) = some (r1, r2, r3, r4, r5, r6) := by rw [if_neg (show ¬ (false = true) by decide)] at H; exact H
        clear H
        have H := H1
        clear H1
        have H' := Aside0.mk H
        clear H
        go_wp2
        go_meet
        case rel => exact ⟨_, (x501000_1), (x501001_1), (u501001), H', ⟨by have := HK1.out; have := HJ39.out; first | omega | exact Nat.le_refl _⟩, ⟨by (with_reducible repeat (first | apply Kd.V_alloc | apply Kd.V_drewN | apply Kd.V_drew)); exact HO_501001.out⟩, ⟨by (with_reducible repeat (first | refine cn ?_ _ | refine cd ?_ | refine ca ?_ _)); exact BK499.out⟩, ⟨by (with_reducible repeat (first | refine cn ?_ _ | refine cd ?_ | refine ca ?_ _)); exact BK500.out⟩, ⟨by repeat (first | (with_reducible first | exact HB.out | apply qa | apply qn | apply qd | refine qs ?_ GE499.out | refine qs ?_ GE500.out) | exact HB.out)⟩⟩
      case rest =>
       clear HC44
       try clear c1
       try clear p1
       try clear q1
       try clear hx1
       try clear c2
       try clear p2
       try clear q2
       try clear hx2
       try clear c3
       try clear c4
       try clear p4
       try clear q4
       try clear hx4
       try clear qi4
       try clear c6
       try clear c6b0
       try clear p6
       try clear c8
       try clear c8b0
       try clear p9
       try clear q9
       try clear hx9
       try clear c10
       try clear c10b0
       try clear c10b1
       try clear c11
       try clear c13
       try clear c13b0
       try clear c14
       try clear c14b0
       try clear p15
       try clear q15
       try clear hx15
       try clear c16
       try clear c16b0
       try clear p17
       try clear q17
       try clear hx17
       try clear c18
       try clear c19
       try clear c23
       try clear c23b0
       try clear c24
       try clear c24b0
       try clear p25
       try clear q25
       try clear hx25
       try clear c26
       try clear c28
       try clear c29
       try clear c30
       try clear c32
       try clear c41
       try clear c41b0
       try clear c41b1
       try clear c42
       try clear c42b0
       try clear c42b1
       try clear p43
       try clear q43
       try clear hx43
       try clear qi43
       try clear c45
       try clear c47
       try clear hcz20_0
       try clear hcz20_1
       try clear hcz20_2
       try clear hcz20_3
       try clear hcz20_4
       try clear hcz48_0
       try clear hcz48_1
       try clear hcz51_0
       try clear hcz51_1
       try clear hcz5_0
       try clear hcz5_1
       try clear hfz20_0
       try clear hfz20_1
       try clear hfz20_2
       try clear hfz20_3
       try clear hfz20_4
       try clear hfz48_0
       try clear hfz48_1
       try clear hfz51_0
       try clear hfz51_1
       try clear hfz5_0
       try clear hfz5_1
       try clear p1
       try clear p15
       try clear p17
       try clear p2
       try clear p25
       try clear p4
       try clear p43
       try clear p6
       try clear p9
       try clear q1
       try clear q15
       try clear q17
       try clear q2
       try clear q25
       try clear q4
       try clear q43
       try clear q9
       obtain ⟨kq, x501000_43, x501001_43, u501001, HA, HJ43, HO_501001, BK499, BK500, HB⟩ := hcut
       cases kq with
       | zero => exact absurd HA.out (by simp [parquetref01_Parse.j4])
       | succ kj43 =>
        have H := HA.out
        clear HA
        simp only [parquetref01_Parse.j4] at H
        replace H := Option.bind_eq_some_iff.mp H
        obtain ⟨t521, A530, H⟩ := H
        replace H : (if t521.toList = a0.toList then ((parquetref01_told.f x501000_43 x501001_43).bind fun bt522 => (some (bt522.1, bt522.2.1, bt522.2.2.1, bt522.2.2.2.1, bt522.2.2.2.2.1, bt522.2.2.2.2.2))) else (some (false, 0, 0, 0, 0, 11))) = some (r1, r2, r3, r4, r5, r6) := H
        have A53 := Aside0.mk A530
        clear A530
        by_cases c54 : t521.toList = a0.toList
        ·rw [if_pos c54] at H
         have c54b0 : (t521.toList == a0.toList) = true := beq_iff_eq.mpr c54
         have c54b1 : (t521.toList != a0.toList) = false := bne_eq_false_iff_eq.mpr c54
         clear c54
         replace H := Option.bind_eq_some_iff.mp H
         obtain ⟨⟨t522, t523, t524, t525, t526, t527⟩, A550, H⟩ := H
         replace H : (some (t522, t523, t524, t525, t526, t527)) = some (r1, r2, r3, r4, r5, r6) := H
         have A55 := Aside0.mk A550
         clear A550
         simp only [Option.some.injEq, Prod.mk.injEq] at H
         obtain ⟨rfl, rfl, rfl, rfl, rfl, rfl⟩ := H
         have hnb56 := NB500_499.out
         have hnc56 := NB499_500.out
         obtain ⟨hcz57_0, hcz57_1⟩ := cl2 BK500.out
         obtain ⟨hfz57_0, hfz57_1⟩ := fr2 BK500.out
         obtain ⟨Ao58, co58, eo58⟩ := Kd.V_slice HO_501001.out
         subst eo58
         go_wp2_with (first | ((with_reducible refine gate_callee (f := 43) rfl ?_); refine goesL_ (some 53) rfl rfl Try.func43 (by kernel_rfl) rfl #[.agg #[.bool x501000_43, .slice Ao58 x501001_43.length co58]] rfl (by (try simp only [List.map_toArray, List.map_cons, List.map_nil]); first | done | rfl | (simp only [List.length_drop, List.length_take]; rfl)) ?_; (with_reducible refine (parquetref01_Num_Text.calls kj43 x501000_43 (fun k_ => (k_ ≠ gb499 ∧ k_ ≠ gb500)) _ _ x501001_43 t521 _ ?side1 A53.out).mono ?_); (case side1 => exact HO_501001.out); rintro e w59 ⟨rfl, hb⟩; refine ⟨_, rfl, ?_⟩; have n0_ := Aside0.mk (Kd.V_below (by (with_reducible repeat (first | apply Kd.V_alloc | apply Kd.V_drewN | apply Kd.V_drew)); exact HO_501001.out) hb); have n1_ := bb BK499 hb; have n2_ := bb BK500 hb; have n3_ := Aside0.mk (below_step (by repeat (first | (with_reducible first | exact HB.out | apply qa | apply qn | apply qd | refine qs ?_ GE499.out | refine qs ?_ GE500.out) | exact HB.out)) hb); clear HO_501001; clear BK499; clear BK500; clear HB; have HO_501001 := n0_; have BK499 := n1_; have BK500 := n2_; have HB := n3_; clear n0_ n1_ n2_ n3_; (try clear hb); (try clear hb2); (try clear hk); (try clear hi); obtain ⟨hcz60_0, hcz60_1⟩ := cl2 BK500.out; obtain ⟨hfz60_0, hfz60_1⟩ := fr2 BK500.out) | ((with_reducible refine gate_callee (f := 68) rfl ?_); refine goesL_ (some 58) rfl rfl Try.func68 (by kernel_rfl) rfl #[.agg #[.bool x501000_43, .slice Ao58 x501001_43.length co58]] rfl (by (try simp only [List.map_toArray, List.map_cons, List.map_nil]); first | done | rfl | (simp only [List.length_drop, List.length_take]; rfl)) ?_; (with_reducible refine (parquetref01_told.calls x501000_43 _ _ x501001_43 t522 t523 t524 t525 t526 t527 _ ?side1 ?side2 A55.out).mono ?_); (case side1 => repeat (first | exact (Kd.V_reads' HO_501001.out).2.2 | (with_reducible refine Kd.C_alloc ?_ _) | (with_reducible refine Kd.C_drewN ?_ _) | (with_reducible refine Kd.C_drew ?_))); (case side2 => exact (Kd.V_reads' HO_501001.out).2.1); rintro e w61 ⟨rfl, hb⟩; refine ⟨_, rfl, ?_⟩; have n0_ := Aside0.mk (Kd.V_below (by (with_reducible repeat (first | apply Kd.V_alloc | apply Kd.V_drewN | apply Kd.V_drew)); exact HO_501001.out) hb); have n1_ := bb BK499 hb; have n2_ := bb BK500 hb; have n3_ := Aside0.mk (below_step (by repeat (first | (with_reducible first | exact HB.out | apply qa | apply qn | apply qd | refine qs ?_ GE499.out | refine qs ?_ GE500.out) | exact HB.out)) hb); clear HO_501001; clear BK499; clear BK500; clear HB; have HO_501001 := n0_; have BK499 := n1_; have BK500 := n2_; have HB := n3_; clear n0_ n1_ n2_ n3_; (try clear hb); (try clear hb2); (try clear hk); (try clear hi); obtain ⟨hcz62_0, hcz62_1, hcz62_2, hcz62_3, hcz62_4⟩ := cl5 BK499.out; obtain ⟨hfz62_0, hfz62_1, hfz62_2, hfz62_3, hfz62_4⟩ := fr5 BK499.out))
         refine bodyPost_ret (results_ct rfl _ _ gb499 27 #[.bool t522, .int .u64 t523, .int .u64 t524, .int .u64 t525, .int .u64 t526] (0, 0) _ rfl (by (with_reducible repeat (first | refine cn ?_ _ | refine cd ?_ | refine ca ?_ _)); exact bp5 (lb BK499.out)) Try.underlying27 rfl (by kernel_rfl)) rfl ?_
         exact ⟨by first | rfl | (simp [errW_none, errW_some] <;> rfl) | (simp [*, errW_none, errW_some] <;> rfl), by repeat (first | (with_reducible first | exact HB.out | apply qa | apply qn | apply qd | refine qs ?_ GE499.out | refine qs ?_ GE500.out) | exact HB.out)⟩
        ·rw [if_neg c54] at H
         have c54b0 : (t521.toList == a0.toList) = false := beq_eq_false_iff_ne.mpr c54
         have c54b1 : (t521.toList != a0.toList) = true := bne_iff_ne.mpr c54
         simp only [Option.some.injEq, Prod.mk.injEq] at H
         obtain ⟨rfl, rfl, rfl, rfl, rfl, rfl⟩ := H
         have hnb63 := NB500_499.out
         have hnc63 := NB499_500.out
         obtain ⟨hcz64_0, hcz64_1⟩ := cl2 BK500.out
         obtain ⟨hfz64_0, hfz64_1⟩ := fr2 BK500.out
         obtain ⟨Ao65, co65, eo65⟩ := Kd.V_slice HO_501001.out
         subst eo65
         go_wp2_with (first | ((with_reducible refine gate_callee (f := 43) rfl ?_); refine goesL_ (some 53) rfl rfl Try.func43 (by kernel_rfl) rfl #[.agg #[.bool x501000_43, .slice Ao65 x501001_43.length co65]] rfl (by (try simp only [List.map_toArray, List.map_cons, List.map_nil]); first | done | rfl | (simp only [List.length_drop, List.length_take]; rfl)) ?_; (with_reducible refine (parquetref01_Num_Text.calls kj43 x501000_43 (fun k_ => (k_ ≠ gb499 ∧ k_ ≠ gb500)) _ _ x501001_43 t521 _ ?side1 A53.out).mono ?_); (case side1 => exact HO_501001.out); rintro e w66 ⟨rfl, hb⟩; refine ⟨_, rfl, ?_⟩; have n0_ := Aside0.mk (Kd.V_below (by (with_reducible repeat (first | apply Kd.V_alloc | apply Kd.V_drewN | apply Kd.V_drew)); exact HO_501001.out) hb); have n1_ := bb BK499 hb; have n2_ := bb BK500 hb; have n3_ := Aside0.mk (below_step (by repeat (first | (with_reducible first | exact HB.out | apply qa | apply qn | apply qd | refine qs ?_ GE499.out | refine qs ?_ GE500.out) | exact HB.out)) hb); clear HO_501001; clear BK499; clear BK500; clear HB; have HO_501001 := n0_; have BK499 := n1_; have BK500 := n2_; have HB := n3_; clear n0_ n1_ n2_ n3_; (try clear hb); (try clear hb2); (try clear hk); (try clear hi); obtain ⟨hcz67_0, hcz67_1, hcz67_2, hcz67_3, hcz67_4⟩ := cl5 BK499.out; obtain ⟨hfz67_0, hfz67_1, hfz67_2, hfz67_3, hfz67_4⟩ := fr5 BK499.out))
         refine bodyPost_ret (results_ct rfl _ _ gb499 27 #[.bool false, .int .u64 0, .int .u64 0, .int .u64 0, .int .u64 0] (0, 0) _ rfl (by (with_reducible repeat (first | refine cn ?_ _ | refine cd ?_ | refine ca ?_ _)); exact bp5 (lb BK499.out)) Try.underlying27 rfl (by kernel_rfl)) rfl ?_
         exact ⟨by first | rfl | (simp [errW_none, errW_some] <;> rfl) | (simp [*, errW_none, errW_some] <;> rfl), by repeat (first | (with_reducible first | exact HB.out | apply qa | apply qn | apply qd | refine qs ?_ GE499.out | refine qs ?_ GE500.out) | exact HB.out)⟩
end Go.Proofs.Ytmpbbodafenonaa.MT

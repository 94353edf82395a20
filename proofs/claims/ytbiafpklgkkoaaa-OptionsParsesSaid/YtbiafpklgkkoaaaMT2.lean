/- The functions of the given program told as Lean functions, each with its contract proved; no condition. -/
import Derived.Test.YtbiafpklgkkoaaaMT0
namespace Go.Proofs.Ytbiafpklgkkoaaa.MT
open Go.RowKit Go.Proofs.YtbiafpklgkkoaaaW.PrintWords Go.Proofs.YtbiafpklgkkoaaaW.PrintLast Go.Proofs.YtbiafpklgkkoaaaW.PrintMore
attribute [local go_sem] max2_int min2_int max_two min_two max_three min_three max_four min_four   -- for this text's walks alone
set_option linter.unusedVariables false
set_option linter.unusedSimpArgs false

/-! ### parquetlaw06_known: given 9 -/
def parquetlaw06_known.f : Option (Bool) := some true
theorem parquetlaw06_known.calls (r : Bool) (w : World) (h : parquetlaw06_known.f = some r) :
  Calls Try.prog 9 #[] w fun e w' => e = .returned (.bool r) ∧ Below w.heap.size w w' := by
 cases h
 exact known_ok w

/-! ### options_Parse: given 10 -/
def options_Parse.f (l0 : List Int) : Option (Int × Int × Bool × Int × Int) := parseO l0
theorem options_Parse.calls (A0 : Option Addr) (c0 : Nat) (l0 : List Int) (r1 : Int) (r2 : Int) (r3 : Bool) (r4 : Int) (r5 : Int) (w : World) (hr0 : Kd.C (Kd.int .u8) w A0 l0.length l0) (hc0 : l0.length ≤ c0) (h : options_Parse.f l0 = some (r1, r2, r3, r4, r5)) :
  Calls Try.prog 10 #[.slice A0 l0.length c0] w fun e w' => e = .returned (.tuple #[.agg #[.int .i64 r1, .int .i64 r2, .bool r3], .int .i64 r4, .int .i64 r5]) ∧ Below w.heap.size w w' :=
 parse_r A0 c0 l0 r1 r2 r3 r4 r5 w (Kd.reads_of_C hr0) hc0 h

/-! ### parquetref02_All: function 25 -/
mutual
def parquetref02_All.l0 : Nat → List Int → List (S60) → Bool → Int → Int → Option ((List (S60)) × Int)
 | 0, _, _, _, _, _ => none
 | k + 1, x0, x4, x5, x6, x7 => if x7 ≤ (x0.length : Int) then (if x7 < (x0.length : Int) then (if 0 ≤ x7 then (parquetref02_All.j1 k x0 x4 x5 x6 x7 (rd x0 x7)) else (none)) else (parquetref02_All.j1 k x0 x4 x5 x6 x7 10)) else (some (x4, 0))
def parquetref02_All.j1 : Nat → List Int → List (S60) → Bool → Int → Int → Int → Option ((List (S60)) × Int)
 | 0, _, _, _, _, _, _ => none
 | k + 1, x0, x4, x5, x6, x7, x8 => if x8 = 32 then (parquetref02_All.j2 k x0 x4 x5 x6 x7 x8 true) else (if x8 = 9 then (parquetref02_All.j2 k x0 x4 x5 x6 x7 x8 true) else (if x8 = 13 then (parquetref02_All.j2 k x0 x4 x5 x6 x7 x8 true) else (parquetref02_All.j2 k x0 x4 x5 x6 x7 x8 (x8 == 10))))
def parquetref02_All.j2 : Nat → List Int → List (S60) → Bool → Int → Int → Int → Bool → Option ((List (S60)) × Int)
 | 0, _, _, _, _, _, _, _ => none
 | k + 1, x0, x4, x5, x6, x7, x8, x9 => if x5 = true then (parquetref02_All.l0 k x0 x4 (x8 != 10) x6 (wrap64 (x7 + 1))) else (if x6 ≥ 0 then (parquetref02_All.j3 k x0 x4 x5 x6 x7 x8 x9 x9) else (parquetref02_All.j3 k x0 x4 x5 x6 x7 x8 x9 false))
def parquetref02_All.j3 : Nat → List Int → List (S60) → Bool → Int → Int → Int → Bool → Bool → Option ((List (S60)) × Int)
 | 0, _, _, _, _, _, _, _, _ => none
 | k + 1, x0, x4, x5, x6, x7, x8, x9, x45 => if x45 = true then (if 0 ≤ x6 then (if x6 ≤ x7 then (if x7 ≤ (x0.length : Int) then (if x4.length < 5864062014805 then (parquetref02_All.l0 k x0 (x4 ++ [(⟨x6, strOfNums ((x0.take (x7 : Int).toNat).drop (x6 : Int).toNat)⟩ : S60)]) x5 (-1) (wrap64 (x7 + 1))) else (none)) else (none)) else (none)) else (none)) else (if x6 < 0 then (parquetref02_All.j4 k x0 x4 x5 x6 x7 x9 (x8 == 35)) else (parquetref02_All.j4 k x0 x4 x5 x6 x7 x9 false))
def parquetref02_All.j4 : Nat → List Int → List (S60) → Bool → Int → Int → Bool → Bool → Option ((List (S60)) × Int)
 | 0, _, _, _, _, _, _, _ => none
 | k + 1, x0, x4, x5, x6, x7, x9, x61 => if x61 = true then (parquetref02_All.l0 k x0 x4 true x6 (wrap64 (x7 + 1))) else (if x6 < 0 then (if x9 = true then (parquetref02_All.l0 k x0 x4 x5 x6 (wrap64 (x7 + 1))) else (parquetref02_All.l0 k x0 x4 x5 x7 (wrap64 (x7 + 1)))) else (parquetref02_All.l0 k x0 x4 x5 x6 (wrap64 (x7 + 1))))
end
def parquetref02_All.f (k : Nat) (l0 : List Int) : Option ((List (S60)) × Int) := if (l0.length : Int) > 1048576 then (some (([] : List (S60)), 3)) else (parquetref02_All.l0 k l0 ([] : List (S60)) false (-1) 0)
theorem parquetref02_All.mono_l : ∀ k, (∀ y0 y1 y2 y3 y4, LeO (parquetref02_All.l0 k y0 y1 y2 y3 y4) (parquetref02_All.l0 (k + 1) y0 y1 y2 y3 y4)) ∧ (∀ y0 y1 y2 y3 y4 y5, LeO (parquetref02_All.j1 k y0 y1 y2 y3 y4 y5) (parquetref02_All.j1 (k + 1) y0 y1 y2 y3 y4 y5)) ∧ (∀ y0 y1 y2 y3 y4 y5 y6, LeO (parquetref02_All.j2 k y0 y1 y2 y3 y4 y5 y6) (parquetref02_All.j2 (k + 1) y0 y1 y2 y3 y4 y5 y6)) ∧ (∀ y0 y1 y2 y3 y4 y5 y6 y7, LeO (parquetref02_All.j3 k y0 y1 y2 y3 y4 y5 y6 y7) (parquetref02_All.j3 (k + 1) y0 y1 y2 y3 y4 y5 y6 y7)) ∧ (∀ y0 y1 y2 y3 y4 y5 y6, LeO (parquetref02_All.j4 k y0 y1 y2 y3 y4 y5 y6) (parquetref02_All.j4 (k + 1) y0 y1 y2 y3 y4 y5 y6))
 | 0 => ⟨fun _ _ _ _ _ r h => by simp [parquetref02_All.l0] at h, fun _ _ _ _ _ _ r h => by simp [parquetref02_All.j1] at h, fun _ _ _ _ _ _ _ r h => by simp [parquetref02_All.j2] at h, fun _ _ _ _ _ _ _ _ r h => by simp [parquetref02_All.j3] at h, fun _ _ _ _ _ _ _ r h => by simp [parquetref02_All.j4] at h⟩
 | k + 1 => by
  obtain ⟨ih0, ih1, ih2, ih3, ih4⟩ := parquetref02_All.mono_l k
  refine ⟨?_, ?_, ?_, ?_, ?_⟩
  ·intro y0 y1 y2 y3 y4
   unfold parquetref02_All.l0
   repeat' first
   | (with_reducible exact ih0 _ _ _ _ _)
   | (with_reducible exact ih1 _ _ _ _ _ _)
   | (with_reducible exact ih2 _ _ _ _ _ _ _)
   | (with_reducible exact ih3 _ _ _ _ _ _ _ _)
   | (with_reducible exact ih4 _ _ _ _ _ _ _)
   | (with_reducible exact LeO.refl _)
   | (with_reducible exact LeO.none _)
   | (with_reducible refine LeO.ite ?_ ?_)
   | (with_reducible refine LeO.bind ?_ (fun _ => ?_))
   | exact ih0 _ _ _ _ _
   | exact ih1 _ _ _ _ _ _
   | exact ih2 _ _ _ _ _ _ _
   | exact ih3 _ _ _ _ _ _ _ _
   | exact ih4 _ _ _ _ _ _ _
   | exact LeO.none _
   | refine LeO.ite ?_ ?_
   | refine LeO.bind ?_ (fun _ => ?_)
  ·intro y0 y1 y2 y3 y4 y5
   unfold parquetref02_All.j1
   repeat' first
   | (with_reducible exact ih0 _ _ _ _ _)
   | (with_reducible exact ih1 _ _ _ _ _ _)
   | (with_reducible exact ih2 _ _ _ _ _ _ _)
   | (with_reducible exact ih3 _ _ _ _ _ _ _ _)
   | (with_reducible exact ih4 _ _ _ _ _ _ _)
   | (with_reducible exact LeO.refl _)
   | (with_reducible exact LeO.none _)
   | (with_reducible refine LeO.ite ?_ ?_)
   | (with_reducible refine LeO.bind ?_ (fun _ => ?_))
   | exact ih0 _ _ _ _ _
   | exact ih1 _ _ _ _ _ _
   | exact ih2 _ _ _ _ _ _ _
   | exact ih3 _ _ _ _ _ _ _ _
   | exact ih4 _ _ _ _ _ _ _
   | exact LeO.none _
   | refine LeO.ite ?_ ?_
   | refine LeO.bind ?_ (fun _ => ?_)
  ·intro y0 y1 y2 y3 y4 y5 y6
   unfold parquetref02_All.j2
   repeat' first
   | (with_reducible exact ih0 _ _ _ _ _)
   | (with_reducible exact ih1 _ _ _ _ _ _)
   | (with_reducible exact ih2 _ _ _ _ _ _ _)
   | (with_reducible exact ih3 _ _ _ _ _ _ _ _)
   | (with_reducible exact ih4 _ _ _ _ _ _ _)
   | (with_reducible exact LeO.refl _)
   | (with_reducible exact LeO.none _)
   | (with_reducible refine LeO.ite ?_ ?_)
   | (with_reducible refine LeO.bind ?_ (fun _ => ?_))
   | exact ih0 _ _ _ _ _
   | exact ih1 _ _ _ _ _ _
   | exact ih2 _ _ _ _ _ _ _
   | exact ih3 _ _ _ _ _ _ _ _
   | exact ih4 _ _ _ _ _ _ _
   | exact LeO.none _
   | refine LeO.ite ?_ ?_
   | refine LeO.bind ?_ (fun _ => ?_)
  ·intro y0 y1 y2 y3 y4 y5 y6 y7
   unfold parquetref02_All.j3
   repeat' first
   | (with_reducible exact ih0 _ _ _ _ _)
   | (with_reducible exact ih1 _ _ _ _ _ _)
   | (with_reducible exact ih2 _ _ _ _ _ _ _)
   | (with_reducible exact ih3 _ _ _ _ _ _ _ _)
   | (with_reducible exact ih4 _ _ _ _ _ _ _)
   | (with_reducible exact LeO.refl _)
   | (with_reducible exact LeO.none _)
   | (with_reducible refine LeO.ite ?_ ?_)
   | (with_reducible refine LeO.bind ?_ (fun _ => ?_))
   | exact ih0 _ _ _ _ _
   | exact ih1 _ _ _ _ _ _
   | exact ih2 _ _ _ _ _ _ _
   | exact ih3 _ _ _ _ _ _ _ _
   | exact ih4 _ _ _ _ _ _ _
   | exact LeO.none _
   | refine LeO.ite ?_ ?_
   | refine LeO.bind ?_ (fun _ => ?_)
  ·intro y0 y1 y2 y3 y4 y5 y6
   unfold parquetref02_All.j4
   repeat' first
   | (with_reducible exact ih0 _ _ _ _ _)
   | (with_reducible exact ih1 _ _ _ _ _ _)
   | (with_reducible exact ih2 _ _ _ _ _ _ _)
   | (with_reducible exact ih3 _ _ _ _ _ _ _ _)
   | (with_reducible exact ih4 _ _ _ _ _ _ _)
   | (with_reducible exact LeO.refl _)
   | (with_reducible exact LeO.none _)
   | (with_reducible refine LeO.ite ?_ ?_)
   | (with_reducible refine LeO.bind ?_ (fun _ => ?_))
   | exact ih0 _ _ _ _ _
   | exact ih1 _ _ _ _ _ _
   | exact ih2 _ _ _ _ _ _ _
   | exact ih3 _ _ _ _ _ _ _ _
   | exact ih4 _ _ _ _ _ _ _
   | exact LeO.none _
   | refine LeO.ite ?_ ?_
   | refine LeO.bind ?_ (fun _ => ?_)
theorem parquetref02_All.mono : ∀ a0 k, LeO (parquetref02_All.f k a0) (parquetref02_All.f (k + 1) a0) := by
 intro a0 k
 obtain ⟨ih0, ih1, ih2, ih3, ih4⟩ := parquetref02_All.mono_l k
 unfold parquetref02_All.f
 repeat' first
   | (with_reducible exact ih0 _ _ _ _ _)
   | (with_reducible exact ih1 _ _ _ _ _ _)
   | (with_reducible exact ih2 _ _ _ _ _ _ _)
   | (with_reducible exact ih3 _ _ _ _ _ _ _ _)
   | (with_reducible exact ih4 _ _ _ _ _ _ _)
   | (with_reducible exact LeO.refl _)
   | (with_reducible exact LeO.none _)
   | (with_reducible refine LeO.ite ?_ ?_)
   | (with_reducible refine LeO.bind ?_ (fun _ => ?_))
   | exact ih0 _ _ _ _ _
   | exact ih1 _ _ _ _ _ _
   | exact ih2 _ _ _ _ _ _ _
   | exact ih3 _ _ _ _ _ _ _ _
   | exact ih4 _ _ _ _ _ _ _
   | exact LeO.none _
   | refine LeO.ite ?_ ?_
   | refine LeO.bind ?_ (fun _ => ?_)
set_option maxHeartbeats 8000000 in
set_option maxRecDepth 100000 in
theorem parquetref02_All.calls (k : Nat) (A0 : Option Addr) (c0 : Nat) (l0 : List Int) (r1 : List (S60)) (r2 : Int) (w : World) (hr0 : Kd.C (Kd.int .u8) w A0 l0.length l0) (hc0 : l0.length ≤ c0) (h : parquetref02_All.f k l0 = some (r1, r2)) :
  Calls Try.prog 25 #[.slice A0 l0.length c0] w fun e w' => ∃ v0_ : Value, e = .returned (.tuple #[v0_, .int .i64 r2]) ∧ Kd.R k60 60 w' w.heap.size (fun _ => True) v0_ r1 ∧ Below w.heap.size w w' := by
 have hu60 := Try.underlying60
 have HR0 := Aside0.mk hr0
 have HC0 := Aside0.mk hc0
 clear hr0 hc0
 have HB := Aside0.mk (Below.refl w.heap.size w)
 have H : (if (l0.length : Int) > 1048576 then (some (([] : List (S60)), 3)) else (parquetref02_All.l0 k l0 ([] : List (S60)) false (-1) 0)) = some (r1, r2) := h
 clear h
 by_cases c2 : (l0.length : Int) > 1048576
 ·rw [if_pos c2] at H
  have c2b0 : decide (1048576 < (l0.length : Int)) = true := decide_eq_true c2
  have c2b1 : decide (1048576 < l0.length) = true := decide_eq_true (by omega)
  clear c2
  simp only [Option.some.injEq, Prod.mk.injEq] at H
  obtain ⟨rfl, rfl⟩ := H
  go_enter Try.func25, Try.ntmps25
  go_wp2
  go_ret2
  exact ⟨_, by first | rfl | (simp [errW_none, errW_some] <;> rfl) | (simp [*, errW_none, errW_some] <;> rfl), by first | exact Kd.R_nil _ _ _ _ _ | exact Kd.N_nil _ _ _ _ _ | exact Kd.V_nil _ _ _ _ _ | exact Kd.Q_nil _ _ _ _ _ | exact Kd.S_nil _ _ _ _ _, by repeat (first | (with_reducible first | exact HB.out | apply qa | apply qn | apply qd) | exact HB.out)⟩
 ·rw [if_neg c2] at H
  have c2b0 : decide (1048576 < (l0.length : Int)) = false := decide_eq_false c2
  have c2b1 : decide (1048576 < l0.length) = false := decide_eq_false (by omega)
  clear c2
  have H' := Aside0.mk H
  clear H
  go_enter Try.func25, Try.ntmps25
  go_wp2
  go_loopg [4, 5, 6, 7] k (fun kq v4 v5 v6 v7 w' => ∃ (x4_1 : List (S60)) (x5_1 : Bool) (x6_1 : Int) (x7_1 : Int), v5 = .bool x5_1 ∧ v6 = .int .i64 x6_1 ∧ v7 = .int .i64 x7_1 ∧ Aside0 (parquetref02_All.l0 kq l0 x4_1 x5_1 x6_1 x7_1 = some (r1, r2)) ∧ Aside0 (kq ≤ k) ∧ Aside0 (Kd.R k60 60 w' w.heap.size (fun _ => True) v4 x4_1) ∧ Aside0 (Below w.heap.size w w'))
  case atStart => exact ⟨(([] : List (S60))), (false), ((-1)), (0), (by first | rfl | (simp; done) | (simp [*]; done)), (by first | rfl | (simp; done) | (simp [*]; done)), (by first | rfl | (simp; done) | (simp [*]; done)), H', ⟨Nat.le_refl _⟩, ⟨by first | exact Kd.R_nil _ _ _ _ _ | exact Kd.N_nil _ _ _ _ _ | exact Kd.V_nil _ _ _ _ _ | exact Kd.Q_nil _ _ _ _ _ | exact Kd.S_nil _ _ _ _ _⟩, ⟨by repeat (first | (with_reducible first | exact HB.out | apply qa | apply qn | apply qd) | exact HB.out)⟩⟩
  case round =>
   clear H'
   try clear c2
   try clear c2b0
   try clear c2b1
   try clear p2
   obtain ⟨x4_1, x5_1, x6_1, x7_1, rfl, rfl, rfl, HA, HK1, HO_4, HB⟩ := hrel
   cases gk with
   | zero => exact absurd HA.out (by simp [parquetref02_All.l0])
   | succ k1 =>
    have H := HA.out
    clear HA
    simp only [parquetref02_All.l0] at H
    by_cases c3 : x7_1 ≤ (l0.length : Int)
    ·rw [if_pos c3] at H
     have c3b0 : decide (x7_1 ≤ (l0.length : Int)) = true := decide_eq_true c3
     clear c3
     have HC4 := Aside0.mk H
     clear H
     go_upto_if 22 with (fail)
     go_cut [8] (fun v8 wc => ∃ (kq : Nat) (x8_3 : Int), v8 = .int .u8 x8_3 ∧ Aside0 (parquetref02_All.j1 kq l0 x4_1 x5_1 x6_1 x7_1 x8_3 = some (r1, r2)) ∧ Aside0 (kq ≤ k1) ∧ Aside0 (Kd.R k60 60 wc w.heap.size (fun _ => True) u4 x4_1) ∧ Aside0 (Below w.heap.size w wc))
     case first =>
      have H := HC4.out
      clear HC4
      by_cases c5 : x7_1 < (l0.length : Int)
      ·rw [if_pos c5] at H
       have c5b0 : decide (x7_1 < (l0.length : Int)) = true := decide_eq_true c5
       clear c5
       (first | rw [c5b0] | (simp only [i64_w, i32_w]; rw [c5b0]) | skip)
       by_cases c6 : 0 ≤ x7_1
       ·rw [if_pos c6] at H
        have c6b0 : decide (0 ≤ x7_1) = true := decide_eq_true c6
        clear c6
        have H' := Aside0.mk H
        clear H
        have p101 : 0 ≤ (x7_1 : Int) := of_decide_eq_true (by first | (with_reducible assumption) | assumption)
        have q101 : x7_1 < (l0.length : Int) := of_decide_eq_true (by first | (with_reducible assumption) | assumption)
        obtain ⟨ad101, e101, hx101_0⟩ := Kd.at_int HR0.out x7_1 p101 q101
        cases e101
        replace hx101_0 := (HB.out.cell (World.block_lt_of_cell? w _ hx101_0)).trans hx101_0
        replace p101 := eq_true p101
        replace q101 := eq_true q101
        go_wp2
        go_meet
        case rel => exact ⟨_, (rd l0 x7_1), (by first | rfl | (simp; done) | (simp [*]; done)), H', ⟨by have := HK1.out; first | omega | exact Nat.le_refl _⟩, ⟨by (with_reducible repeat (first | apply Kd.R_alloc | apply Kd.R_drewN | apply Kd.R_drew)); exact HO_4.out⟩, ⟨by repeat (first | (with_reducible first | exact HB.out | apply qa | apply qn | apply qd) | exact HB.out)⟩⟩
       ·rw [if_neg c6] at H
        exact absurd H (by simp)
      ·rw [if_neg c5] at H
       have c5b0 : decide (x7_1 < (l0.length : Int)) = false := decide_eq_false c5
       clear c5
       (first | rw [c5b0] | (simp only [i64_w, i32_w]; rw [c5b0]) | skip)
       have H' := Aside0.mk H
       clear H
       go_wp2
       go_meet
       case rel => exact ⟨_, (10), (by first | rfl | (simp; done) | (simp [*]; done)), H', ⟨by have := HK1.out; first | omega | exact Nat.le_refl _⟩, ⟨by (with_reducible repeat (first | apply Kd.R_alloc | apply Kd.R_drewN | apply Kd.R_drew)); exact HO_4.out⟩, ⟨by repeat (first | (with_reducible first | exact HB.out | apply qa | apply qn | apply qd) | exact HB.out)⟩⟩
     case rest =>
      clear HC4
      try clear p1
      try clear q1
      try clear hx1
      try clear c2
      try clear c2b0
      try clear c2b1
      try clear p2
      try clear c3
      try clear c3b0
      try clear c5
      try clear c5b0
      try clear c6
      try clear c6b0
      try clear hx101_0
      try clear p101
      try clear p2
      try clear q101
      obtain ⟨kq, x8_3, rfl, HA, HJ3, HO_4, HB⟩ := hcut
      cases kq with
      | zero => exact absurd HA.out (by simp [parquetref02_All.j1])
      | succ kj3 =>
       have H := HA.out
       clear HA
       simp only [parquetref02_All.j1] at H
       have HC7 := Aside0.mk H
       clear H
       go_upto_region 12 with (fail)
       go_cut [9] (fun v9 wc => ∃ (kq : Nat) (x9_6 : Bool), v9 = .bool x9_6 ∧ Aside0 (parquetref02_All.j2 kq l0 x4_1 x5_1 x6_1 x7_1 x8_3 x9_6 = some (r1, r2)) ∧ Aside0 (kq ≤ kj3) ∧ Aside0 (Kd.R k60 60 wc w.heap.size (fun _ => True) u4 x4_1) ∧ Aside0 (Below w.heap.size w wc))
       case first =>
        have H := HC7.out
        clear HC7
        by_cases c8 : x8_3 = 32
        ·rw [if_pos c8] at H
         have c8b0 : (x8_3 == 32) = true := beq_iff_eq.mpr c8
         have c8b1 : (x8_3 != 32) = false := bne_eq_false_iff_eq.mpr c8
         clear c8
         (first | rw [c8b0] | (simp only [i64_w, i32_w]; rw [c8b0]) | skip)
         have H' := Aside0.mk H
         clear H
         go_wp2
         go_meet
         case rel => exact ⟨_, (true), (by first | rfl | (simp; done) | (simp [*]; done)), H', ⟨by have := HK1.out; have := HJ3.out; first | omega | exact Nat.le_refl _⟩, ⟨by (with_reducible repeat (first | apply Kd.R_alloc | apply Kd.R_drewN | apply Kd.R_drew)); exact HO_4.out⟩, ⟨by repeat (first | (with_reducible first | exact HB.out | apply qa | apply qn | apply qd) | exact HB.out)⟩⟩
        ·rw [if_neg c8] at H
         have c8b0 : (x8_3 == 32) = false := beq_eq_false_iff_ne.mpr c8
         have c8b1 : (x8_3 != 32) = true := bne_iff_ne.mpr c8
         (first | rw [c8b0] | (simp only [i64_w, i32_w]; rw [c8b0]) | skip)
         by_cases c9 : x8_3 = 9
         ·rw [if_pos c9] at H
          have c9b0 : (x8_3 == 9) = true := beq_iff_eq.mpr c9
          have c9b1 : (x8_3 != 9) = false := bne_eq_false_iff_eq.mpr c9
          clear c9
          have H' := Aside0.mk H
          clear H
          go_wp2
          go_meet
          case rel => exact ⟨_, (true), (by first | rfl | (simp; done) | (simp [*]; done)), H', ⟨by have := HK1.out; have := HJ3.out; first | omega | exact Nat.le_refl _⟩, ⟨by (with_reducible repeat (first | apply Kd.R_alloc | apply Kd.R_drewN | apply Kd.R_drew)); exact HO_4.out⟩, ⟨by repeat (first | (with_reducible first | exact HB.out | apply qa | apply qn | apply qd) | exact HB.out)⟩⟩
         ·rw [if_neg c9] at H
          have c9b0 : (x8_3 == 9) = false := beq_eq_false_iff_ne.mpr c9
          have c9b1 : (x8_3 != 9) = true := bne_iff_ne.mpr c9
          by_cases c10 : x8_3 = 13
          ·rw [if_pos c10] at H
           have c10b0 : (x8_3 == 13) = true := beq_iff_eq.mpr c10
           have c10b1 : (x8_3 != 13) = false := bne_eq_false_iff_eq.mpr c10
           clear c10
           have H' := Aside0.mk H
           clear H
           go_wp2
           go_meet
           case rel => exact ⟨_, (true), (by first | rfl | (simp; done) | (simp [*]; done)), H', ⟨by have := HK1.out; have := HJ3.out; first | omega | exact Nat.le_refl _⟩, ⟨by (with_reducible repeat (first | apply Kd.R_alloc | apply Kd.R_drewN | apply Kd.R_drew)); exact HO_4.out⟩, ⟨by repeat (first | (with_reducible first | exact HB.out | apply qa | apply qn | apply qd) | exact HB.out)⟩⟩
          ·rw [if_neg c10] at H
           have c10b0 : (x8_3 == 13) = false := beq_eq_false_iff_ne.mpr c10
           have c10b1 : (x8_3 != 13) = true := bne_iff_ne.mpr c10
           have H' := Aside0.mk H
           clear H
           go_wp2
           go_meet
           case rel => exact ⟨_, ((x8_3 == 10)), (by first | rfl | (simp; done) | (simp [*]; done)), H', ⟨by have := HK1.out; have := HJ3.out; first | omega | exact Nat.le_refl _⟩, ⟨by (with_reducible repeat (first | apply Kd.R_alloc | apply Kd.R_drewN | apply Kd.R_drew)); exact HO_4.out⟩, ⟨by repeat (first | (with_reducible first | exact HB.out | apply qa | apply qn | apply qd) | exact HB.out)⟩⟩
       case rest =>
        clear HC7
        try clear c1
        try clear p1
        try clear q1
        try clear hx1
        try clear c2
        try clear c2b0
        try clear c2b1
        try clear p2
        try clear c3
        try clear c3b0
        try clear c5
        try clear c5b0
        try clear c6
        try clear c6b0
        try clear c8
        try clear c8b0
        try clear c8b1
        try clear c9
        try clear c9b0
        try clear c9b1
        try clear c10
        try clear c10b0
        try clear c10b1
        try clear p10
        try clear q10
        try clear hx10
        try clear hx101_0
        try clear p1
        try clear p101
        try clear p2
        try clear q1
        try clear q101
        obtain ⟨kq, x9_6, rfl, HA, HJ6, HO_4, HB⟩ := hcut
        cases kq with
        | zero => exact absurd HA.out (by simp [parquetref02_All.j2])
        | succ kj6 =>
         have H := HA.out
         clear HA
         simp only [parquetref02_All.j2] at H
         by_cases c11 : x5_1 = true
         ·subst c11
          have H1 : (parquetref02_All.l0 kj6 l0 x4_1 (x8_3 != 10) x6_1 (wrap64 (x7_1 + 1))) = some (r1, r2) := by rw [if_pos rfl] at H; exact H
          clear H
          have H := H1
          clear H1
          have H' := Aside0.mk H
          clear H
          go_wp2
          go_roundg kj6
          case measure => have := HK1.out; have := HJ3.out; have := HJ6.out; omega
          case rel => exact ⟨(x4_1), ((x8_3 != 10)), (x6_1), (wrap64 (x7_1 + 1)), (by first | rfl | (simp; done) | (simp [*]; done)), (by first | rfl | (simp; done) | (simp [*]; done)), (by first | rfl | (simp; done) | (simp [*]; done)), H', ⟨by have := HK1.out; have := HJ3.out; have := HJ6.out; omega⟩, ⟨by (with_reducible repeat (first | apply Kd.R_alloc | apply Kd.R_drewN | apply Kd.R_drew)); exact HO_4.out⟩, ⟨by repeat (first | (with_reducible first | exact HB.out | apply qa | apply qn | apply qd) | exact HB.out)⟩⟩
         ·replace c11 := Bool.eq_false_iff.mpr c11
          subst c11
          have H1 : (if x6_1 ≥ 0 then (parquetref02_All.j3 kj6 l0 x4_1 false x6_1 x7_1 x8_3 x9_6 x9_6) else (parquetref02_All.j3 kj6 l0 x4_1 false x6_1 x7_1 x8_3 x9_6 false)) = some (r1, r2) := by rw [if_neg (show ¬ (false = true) by decide)] at H; exact H
          clear H
          have H := H1
          clear H1
          have HC12 := Aside0.mk H
          clear H
          go_upto_region 15 with (fail)
          go_cut [45] (fun v45 wc => ∃ (kq : Nat) (x45_11 : Bool), v45 = .bool x45_11 ∧ Aside0 (parquetref02_All.j3 kq l0 x4_1 false x6_1 x7_1 x8_3 x9_6 x45_11 = some (r1, r2)) ∧ Aside0 (kq ≤ kj6) ∧ Aside0 (Kd.R k60 60 wc w.heap.size (fun _ => True) u4 x4_1) ∧ Aside0 (Below w.heap.size w wc))
          case first =>
           have H := HC12.out
           clear HC12
           by_cases c13 : x6_1 ≥ 0
           ·rw [if_pos c13] at H
            have c13b0 : decide (0 ≤ x6_1) = true := decide_eq_true c13
            clear c13
            (first | rw [c13b0] | (simp only [i64_w, i32_w]; rw [c13b0]) | skip)
            have H' := Aside0.mk H
            clear H
            go_wp2
            go_meet
            case rel => exact ⟨_, (x9_6), (by first | rfl | (simp; done) | (simp [*]; done)), H', ⟨by have := HK1.out; have := HJ3.out; have := HJ6.out; first | omega | exact Nat.le_refl _⟩, ⟨by (with_reducible repeat (first | apply Kd.R_alloc | apply Kd.R_drewN | apply Kd.R_drew)); exact HO_4.out⟩, ⟨by repeat (first | (with_reducible first | exact HB.out | apply qa | apply qn | apply qd) | exact HB.out)⟩⟩
           ·rw [if_neg c13] at H
            have c13b0 : decide (0 ≤ x6_1) = false := decide_eq_false c13
            clear c13
            (first | rw [c13b0] | (simp only [i64_w, i32_w]; rw [c13b0]) | skip)
            have H' := Aside0.mk H
            clear H
            go_wp2
            go_meet
            case rel => exact ⟨_, (false), (by first | rfl | (simp; done) | (simp [*]; done)), H', ⟨by have := HK1.out; have := HJ3.out; have := HJ6.out; first | omega | exact Nat.le_refl _⟩, ⟨by (with_reducible repeat (first | apply Kd.R_alloc | apply Kd.R_drewN | apply Kd.R_drew)); exact HO_4.out⟩, ⟨by repeat (first | (with_reducible first | exact HB.out | apply qa | apply qn | apply qd) | exact HB.out)⟩⟩
          case rest =>
           clear HC12
           try clear c1
           try clear p1
           try clear q1
           try clear hx1
           try clear c2
           try clear c2b0
           try clear c2b1
           try clear p2
           try clear c3
           try clear c3b0
           try clear c5
           try clear c5b0
           try clear c6
           try clear c6b0
           try clear p6
           try clear c8
           try clear c8b0
           try clear c8b1
           try clear c9
           try clear c9b0
           try clear c9b1
           try clear c10
           try clear c10b0
           try clear c10b1
           try clear p10
           try clear q10
           try clear hx10
           try clear c11
           try clear c13
           try clear c13b0
           try clear hx101_0
           try clear p1
           try clear p10
           try clear p101
           try clear p2
           try clear q1
           try clear q10
           try clear q101
           obtain ⟨kq, x45_11, rfl, HA, HJ11, HO_4, HB⟩ := hcut
           cases kq with
           | zero => exact absurd HA.out (by simp [parquetref02_All.j3])
           | succ kj11 =>
            have H := HA.out
            clear HA
            simp only [parquetref02_All.j3] at H
            by_cases c14 : x45_11 = true
            ·subst c14
             have H1 : (if 0 ≤ x6_1 then (if x6_1 ≤ x7_1 then (if x7_1 ≤ (l0.length : Int) then (if x4_1.length < 5864062014805 then (parquetref02_All.l0 kj11 l0 (x4_1 ++ [(⟨x6_1, strOfNums ((l0.take (x7_1 : Int).toNat).drop (x6_1 : Int).toNat)⟩ : S60)]) false (-1) (wrap64 (x7_1 + 1))) else (none)) else (none)) else (none)) else (none)) = some (r1, r2) := by rw [if_pos rfl] at H; exact H
             clear H
             have H := H1
             clear H1
             by_cases c15 : 0 ≤ x6_1
             ·rw [if_pos c15] at H
              have c15b0 := eq_true c15
              have c15b1 : decide (0 ≤ x6_1) = true := decide_eq_true c15
              clear c15
              by_cases c16 : x6_1 ≤ x7_1
              ·rw [if_pos c16] at H
               have c16b0 := eq_true c16
               have c16b1 : decide (x6_1 ≤ x7_1) = true := decide_eq_true c16
               clear c16
               by_cases c17 : x7_1 ≤ (l0.length : Int)
               ·rw [if_pos c17] at H
                have c17b0 := eq_true c17
                have c17b1 : decide (x7_1 ≤ (l0.length : Int)) = true := decide_eq_true c17
                clear c17
                by_cases c18 : x4_1.length < 5864062014805
                ·rw [if_pos c18] at H
                 have LMc18 := Aside0.mk c18
                 clear c18
                 obtain ⟨y103, hy103⟩ : ∃ y_ : List (S60), y_ = (x4_1 ++ [(⟨x6_1, strOfNums ((l0.take (x7_1 : Int).toNat).drop (x6_1 : Int).toNat)⟩ : S60)]) := ⟨_, rfl⟩
                 replace H : (parquetref02_All.l0 kj11 l0 y103 false (-1) (wrap64 (x7_1 + 1))) = some (r1, r2) := by first | (rw [hy103]; with_reducible exact H) | (have H2_ := (Option.bind_some _ _).symm.trans H; rw [hy103]; with_reducible exact H2_) | (have H2_ := (Option.bind_some _ _).symm.trans H; with_reducible exact H2_) | with_reducible exact H | (rw [hy103]; exact H) | exact H
                 have Ny103 := Aside0.mk hy103
                 clear hy103
                 have H' := Aside0.mk H
                 clear H
                 obtain ⟨i019, hi019, _, hsz19, _⟩ := info_parts info5
                 obtain ⟨A19, hcut19, hA19, hC19⟩ := print_mid_of (P := Try.prog) (Value.int .u8) 0 22 5 .i64 .i64 Try.underlying22 hi019 hsz19 A0 c0 l0 x6_1 x7_1 (of_decide_eq_true (by first | (with_reducible assumption) | assumption)) (by first | omega | exact of_decide_eq_true (by first | (with_reducible assumption) | assumption)) (of_decide_eq_true (by first | (with_reducible assumption) | assumption)) HC0.out
                 have HR102 := Aside0.mk (Kd.C_of_reads (h1 := fun _ => rfl) (hA19 _ (Kd.reads_of_C HR0.out)))
                 have HC102 := Aside0.mk hC19
                 clear hA19 hC19 hi019 hsz19
                 have hcv20 := Kd.C_string (P := Try.prog) (A := A19) (c := (c0 - x6_1.toNat)) Try.underlying22 Try.underlying5 Try.underlying9 (Kd.C_below HR102.out HB.out)
                 have hcv20b := hcv20
                 rw [show (List.drop (x6_1 : Int).toNat (List.take (x7_1 : Int).toNat l0)).length = (x7_1 : Int).toNat - (x6_1 : Int).toNat from by rw [List.length_drop, List.length_take, Nat.min_eq_left (by have h_ : x7_1 ≤ (l0.length : Int) := of_decide_eq_true (by first | (with_reducible assumption) | assumption); omega)]] at hcv20b
                 go_wp2_with (first | ((with_reducible refine gate_builtin (b := .append) (xs := #[.tmp 51, .tmp 59]) rfl ?_); at_builtin; refine Kd.R_append k60 (w0 := w) w.heap.size rfl (.tmp 51) (.tmp 59) 55 60 (.agg #[(.int .i64 0), (.string ⟨#[]⟩)]) 24 rfl Try.underlying55 info60 rfl (by decide) (by omega) u4 x4_1 (⟨x6_1, strOfNums ((l0.take (x7_1 : Int).toNat).drop (x6_1 : Int).toNat)⟩ : S60) [.int .i64 x6_1, .string (strOfNums ((l0.take (x7_1 : Int).toNat).drop (x6_1 : Int).toNat))] (fun _ => True) (fun _ => False) rfl rfl ?aP (fun _ hk => hk.elim) ?aF ?aO ?aB ?aS ?aL ?_; (case aP => exact k60_mkM _ _ _ (⟨x6_1, strOfNums ((l0.take (x7_1 : Int).toNat).drop (x6_1 : Int).toNat)⟩ : S60)); (case aB => exact (by repeat (first | (with_reducible first | exact HB.out | apply qa | apply qn | apply qd) | exact HB.out))); (case aF => exact (fun _ _ => trivial)); (case aO => exact (by (with_reducible repeat (first | apply Kd.R_alloc | apply Kd.R_drewN | apply Kd.R_drew)); exact HO_4.out)); (case aS => exact (below_size (by repeat (first | (with_reducible first | exact HB.out | apply qa | apply qn | apply qd) | exact HB.out)))); (case aL => have := LMc18.out; omega); intro v104 w21 ho hb hg hat; rw [← Ny103.out] at ho; have n0_ := Aside0.mk (hb); have n1_ := Aside0.mk (ho); clear HB; clear HO_4; have HB := n0_; have HO105 := n1_; clear n0_ n1_; clear ho hb hg hat))
                 go_roundg kj11
                 case measure => have := HK1.out; have := HJ3.out; have := HJ6.out; have := HJ11.out; omega
                 case rel => exact ⟨(y103), (false), ((-1)), (wrap64 (x7_1 + 1)), (by first | rfl | (simp; done) | (simp [*]; done)), (by first | rfl | (simp; done) | (simp [*]; done)), (by first | rfl | (simp; done) | (simp [*]; done)), H', ⟨by have := HK1.out; have := HJ3.out; have := HJ6.out; have := HJ11.out; omega⟩, ⟨by (with_reducible repeat (first | apply Kd.R_alloc | apply Kd.R_drewN | apply Kd.R_drew)); exact HO105.out⟩, ⟨by repeat (first | (with_reducible first | exact HB.out | apply qa | apply qn | apply qd) | exact HB.out)⟩⟩
                ·rw [if_neg c18] at H
                 exact absurd H (by simp)
               ·rw [if_neg c17] at H
                exact absurd H (by simp)
              ·rw [if_neg c16] at H
               exact absurd H (by simp)
             ·rw [if_neg c15] at H
              exact absurd H (by simp)
            ·replace c14 := Bool.eq_false_iff.mpr c14
             subst c14
             have H1 : (if x6_1 < 0 then (parquetref02_All.j4 kj11 l0 x4_1 false x6_1 x7_1 x9_6 (x8_3 == 35)) else (parquetref02_All.j4 kj11 l0 x4_1 false x6_1 x7_1 x9_6 false)) = some (r1, r2) := by rw [if_neg (show ¬ (false = true) by decide)] at H; exact H
             clear H
             have H := H1
             clear H1
             have HC22 := Aside0.mk H
             clear H
             go_upto_region 18 with (fail)
             go_cut [61] (fun v61 wc => ∃ (kq : Nat) (x61_21 : Bool), v61 = .bool x61_21 ∧ Aside0 (parquetref02_All.j4 kq l0 x4_1 false x6_1 x7_1 x9_6 x61_21 = some (r1, r2)) ∧ Aside0 (kq ≤ kj11) ∧ Aside0 (Kd.R k60 60 wc w.heap.size (fun _ => True) u4 x4_1) ∧ Aside0 (Below w.heap.size w wc))
             case first =>
              have H := HC22.out
              clear HC22
              by_cases c23 : x6_1 < 0
              ·rw [if_pos c23] at H
               have c23b0 : decide (x6_1 < 0) = true := decide_eq_true c23
               clear c23
               (first | rw [c23b0] | (simp only [i64_w, i32_w]; rw [c23b0]) | skip)
               have H' := Aside0.mk H
               clear H
               go_wp2
               go_meet
               case rel => exact ⟨_, ((x8_3 == 35)), (by first | rfl | (simp; done) | (simp [*]; done)), H', ⟨by have := HK1.out; have := HJ3.out; have := HJ6.out; have := HJ11.out; first | omega | exact Nat.le_refl _⟩, ⟨by (with_reducible repeat (first | apply Kd.R_alloc | apply Kd.R_drewN | apply Kd.R_drew)); exact HO_4.out⟩, ⟨by repeat (first | (with_reducible first | exact HB.out | apply qa | apply qn | apply qd) | exact HB.out)⟩⟩
              ·rw [if_neg c23] at H
               have c23b0 : decide (x6_1 < 0) = false := decide_eq_false c23
               clear c23
               (first | rw [c23b0] | (simp only [i64_w, i32_w]; rw [c23b0]) | skip)
               have H' := Aside0.mk H
               clear H
               go_wp2
               go_meet
               case rel => exact ⟨_, (false), (by first | rfl | (simp; done) | (simp [*]; done)), H', ⟨by have := HK1.out; have := HJ3.out; have := HJ6.out; have := HJ11.out; first | omega | exact Nat.le_refl _⟩, ⟨by (with_reducible repeat (first | apply Kd.R_alloc | apply Kd.R_drewN | apply Kd.R_drew)); exact HO_4.out⟩, ⟨by repeat (first | (with_reducible first | exact HB.out | apply qa | apply qn | apply qd) | exact HB.out)⟩⟩
             case rest =>
              clear HC22
              try clear c1
              try clear p1
              try clear q1
              try clear hx1
              try clear c2
              try clear c2b0
              try clear c2b1
              try clear p2
              try clear hcv2
              try clear c3
              try clear c3b0
              try clear c5
              try clear c5b0
              try clear c6
              try clear c6b0
              try clear p6
              try clear c8
              try clear c8b0
              try clear c8b1
              try clear c9
              try clear c9b0
              try clear c9b1
              try clear c10
              try clear c10b0
              try clear c10b1
              try clear p10
              try clear q10
              try clear hx10
              try clear c11
              try clear c13
              try clear c13b0
              try clear c14
              try clear c15
              try clear c15b0
              try clear c15b1
              try clear c16
              try clear c16b0
              try clear c16b1
              try clear c17
              try clear c17b0
              try clear c17b1
              try clear c18
              try clear hcv20
              try clear c23
              try clear c23b0
              try clear hx101_0
              try clear p1
              try clear p10
              try clear p101
              try clear p2
              try clear p6
              try clear q1
              try clear q10
              try clear q101
              obtain ⟨kq, x61_21, rfl, HA, HJ21, HO_4, HB⟩ := hcut
              cases kq with
              | zero => exact absurd HA.out (by simp [parquetref02_All.j4])
              | succ kj21 =>
               have H := HA.out
               clear HA
               simp only [parquetref02_All.j4] at H
               by_cases c24 : x61_21 = true
               ·subst c24
                have H1 : (parquetref02_All.l0 kj21 l0 x4_1 true x6_1 (wrap64 (x7_1 + 1))) = some (r1, r2) := by rw [if_pos rfl] at H; exact H
                clear H
                have H := H1
                clear H1
                have H' := Aside0.mk H
                clear H
                go_wp2
                go_roundg kj21
                case measure => have := HK1.out; have := HJ3.out; have := HJ6.out; have := HJ11.out; have := HJ21.out; omega
                case rel => exact ⟨(x4_1), (true), (x6_1), (wrap64 (x7_1 + 1)), (by first | rfl | (simp; done) | (simp [*]; done)), (by first | rfl | (simp; done) | (simp [*]; done)), (by first | rfl | (simp; done) | (simp [*]; done)), H', ⟨by have := HK1.out; have := HJ3.out; have := HJ6.out; have := HJ11.out; have := HJ21.out; omega⟩, ⟨by (with_reducible repeat (first | apply Kd.R_alloc | apply Kd.R_drewN | apply Kd.R_drew)); exact HO_4.out⟩, ⟨by repeat (first | (with_reducible first | exact HB.out | apply qa | apply qn | apply qd) | exact HB.out)⟩⟩
               ·replace c24 := Bool.eq_false_iff.mpr c24
                subst c24
                have H1 : (if x6_1 < 0 then (if x9_6 = true then (parquetref02_All.l0 kj21 l0 x4_1 false x6_1 (wrap64 (x7_1 + 1))) else (parquetref02_All.l0 kj21 l0 x4_1 false x7_1 (wrap64 (x7_1 + 1)))) else (parquetref02_All.l0 kj21 l0 x4_1 false x6_1 (wrap64 (x7_1 + 1)))) = some (r1, r2) := by rw [if_neg (show ¬ (false = true) by decide)] at H; exact H
                clear H
                have H := H1
                clear H1
                by_cases c25 : x6_1 < 0
                ·rw [if_pos c25] at H
                 have c25b0 : decide (x6_1 < 0) = true := decide_eq_true c25
                 clear c25
                 by_cases c26 : x9_6 = true
                 ·subst c26
                  have H1 : (parquetref02_All.l0 kj21 l0 x4_1 false x6_1 (wrap64 (x7_1 + 1))) = some (r1, r2) := by rw [if_pos rfl] at H; exact H
                  clear H
                  have H := H1
                  clear H1
                  have H' := Aside0.mk H
                  clear H
                  go_wp2
                  go_roundg kj21
                  case measure => have := HK1.out; have := HJ3.out; have := HJ6.out; have := HJ11.out; have := HJ21.out; omega
                  case rel => exact ⟨(x4_1), (false), (x6_1), (wrap64 (x7_1 + 1)), (by first | rfl | (simp; done) | (simp [*]; done)), (by first | rfl | (simp; done) | (simp [*]; done)), (by first | rfl | (simp; done) | (simp [*]; done)), H', ⟨by have := HK1.out; have := HJ3.out; have := HJ6.out; have := HJ11.out; have := HJ21.out; omega⟩, ⟨by (with_reducible repeat (first | apply Kd.R_alloc | apply Kd.R_drewN | apply Kd.R_drew)); exact HO_4.out⟩, ⟨by repeat (first | (with_reducible first | exact HB.out | apply qa | apply qn | apply qd) | exact HB.out)⟩⟩
                 ·replace c26 := Bool.eq_false_iff.mpr c26
                  subst c26
                  have H1 : (parquetref02_All.l0 kj21 l0 x4_1 false x7_1 (wrap64 (x7_1 + 1))) = some (r1, r2) := by rw [if_neg (show ¬ (false = true) by decide)] at H; exact H
                  clear H
                  have H := H1
                  clear H1
                  have H' := Aside0.mk H
                  clear H
                  go_wp2
                  go_roundg kj21
                  case measure => have := HK1.out; have := HJ3.out; have := HJ6.out; have := HJ11.out; have := HJ21.out; omega
                  case rel => exact ⟨(x4_1), (false), (x7_1), (wrap64 (x7_1 + 1)), (by first | rfl | (simp; done) | (simp [*]; done)), (by first | rfl | (simp; done) | (simp [*]; done)), (by first | rfl | (simp; done) | (simp [*]; done)), H', ⟨by have := HK1.out; have := HJ3.out; have := HJ6.out; have := HJ11.out; have := HJ21.out; omega⟩, ⟨by (with_reducible repeat (first | apply Kd.R_alloc | apply Kd.R_drewN | apply Kd.R_drew)); exact HO_4.out⟩, ⟨by repeat (first | (with_reducible first | exact HB.out | apply qa | apply qn | apply qd) | exact HB.out)⟩⟩
                ·rw [if_neg c25] at H
                 have c25b0 : decide (x6_1 < 0) = false := decide_eq_false c25
                 clear c25
                 have H' := Aside0.mk H
                 clear H
                 go_wp2
                 go_roundg kj21
                 case measure => have := HK1.out; have := HJ3.out; have := HJ6.out; have := HJ11.out; have := HJ21.out; omega
                 case rel => exact ⟨(x4_1), (false), (x6_1), (wrap64 (x7_1 + 1)), (by first | rfl | (simp; done) | (simp [*]; done)), (by first | rfl | (simp; done) | (simp [*]; done)), (by first | rfl | (simp; done) | (simp [*]; done)), H', ⟨by have := HK1.out; have := HJ3.out; have := HJ6.out; have := HJ11.out; have := HJ21.out; omega⟩, ⟨by (with_reducible repeat (first | apply Kd.R_alloc | apply Kd.R_drewN | apply Kd.R_drew)); exact HO_4.out⟩, ⟨by repeat (first | (with_reducible first | exact HB.out | apply qa | apply qn | apply qd) | exact HB.out)⟩⟩
    ·rw [if_neg c3] at H
     have c3b0 : decide (x7_1 ≤ (l0.length : Int)) = false := decide_eq_false c3
     clear c3
     simp only [Option.some.injEq, Prod.mk.injEq] at H
     obtain ⟨rfl, rfl⟩ := H
     go_wp2
     go_ret2
     exact ⟨_, by first | rfl | (simp [errW_none, errW_some] <;> rfl) | (simp [*, errW_none, errW_some] <;> rfl), by (with_reducible repeat (first | apply Kd.R_alloc | apply Kd.R_drewN | apply Kd.R_drew)); exact HO_4.out, by repeat (first | (with_reducible first | exact HB.out | apply qa | apply qn | apply qd) | exact HB.out)⟩

/-! ### parquetref06_mode: function 26 -/
def parquetref06_mode.f (a0 : ByteArray) : Option (Int) := if a0.toList = ([116, 114, 105] : List UInt8) then (some 1) else (if a0.toList = ([113, 117, 97, 100] : List UInt8) then (some 2) else (if a0.toList = ([97, 108, 108] : List UInt8) then (some 3) else (some 0)))
set_option maxHeartbeats 8000000 in
set_option maxRecDepth 100000 in
theorem parquetref06_mode.calls (a0 : ByteArray) (r : Int) (w : World) (h : parquetref06_mode.f a0 = some r) :
  Calls Try.prog 26 #[.string a0] w fun e w' => e = .returned (.int .i64 r) ∧ Drawn0 w w' := by
 have H : (if a0.toList = ([116, 114, 105] : List UInt8) then (some 1) else (if a0.toList = ([113, 117, 97, 100] : List UInt8) then (some 2) else (if a0.toList = ([97, 108, 108] : List UInt8) then (some 3) else (some 0)))) = some r := h
 clear h
 by_cases c2 : a0.toList = ([116, 114, 105] : List UInt8)
 ·rw [if_pos c2] at H
  have c2b0 : (a0.toList == ([116, 114, 105] : List UInt8)) = true := beq_iff_eq.mpr c2
  have c2b1 : (a0.toList != ([116, 114, 105] : List UInt8)) = false := bne_eq_false_iff_eq.mpr c2
  clear c2
  obtain rfl := Option.some.inj H
  go_enter Try.func26, Try.ntmps26
  go_wp2
  go_ret
  exact ⟨by first | rfl | (simp; done) | (simp [*]; done), by repeat (first | exact Drawn0.refl _ | apply Drawn0.step)⟩
 ·rw [if_neg c2] at H
  have c2b0 : (a0.toList == ([116, 114, 105] : List UInt8)) = false := beq_eq_false_iff_ne.mpr c2
  have c2b1 : (a0.toList != ([116, 114, 105] : List UInt8)) = true := bne_iff_ne.mpr c2
  by_cases c3 : a0.toList = ([113, 117, 97, 100] : List UInt8)
  ·rw [if_pos c3] at H
   have c3b0 : (a0.toList == ([113, 117, 97, 100] : List UInt8)) = true := beq_iff_eq.mpr c3
   have c3b1 : (a0.toList != ([113, 117, 97, 100] : List UInt8)) = false := bne_eq_false_iff_eq.mpr c3
   clear c3
   obtain rfl := Option.some.inj H
   go_enter Try.func26, Try.ntmps26
   go_wp2
   go_ret
   exact ⟨by first | rfl | (simp; done) | (simp [*]; done), by repeat (first | exact Drawn0.refl _ | apply Drawn0.step)⟩
  ·rw [if_neg c3] at H
   have c3b0 : (a0.toList == ([113, 117, 97, 100] : List UInt8)) = false := beq_eq_false_iff_ne.mpr c3
   have c3b1 : (a0.toList != ([113, 117, 97, 100] : List UInt8)) = true := bne_iff_ne.mpr c3
   by_cases c4 : a0.toList = ([97, 108, 108] : List UInt8)
   ·rw [if_pos c4] at H
    have c4b0 : (a0.toList == ([97, 108, 108] : List UInt8)) = true := beq_iff_eq.mpr c4
    have c4b1 : (a0.toList != ([97, 108, 108] : List UInt8)) = false := bne_eq_false_iff_eq.mpr c4
    clear c4
    obtain rfl := Option.some.inj H
    go_enter Try.func26, Try.ntmps26
    go_wp2
    go_ret
    exact ⟨by first | rfl | (simp; done) | (simp [*]; done), by repeat (first | exact Drawn0.refl _ | apply Drawn0.step)⟩
   ·rw [if_neg c4] at H
    have c4b0 : (a0.toList == ([97, 108, 108] : List UInt8)) = false := beq_eq_false_iff_ne.mpr c4
    have c4b1 : (a0.toList != ([97, 108, 108] : List UInt8)) = true := bne_iff_ne.mpr c4
    obtain rfl := Option.some.inj H
    go_enter Try.func26, Try.ntmps26
    go_wp2
    go_ret
    exact ⟨by first | rfl | (simp; done) | (simp [*]; done), by repeat (first | exact Drawn0.refl _ | apply Drawn0.step)⟩

end Go.Proofs.Ytbiafpklgkkoaaa.MT

/- The walks of wide's limbs: size, plus, less. -/
import Derived.Laws.Externs
import Derived.RegionTactic
import Derived.BigRegion
import Derived.ChangeAlike
import Derived.Lib.Hide
import Derived.Outline
import Derived.WalkSpells
import Derived.WalkLawsBesides
import Derived.Deep.RegionWith
import Derived.Deep.QuietTactic
import Derived.BigQuiet
import Derived.Test.YtmpbbodafenonaaV
import Derived.Test.YtmpbbodafenonaaProg
set_option linter.unusedVariables false
set_option linter.unusedSimpArgs false
namespace Go.Proofs.Ytmpbbodafenonaa
open Go Go.Proofs Go.RowKit Go.Proofs.YtmpbbodafenonaaW.PrintWords

/-- The sum's limb, and its carry. -/
def addS (x y c : Nat) : Nat := (x + y + c) % 18446744073709551616
def addC (x y c : Nat) : Nat := (x + y + c) / 18446744073709551616
/-- The difference's limb, and its borrow. -/
def subS (x y c : Nat) : Nat := (x + 18446744073709551616 - y - c) % 18446744073709551616
def subC (x y c : Nat) : Nat := if x < y + c then 1 else 0
/-- A limb's bound. -/
def Lm (x : Nat) : Prop := x < 18446744073709551616
theorem addS_lt (x y c : Nat) : Lm (addS x y c) := Nat.mod_lt _ (by decide)
theorem subS_lt (x y c : Nat) : Lm (subS x y c) := Nat.mod_lt _ (by decide)
theorem addC_le {x y c : Nat} (hx : Lm x) (hy : Lm y) (hc : c ≤ 1) : addC x y c ≤ 1 := by unfold addC; unfold Lm at hx hy; omega
theorem subC_le (x y c : Nat) : subC x y c ≤ 1 := by unfold subC; split <;> omega
theorem add_run {x y c : Nat} (hx : Lm x) (hy : Lm y) (hc : c ≤ 1) (w : World) :
    (callFunc 93 #[.int .u64 x, .int .u64 y, .int .u64 c]).run Try.prog w = .ok (.value (.tuple #[.int .u64 (addS x y c : Nat), .int .u64 (addC x y c : Nat)])) w := by
  rw [run_callFunc_extern Try.func93 (by kernel_rfl) (by kernel_rfl) (by kernel_rfl) (e := add64Entry) (by kernel_rfl), run_add64 x y c (by omega) (by omega) (by omega) (by omega)]
  simp only [Result.andThen, addS, addC]
  congr 5 <;> omega
/-- The model's entry for Sub64. -/
def sub64E : Array Value → Sem Value := fun args => do
  let (x, y, b) ← Extern.MathBitsCarry.three "Sub64" args
  pure (Extern.MathBitsCarry.pair ((x + Extern.MathBitsCarry.m64 - y - b) % Extern.MathBitsCarry.m64) (if x < y + b then 1 else 0))
theorem run_sub64E (x y b : Nat) (hb : b ≤ 1) (w : World) : (sub64E #[.int .u64 x, .int .u64 y, .int .u64 b]).run Try.prog w = .ok (.tuple #[.int .u64 (subS x y b : Nat), .int .u64 (subC x y b : Nat)]) w := by
  have : b = 0 ∨ b = 1 := by omega
  rcases this with rfl | rfl <;> rfl
theorem sub_run {x y c : Nat} (hc : c ≤ 1) (w : World) :
    (callFunc 94 #[.int .u64 x, .int .u64 y, .int .u64 c]).run Try.prog w = .ok (.value (.tuple #[.int .u64 (subS x y c : Nat), .int .u64 (subC x y c : Nat)])) w := by
  rw [run_callFunc_extern Try.func94 (by kernel_rfl) (by kernel_rfl) (by kernel_rfl) (e := sub64E) (by kernel_rfl), run_sub64E x y c hc]
  rfl

set_option maxHeartbeats 2000000 in
set_option maxRecDepth 100000 in
theorem plus_walk (x0 x1 x2 x3 y0 y1 y2 y3 s0 s1 s2 s3 c0 c1 c2 c3 : Nat) (w : World)
    (h0 : ∀ w, (callFunc 93 #[.int .u64 x0, .int .u64 y0, .int .u64 0]).run Try.prog w = .ok (.value (.tuple #[.int .u64 s0, .int .u64 c0])) w)
    (h1 : ∀ w, (callFunc 93 #[.int .u64 x1, .int .u64 y1, .int .u64 c0]).run Try.prog w = .ok (.value (.tuple #[.int .u64 s1, .int .u64 c1])) w)
    (h2 : ∀ w, (callFunc 93 #[.int .u64 x2, .int .u64 y2, .int .u64 c1]).run Try.prog w = .ok (.value (.tuple #[.int .u64 s2, .int .u64 c2])) w)
    (h3 : ∀ w, (callFunc 93 #[.int .u64 x3, .int .u64 y3, .int .u64 c2]).run Try.prog w = .ok (.value (.tuple #[.int .u64 s3, .int .u64 c3])) w) :
    Calls Try.prog 71 #[.agg #[.int .u64 x0, .int .u64 x1, .int .u64 x2, .int .u64 x3], .agg #[.int .u64 y0, .int .u64 y1, .int .u64 y2, .int .u64 y3]] w fun e w' =>
      e = .returned (.tuple #[.agg #[.int .u64 s0, .int .u64 s1, .int .u64 s2, .int .u64 s3], .bool ((c3 : Int) == 0)]) ∧ Below w.heap.size w w' := by
  go_enter Try.func71, Try.ntmps71
  go_wp2
  refine wp_loop_rounds 5 ?_
  iterate 4
    rw [rounds_succ]
    go_wp2
    go_region
    go_wp2
  rw [rounds_succ]
  go_wp2
  refine bodyPost_ret (v := .tuple #[.agg #[.int .u64 s0, .int .u64 s1, .int .u64 s2, .int .u64 s3], .bool ((c3 : Int) == 0)]) (by simp [results, Try.results71, go_sem]) rfl ⟨rfl, ?_⟩
  exact below_drew (below_drew (below_drew (below_drew (below_alloc (below_alloc (below_alloc (Below.refl _ _) _) _) _))))
set_option maxHeartbeats 2000000 in
set_option maxRecDepth 100000 in
theorem less_walk (x0 x1 x2 x3 y0 y1 y2 y3 s0 s1 s2 s3 c0 c1 c2 c3 : Nat) (w : World)
    (h0 : ∀ w, (callFunc 94 #[.int .u64 x0, .int .u64 y0, .int .u64 0]).run Try.prog w = .ok (.value (.tuple #[.int .u64 s0, .int .u64 c0])) w)
    (h1 : ∀ w, (callFunc 94 #[.int .u64 x1, .int .u64 y1, .int .u64 c0]).run Try.prog w = .ok (.value (.tuple #[.int .u64 s1, .int .u64 c1])) w)
    (h2 : ∀ w, (callFunc 94 #[.int .u64 x2, .int .u64 y2, .int .u64 c1]).run Try.prog w = .ok (.value (.tuple #[.int .u64 s2, .int .u64 c2])) w)
    (h3 : ∀ w, (callFunc 94 #[.int .u64 x3, .int .u64 y3, .int .u64 c2]).run Try.prog w = .ok (.value (.tuple #[.int .u64 s3, .int .u64 c3])) w) :
    Calls Try.prog 72 #[.agg #[.int .u64 x0, .int .u64 x1, .int .u64 x2, .int .u64 x3], .agg #[.int .u64 y0, .int .u64 y1, .int .u64 y2, .int .u64 y3]] w fun e w' =>
      e = .returned (.agg #[.int .u64 s0, .int .u64 s1, .int .u64 s2, .int .u64 s3]) ∧ Below w.heap.size w w' := by
  go_enter Try.func72, Try.ntmps72
  go_wp2
  refine wp_loop_rounds 5 ?_
  iterate 4
    rw [rounds_succ]
    go_wp2
    go_region
    go_wp2
  rw [rounds_succ]
  go_wp2
  refine bodyPost_ret (v := .agg #[.int .u64 s0, .int .u64 s1, .int .u64 s2, .int .u64 s3]) (by simp [results, Try.results72, go_sem]) rfl ⟨rfl, ?_⟩
  exact below_drew (below_drew (below_drew (below_drew (below_alloc (below_alloc (below_alloc (Below.refl _ _) _) _) _))))

theorem isNaN_u64 (x : Int) (w : World) : Calls Try.prog 101 #[.int .u64 x] w fun e w' => e = .returned (.bool false) ∧ w = w' := by
  go_enter Try.func101, Try.ntmps101
  go_wp2
  go_ret
  exact ⟨rfl, rfl⟩
/-- How two numbers compare. -/
def cmpI (x y : Int) : Int := if x < y then -1 else if y < x then 1 else 0
set_option maxHeartbeats 2000000 in
theorem compare_u64 (x y : Int) (w : World) : Calls Try.prog 96 #[.int .u64 x, .int .u64 y] w fun e w' => e = .returned (.int .i64 (cmpI x y)) ∧ w = w' := by
  by_cases h : x < y
  · have h1 : decide (x < y) = true := decide_eq_true h
    have h2 : Hid (cmpI x y = -1) := Lib.hid (by unfold cmpI; rw [if_pos h])
    clear h
    go_enter Try.func96, Try.ntmps96
    go_wp2_with (go_at_call 101; refine (isNaN_u64 _ _).mono ?_; rintro e w' ⟨rfl, rfl⟩)
    go_ret
    exact ⟨by rw [h2.out]; rfl, rfl⟩
  · have h1 : decide (x < y) = false := decide_eq_false h
    by_cases h' : y < x
    · have h3 : decide (y < x) = true := decide_eq_true h'
      have h2 : Hid (cmpI x y = 1) := Lib.hid (by unfold cmpI; rw [if_neg h, if_pos h'])
      clear h h'
      go_enter Try.func96, Try.ntmps96
      go_wp2_with (go_at_call 101; refine (isNaN_u64 _ _).mono ?_; rintro e w' ⟨rfl, rfl⟩)
      go_ret
      exact ⟨by rw [h2.out]; rfl, rfl⟩
    · have h3 : decide (y < x) = false := decide_eq_false h'
      have h2 : Hid (cmpI x y = 0) := Lib.hid (by unfold cmpI; rw [if_neg h, if_neg h'])
      clear h h'
      go_enter Try.func96, Try.ntmps96
      go_wp2_with (go_at_call 101; refine (isNaN_u64 _ _).mono ?_; rintro e w' ⟨rfl, rfl⟩)
      go_ret
      exact ⟨by rw [h2.out]; rfl, rfl⟩
theorem compare_q (x y : Int) (w : World) : Calls Try.prog 96 #[.int .u64 x, .int .u64 y] w fun e w' => e = .returned (.int .i64 (cmpI x y)) ∧ w' = w := (compare_u64 x y w).mono fun _ _ h => ⟨h.1, h.2.symm⟩
/-- Limbs against limbs, the highest first. -/
def sizeL (x0 x1 x2 x3 y0 y1 y2 y3 : Int) : Int := if x3 = y3 then if x2 = y2 then if x1 = y1 then cmpI x0 y0 else cmpI x1 y1 else cmpI x2 y2 else cmpI x3 y3
set_option maxHeartbeats 2000000 in
set_option maxRecDepth 100000 in
theorem size_3 (x0 x1 x2 x3 y0 y1 y2 y3 : Int) (w : World) (d3 : x3 ≠ y3) :
    Calls Try.prog 78 #[.agg #[.int .u64 x0, .int .u64 x1, .int .u64 x2, .int .u64 x3], .agg #[.int .u64 y0, .int .u64 y1, .int .u64 y2, .int .u64 y3]] w fun e w' => e = .returned (.int .i64 (sizeL x0 x1 x2 x3 y0 y1 y2 y3)) ∧ Below w.heap.size w w' := by
  have e3 : (x3 != y3) = true := by simpa using d3
  have HS : Hid (sizeL x0 x1 x2 x3 y0 y1 y2 y3 = cmpI x3 y3) := Lib.hid (by unfold sizeL; rw [if_neg d3])
  clear d3
  go_enter Try.func78, Try.ntmps78
  go_wp2
  refine wp_loop_rounds 5 ?_
  rw [rounds_succ]
  go_wp2
  go_region
  go_wp2
  go_region_with (go_at_call 96; refine (compare_u64 _ _ _).mono ?_; rintro e w' ⟨rfl, rfl⟩)
  all_goals go_wp2
  all_goals go_ret
  all_goals refine ⟨by rw [HS.out]; rfl, ?_⟩
  all_goals repeat (first | exact Below.refl _ _ | apply pw_below_drewN | apply below_drew | apply below_alloc)
set_option maxHeartbeats 2000000 in
set_option maxRecDepth 100000 in
theorem size_2 (x0 x1 x2 x3 y0 y1 y2 y3 : Int) (w : World) (d3 : x3 = y3) (d2 : x2 ≠ y2) :
    Calls Try.prog 78 #[.agg #[.int .u64 x0, .int .u64 x1, .int .u64 x2, .int .u64 x3], .agg #[.int .u64 y0, .int .u64 y1, .int .u64 y2, .int .u64 y3]] w fun e w' => e = .returned (.int .i64 (sizeL x0 x1 x2 x3 y0 y1 y2 y3)) ∧ Below w.heap.size w w' := by
  have e3 : (x3 != y3) = false := by simpa using d3
  have e2 : (x2 != y2) = true := by simpa using d2
  have HS : Hid (sizeL x0 x1 x2 x3 y0 y1 y2 y3 = cmpI x2 y2) := Lib.hid (by unfold sizeL; rw [if_pos d3, if_neg d2])
  clear d3 d2
  go_enter Try.func78, Try.ntmps78
  go_wp2
  refine wp_loop_rounds 5 ?_
  rw [rounds_succ]
  go_wp2
  go_region
  go_wp2
  rw [rounds_succ]
  go_wp2
  go_region
  go_wp2
  go_region_with (go_at_call 96; refine (compare_u64 _ _ _).mono ?_; rintro e w' ⟨rfl, rfl⟩)
  all_goals go_wp2
  all_goals go_ret
  all_goals refine ⟨by rw [HS.out]; rfl, ?_⟩
  all_goals repeat (first | exact Below.refl _ _ | apply pw_below_drewN | apply below_drew | apply below_alloc)
set_option maxHeartbeats 2000000 in
set_option maxRecDepth 100000 in
theorem size_1 (x0 x1 x2 x3 y0 y1 y2 y3 : Int) (w : World) (d3 : x3 = y3) (d2 : x2 = y2) (d1 : x1 ≠ y1) :
    Calls Try.prog 78 #[.agg #[.int .u64 x0, .int .u64 x1, .int .u64 x2, .int .u64 x3], .agg #[.int .u64 y0, .int .u64 y1, .int .u64 y2, .int .u64 y3]] w fun e w' => e = .returned (.int .i64 (sizeL x0 x1 x2 x3 y0 y1 y2 y3)) ∧ Below w.heap.size w w' := by
  have e3 : (x3 != y3) = false := by simpa using d3
  have e2 : (x2 != y2) = false := by simpa using d2
  have e1 : (x1 != y1) = true := by simpa using d1
  have HS : Hid (sizeL x0 x1 x2 x3 y0 y1 y2 y3 = cmpI x1 y1) := Lib.hid (by unfold sizeL; rw [if_pos d3, if_pos d2, if_neg d1])
  clear d3 d2 d1
  go_enter Try.func78, Try.ntmps78
  go_wp2
  refine wp_loop_rounds 5 ?_
  rw [rounds_succ]
  go_wp2
  go_region
  go_wp2
  rw [rounds_succ]
  go_wp2
  go_region
  go_wp2
  rw [rounds_succ]
  go_wp2
  go_region
  go_wp2
  go_region_with (go_at_call 96; refine (compare_u64 _ _ _).mono ?_; rintro e w' ⟨rfl, rfl⟩)
  all_goals go_wp2
  all_goals go_ret
  all_goals refine ⟨by rw [HS.out]; rfl, ?_⟩
  all_goals repeat (first | exact Below.refl _ _ | apply pw_below_drewN | apply below_drew | apply below_alloc)
set_option maxHeartbeats 2000000 in
set_option maxRecDepth 100000 in
theorem size_0 (x0 x1 x2 x3 y0 y1 y2 y3 : Int) (w : World) (d3 : x3 = y3) (d2 : x2 = y2) (d1 : x1 = y1) (d0 : x0 ≠ y0) :
    Calls Try.prog 78 #[.agg #[.int .u64 x0, .int .u64 x1, .int .u64 x2, .int .u64 x3], .agg #[.int .u64 y0, .int .u64 y1, .int .u64 y2, .int .u64 y3]] w fun e w' => e = .returned (.int .i64 (sizeL x0 x1 x2 x3 y0 y1 y2 y3)) ∧ Below w.heap.size w w' := by
  have e3 : (x3 != y3) = false := by simpa using d3
  have e2 : (x2 != y2) = false := by simpa using d2
  have e1 : (x1 != y1) = false := by simpa using d1
  have e0 : (x0 != y0) = true := by simpa using d0
  have HS : Hid (sizeL x0 x1 x2 x3 y0 y1 y2 y3 = cmpI x0 y0) := Lib.hid (by unfold sizeL; rw [if_pos d3, if_pos d2, if_pos d1])
  clear d3 d2 d1 d0
  go_enter Try.func78, Try.ntmps78
  go_wp2
  refine wp_loop_rounds 5 ?_
  rw [rounds_succ]
  go_wp2
  go_region
  go_wp2
  rw [rounds_succ]
  go_wp2
  go_region
  go_wp2
  rw [rounds_succ]
  go_wp2
  go_region
  go_wp2
  rw [rounds_succ]
  go_wp2
  go_region
  go_wp2
  go_region_with (go_at_call 96; refine (compare_u64 _ _ _).mono ?_; rintro e w' ⟨rfl, rfl⟩)
  all_goals go_wp2
  all_goals go_ret
  all_goals refine ⟨by rw [HS.out]; rfl, ?_⟩
  all_goals repeat (first | exact Below.refl _ _ | apply pw_below_drewN | apply below_drew | apply below_alloc)
set_option maxHeartbeats 2000000 in
set_option maxRecDepth 100000 in
theorem size_e (x0 x1 x2 x3 y0 y1 y2 y3 : Int) (w : World) (d3 : x3 = y3) (d2 : x2 = y2) (d1 : x1 = y1) (d0 : x0 = y0) :
    Calls Try.prog 78 #[.agg #[.int .u64 x0, .int .u64 x1, .int .u64 x2, .int .u64 x3], .agg #[.int .u64 y0, .int .u64 y1, .int .u64 y2, .int .u64 y3]] w fun e w' => e = .returned (.int .i64 (sizeL x0 x1 x2 x3 y0 y1 y2 y3)) ∧ Below w.heap.size w w' := by
  have e3 : (x3 != y3) = false := by simpa using d3
  have e2 : (x2 != y2) = false := by simpa using d2
  have e1 : (x1 != y1) = false := by simpa using d1
  have e0 : (x0 != y0) = false := by simpa using d0
  have HS : Hid (sizeL x0 x1 x2 x3 y0 y1 y2 y3 = 0) := Lib.hid (by unfold sizeL; rw [if_pos d3, if_pos d2, if_pos d1]; unfold cmpI; rw [if_neg (by omega), if_neg (by omega)])
  clear d3 d2 d1 d0
  go_enter Try.func78, Try.ntmps78
  go_wp2
  refine wp_loop_rounds 5 ?_
  rw [rounds_succ]
  go_wp2
  go_region
  go_wp2
  rw [rounds_succ]
  go_wp2
  go_region
  go_wp2
  rw [rounds_succ]
  go_wp2
  go_region
  go_wp2
  rw [rounds_succ]
  go_wp2
  go_region
  go_wp2
  rw [rounds_succ]
  go_wp2
  go_ret
  refine ⟨by rw [HS.out]; rfl, ?_⟩
  repeat (first | exact Below.refl _ _ | apply pw_below_drewN | apply below_drew | apply below_alloc)
theorem size_walk (x0 x1 x2 x3 y0 y1 y2 y3 : Int) (w : World) :
    Calls Try.prog 78 #[.agg #[.int .u64 x0, .int .u64 x1, .int .u64 x2, .int .u64 x3], .agg #[.int .u64 y0, .int .u64 y1, .int .u64 y2, .int .u64 y3]] w fun e w' => e = .returned (.int .i64 (sizeL x0 x1 x2 x3 y0 y1 y2 y3)) ∧ Below w.heap.size w w' := by
  by_cases d3 : x3 = y3
  · by_cases d2 : x2 = y2
    · by_cases d1 : x1 = y1
      · by_cases d0 : x0 = y0
        · exact size_e x0 x1 x2 x3 y0 y1 y2 y3 w d3 d2 d1 d0
        · exact size_0 x0 x1 x2 x3 y0 y1 y2 y3 w d3 d2 d1 d0
      · exact size_1 x0 x1 x2 x3 y0 y1 y2 y3 w d3 d2 d1
    · exact size_2 x0 x1 x2 x3 y0 y1 y2 y3 w d3 d2
  · exact size_3 x0 x1 x2 x3 y0 y1 y2 y3 w d3
end Go.Proofs.Ytmpbbodafenonaa

/- The document's functions of layer 3, walked: the others. -/
import Derived.Test.YtkgagdjogedoiaaRf1
set_option linter.unusedVariables false
set_option linter.unusedSimpArgs false
namespace Go.Proofs.Ytkgagdjogedoiaa
open Go Go.RowKit Go.Proofs.Ytkgagdjogedoiaa.Fx Go.Proofs.YtkgagdjogedoiaaW.PrintWords
set_option maxRecDepth 100000 in
theorem fn_rOrient {ax ay bx b_y cx cy : Int} : FnC Try.prog 13 [.is (ptv ax ay), .is (ptv bx b_y), .is (ptv cx cy)] (iv (oriZ ax ay bx b_y cx cy)) := by
 refine FnC.of (N := 25) Try.func13 rfl rfl (Nat.le_of_ble_eq_true rfl) (fun w0 ok0 => ?_)
 refine Tr.rs [] (.k (bxx .k (.b 0 rfl)) (.k (bxx .k (.b 1 rfl)) (.k (bxx .k (.b 2 rfl)) (.k (asg .k .c) .n)))) [] [0, 1, 2] rfl rfl ?_
 rcases (show ¬ fit ax ay ∨ fit ax ay ∧ ¬ fit bx b_y ∨ fit ax ay ∧ fit bx b_y ∧ ¬ fit cx cy ∨ fit ax ay ∧ fit bx b_y ∧ fit cx cy by by_cases h0 : fit ax ay <;> by_cases h1 : fit bx b_y <;> by_cases h2 : fit cx cy <;> simp [h0, h1, h2]) with f1 | ⟨f1, f2⟩ | ⟨f1, f2, f3⟩ | ⟨f1, f2, f3⟩
 ·
  have hn : ¬ (fit ax ay ∧ fit bx b_y ∧ fit cx cy) := fun h => f1 h.1
  unfold oriZ; rw [if_neg hn]
  refine Tr.seq (Tr.rs [] (.k (ld .k (.b 0 rfl) tyP) (.k (cal .k Try.func31 rfl (fn_rFitsF f1) (.k (.g 0 rfl) .n)) (.k (not_ .k (.g 1 rfl)) (.k (mv .k (.g 2 rfl)) (.k (skp (.o 3 rfl rfl rfl)) (.k (skp (.o 3 rfl rfl rfl)) (.k (skp (.o 3 rfl rfl rfl)) (.k (pickT .k (.g 3 rfl) .c) (.k (mv .k (.g 7 rfl)) (.k (skp (.o 8 rfl rfl rfl)) (.k (skp (.o 8 rfl rfl rfl)) (.k (skp (.o 8 rfl rfl rfl)) (.k (pickT .k (.g 8 rfl) .c) .n))))))))))))) [0, 1, 2] [12] rfl rfl ?_)
  refine Tr.cond 3 rfl (fun _ => ?_) nofun
  refine Tr.rs [] (.k (asg .k .c) .n) [] [0] rfl rfl ?_
  refine Tr.ret (end_tmp 0 rfl rfl)
 ·
  have hn : ¬ (fit ax ay ∧ fit bx b_y ∧ fit cx cy) := fun h => f2 h.2.1
  unfold oriZ; rw [if_neg hn]
  refine Tr.seq (Tr.rs [] (.k (ld .k (.b 0 rfl) tyP) (.k (cal .k Try.func31 rfl (fn_rFitsT f1) (.k (.g 0 rfl) .n)) (.k (not_ .k (.g 1 rfl)) (.k (mv .k (.g 2 rfl)) (.k (ld (.o 3 rfl rfl rfl) (.b 1 rfl) tyP) (.k (cal (.o 3 rfl rfl rfl) Try.func31 rfl (fn_rFitsF f2) (.k (.g 4 rfl) .n)) (.k (not_ (.o 3 rfl rfl rfl) (.g 5 rfl)) (.k (pickF .k (.g 3 rfl) (.g 6 rfl)) (.k (mv .k (.g 7 rfl)) (.k (skp (.o 8 rfl rfl rfl)) (.k (skp (.o 8 rfl rfl rfl)) (.k (skp (.o 8 rfl rfl rfl)) (.k (pickT .k (.g 8 rfl) .c) .n))))))))))))) [0, 1, 2] [12] rfl rfl ?_)
  refine Tr.cond 3 rfl (fun _ => ?_) nofun
  refine Tr.rs [] (.k (asg .k .c) .n) [] [0] rfl rfl ?_
  refine Tr.ret (end_tmp 0 rfl rfl)
 ·
  have hn : ¬ (fit ax ay ∧ fit bx b_y ∧ fit cx cy) := fun h => f3 h.2.2
  unfold oriZ; rw [if_neg hn]
  refine Tr.seq (Tr.rs [] (.k (ld .k (.b 0 rfl) tyP) (.k (cal .k Try.func31 rfl (fn_rFitsT f1) (.k (.g 0 rfl) .n)) (.k (not_ .k (.g 1 rfl)) (.k (mv .k (.g 2 rfl)) (.k (ld (.o 3 rfl rfl rfl) (.b 1 rfl) tyP) (.k (cal (.o 3 rfl rfl rfl) Try.func31 rfl (fn_rFitsT f2) (.k (.g 4 rfl) .n)) (.k (not_ (.o 3 rfl rfl rfl) (.g 5 rfl)) (.k (pickF .k (.g 3 rfl) (.g 6 rfl)) (.k (mv .k (.g 7 rfl)) (.k (ld (.o 8 rfl rfl rfl) (.b 2 rfl) tyP) (.k (cal (.o 8 rfl rfl rfl) Try.func31 rfl (fn_rFitsF f3) (.k (.g 9 rfl) .n)) (.k (not_ (.o 8 rfl rfl rfl) (.g 10 rfl)) (.k (pickF .k (.g 8 rfl) (.g 11 rfl)) .n))))))))))))) [0, 1, 2] [12] rfl rfl ?_)
  refine Tr.cond 3 rfl (fun _ => ?_) nofun
  refine Tr.rs [] (.k (asg .k .c) .n) [] [0] rfl rfl ?_
  refine Tr.ret (end_tmp 0 rfl rfl)
 ·
  unfold oriZ; rw [if_pos ⟨f1, f2, f3⟩, ← sho_area]
  refine Tr.seq (Tr.rs [] (.k (ld .k (.b 0 rfl) tyP) (.k (cal .k Try.func31 rfl (fn_rFitsT f1) (.k (.g 0 rfl) .n)) (.k (not_ .k (.g 1 rfl)) (.k (mv .k (.g 2 rfl)) (.k (ld (.o 3 rfl rfl rfl) (.b 1 rfl) tyP) (.k (cal (.o 3 rfl rfl rfl) Try.func31 rfl (fn_rFitsT f2) (.k (.g 4 rfl) .n)) (.k (not_ (.o 3 rfl rfl rfl) (.g 5 rfl)) (.k (pickF .k (.g 3 rfl) (.g 6 rfl)) (.k (mv .k (.g 7 rfl)) (.k (ld (.o 8 rfl rfl rfl) (.b 2 rfl) tyP) (.k (cal (.o 8 rfl rfl rfl) Try.func31 rfl (fn_rFitsT f3) (.k (.g 9 rfl) .n)) (.k (not_ (.o 8 rfl rfl rfl) (.g 10 rfl)) (.k (pickF .k (.g 8 rfl) (.g 11 rfl)) .n))))))))))))) [0, 1, 2] [12] rfl rfl ?_)
  refine Tr.cond 3 rfl nofun (fun _ => ?_)
  refine Tr.skip (Nx.go (Tr.rs [] (.k (ld .k (.b 0 rfl) tyP) (.k (ld .k (.b 1 rfl) tyP) (.k (ld .k (.b 2 rfl) tyP) (.k (cal .k Try.func32 rfl (fn_rarea f1 f2 f3) (.k (.g 0 rfl) (.k (.g 1 rfl) (.k (.g 2 rfl) .n)))) (.k (cal .k Try.func33 rfl fn_nsign (.k (.g 3 rfl) .n)) (.k (asg .k (.g 4 rfl)) .n)))))) [] [5] rfl rfl ?_))
  refine Tr.ret (end_tmp 0 rfl rfl)
def lsZ (x y z : Int) : Int := if z - (if y - x < 0 then y else x) < 0 then z else (if y - x < 0 then y else x)
def skR (x y z t : Int) : Bool := decide (t = 0) || decide (x * y * z - 8 * lsZ x y z * t * t > 0)
theorem ls_prod (x y z : Int) : x * y * z = lsZ x y z * (mxZ (mnZ x z) y * mxZ x z) := by
  unfold lsZ mxZ mnZ
  by_cases h1 : y - x < 0 <;> by_cases h2 : x - z > 0 <;> by_cases h3 : z - y < 0 <;> by_cases h4 : z - x < 0 <;> by_cases h5 : z - y > 0 <;> by_cases h6 : x - y > 0 <;> simp only [h1, h2, h3, h4, h5, h6, if_true, if_false] <;> first | omega | grind
theorem sq_nn (a : Int) : 0 ≤ a * a := by
  rcases Int.le_total 0 a with h | h
  · exact Int.mul_nonneg h h
  · exact Int.mul_nonneg_of_nonpos_of_nonpos h h
theorem way_nn (ax ay bx b_y : Int) : 0 ≤ wayZ ax ay bx b_y := by
  unfold wayZ sqZ
  have h1 := sq_nn (bx - ax)
  have h2 := sq_nn (b_y - ay)
  omega
theorem way_zero {ax ay bx b_y : Int} (h : wayZ ax ay bx b_y = 0) : bx = ax ∧ b_y = ay := by
  unfold wayZ sqZ at h
  have h1 := sq_nn (bx - ax)
  have h2 := sq_nn (b_y - ay)
  have h3 : (bx - ax) * (bx - ax) = 0 := by omega
  have h4 : (b_y - ay) * (b_y - ay) = 0 := by omega
  have h5 : bx - ax = 0 := by rcases Int.mul_eq_zero.1 h3 with h | h <;> exact h
  have h6 : b_y - ay = 0 := by rcases Int.mul_eq_zero.1 h4 with h | h <;> exact h
  omega
theorem sk_same (ax ay bx b_y cx cy : Int) : skR (wayZ ax ay bx b_y) (wayZ bx b_y cx cy) (wayZ cx cy ax ay) (shoZ ax ay bx b_y cx cy) = skZ (wayZ ax ay bx b_y) (wayZ bx b_y cx cy) (wayZ cx cy ax ay) (turZ ax ay bx b_y cx cy) := by
  rw [sho_area, ← turZ_area]
  unfold skR skZ
  by_cases ht : turZ ax ay bx b_y cx cy = 0
  · rw [decide_eq_true ht, Bool.true_or, Bool.true_or]
  rw [decide_eq_false ht, Bool.false_or, Bool.false_or]
  have p1 : 0 < wayZ ax ay bx b_y := by
    rcases Int.lt_or_eq_of_le (way_nn ax ay bx b_y) with h | h
    · exact h
    · obtain ⟨e1, e2⟩ := way_zero h.symm
      exact absurd (by unfold turZ tuZ; rw [e1, e2]; simp) ht
  have p2 : 0 < wayZ bx b_y cx cy := by
    rcases Int.lt_or_eq_of_le (way_nn bx b_y cx cy) with h | h
    · exact h
    · obtain ⟨e1, e2⟩ := way_zero h.symm
      exact absurd (by unfold turZ tuZ; rw [e1, e2, Int.mul_comm]; omega) ht
  have p3 : 0 < wayZ cx cy ax ay := by
    rcases Int.lt_or_eq_of_le (way_nn cx cy ax ay) with h | h
    · exact h
    · obtain ⟨e1, e2⟩ := way_zero h.symm
      exact absurd (by unfold turZ tuZ; rw [e1, e2]; simp) ht
  have pl : 0 < lsZ (wayZ ax ay bx b_y) (wayZ bx b_y cx cy) (wayZ cx cy ax ay) := by unfold lsZ; (repeat' split) <;> assumption
  rw [ls_prod]
  obtain ⟨l, hl⟩ : ∃ l, l = lsZ (wayZ ax ay bx b_y) (wayZ bx b_y cx cy) (wayZ cx cy ax ay) := ⟨_, rfl⟩
  obtain ⟨m, hm⟩ : ∃ m, m = mxZ (mnZ (wayZ ax ay bx b_y) (wayZ cx cy ax ay)) (wayZ bx b_y cx cy) * mxZ (wayZ ax ay bx b_y) (wayZ cx cy ax ay) := ⟨_, rfl⟩
  obtain ⟨t, htt⟩ : ∃ t, t = turZ ax ay bx b_y cx cy := ⟨_, rfl⟩
  rw [← hl] at pl ⊢
  rw [← hm, ← htt]
  have e : l * m - 8 * l * t * t = l * (m - 8 * t * t) := by grind
  rw [e]
  refine decide_eq_decide.2 ⟨fun h => ?_, fun h => Int.mul_pos pl h⟩
  rcases Int.lt_or_le 0 (m - 8 * t * t) with h' | h'
  · exact h'
  · have := Int.mul_nonpos_of_nonneg_of_nonpos (Int.le_of_lt pl) h'
    omega
end Go.Proofs.Ytkgagdjogedoiaa

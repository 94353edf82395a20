/- Three places turned, and twice as far apart: their answers stay; of a triangle's three angles one at most is right or wider. -/
import Derived.Test.YtkgagdjogedoiaaRf2
set_option linter.unusedVariables false
set_option linter.unusedSimpArgs false
namespace Go.Proofs.Ytkgagdjogedoiaa
open Go Go.RowKit Go.Proofs.Ytkgagdjogedoiaa.Fx Go.Proofs.YtkgagdjogedoiaaW.PrintWords
theorem sgn_negz (z : Int) : sgn (-z) = -sgn z := by rcases sgn_cases z with ⟨e, h⟩ | ⟨e, h⟩ | ⟨e, h⟩ <;> rcases sgn_cases (-z) with ⟨e', h'⟩ | ⟨e', h'⟩ | ⟨e', h'⟩ <;> rw [e, e'] <;> omega
theorem area_cyc (ax ay bx b_y cx cy : Int) : areaZ bx b_y cx cy ax ay = areaZ ax ay bx b_y cx cy := by unfold areaZ; grind
theorem area_flip (ax ay bx b_y cx cy : Int) : areaZ bx b_y ax ay cx cy = -areaZ ax ay bx b_y cx cy := by unfold areaZ; grind
theorem ori_cyc (ax ay bx b_y cx cy : Int) : oriZ bx b_y cx cy ax ay = oriZ ax ay bx b_y cx cy := by
  unfold oriZ
  rw [area_cyc]
  by_cases h1 : fit ax ay <;> by_cases h2 : fit bx b_y <;> by_cases h3 : fit cx cy <;> simp [h1, h2, h3]
theorem ori_flip (ax ay bx b_y cx cy : Int) : oriZ bx b_y ax ay cx cy = -oriZ ax ay bx b_y cx cy := by
  unfold oriZ
  rw [area_flip, sgn_negz]
  by_cases h1 : fit ax ay <;> by_cases h2 : fit bx b_y <;> by_cases h3 : fit cx cy <;> simp [h1, h2, h3]
theorem ls_cyc (x y z : Int) : lsZ y z x = lsZ x y z := by unfold lsZ; (repeat' split) <;> omega
theorem sk_eq (ax ay bx b_y cx cy : Int) : skB ax ay bx b_y cx cy = if fit ax ay ∧ fit bx b_y ∧ fit cx cy then skR (wayZ ax ay bx b_y) (wayZ bx b_y cx cy) (wayZ cx cy ax ay) (areaZ ax ay bx b_y cx cy) else false := by
  unfold skB
  rw [← sk_same, sho_area]
theorem sk_cyc (ax ay bx b_y cx cy : Int) : skB bx b_y cx cy ax ay = skB ax ay bx b_y cx cy := by
  rw [sk_eq, sk_eq, area_cyc]
  unfold skR
  rw [ls_cyc, show wayZ bx b_y cx cy * wayZ cx cy ax ay * wayZ ax ay bx b_y = wayZ ax ay bx b_y * wayZ bx b_y cx cy * wayZ cx cy ax ay by grind]
  by_cases h1 : fit ax ay <;> by_cases h2 : fit bx b_y <;> by_cases h3 : fit cx cy <;> simp [h1, h2, h3]
theorem disc_flip (ax ay bx b_y px py : Int) : discZ bx b_y ax ay px py = discZ ax ay bx b_y px py := by unfold discZ; grind
theorem dis_flip (ax ay bx b_y px py : Int) : disB bx b_y ax ay px py = disB ax ay bx b_y px py := by
  unfold disB
  rw [disc_flip]
  by_cases h1 : fit ax ay <;> by_cases h2 : fit bx b_y <;> by_cases h3 : fit px py <;> cases same px py ax ay <;> cases same px py bx b_y <;> simp [h1, h2, h3]
theorem dis_le {ax ay bx b_y px py : Int} (h : disB ax ay bx b_y px py = true) : discZ ax ay bx b_y px py ≤ 0 := by
  unfold disB at h
  split at h
  · cases h
  · exact sgn_le.1 (of_decide_eq_true h)
theorem three_dis {ax ay bx b_y cx cy : Int} (h1 : disB ax ay bx b_y cx cy = true) (h2 : disB bx b_y cx cy ax ay = true) : oriZ ax ay bx b_y cx cy = 0 := by
  have d1 := dis_le h1
  have d2 := dis_le h2
  have e : discZ ax ay bx b_y cx cy + discZ bx b_y cx cy ax ay = (cx - ax) * (cx - ax) + (cy - ay) * (cy - ay) := by unfold discZ; grind
  have s1 := sq_nn (cx - ax)
  have s2 := sq_nn (cy - ay)
  have h4 : (cx - ax) * (cx - ax) = 0 := by omega
  have h5 : (cy - ay) * (cy - ay) = 0 := by omega
  have h6 : cx - ax = 0 := by rcases Int.mul_eq_zero.1 h4 with h | h <;> exact h
  have h7 : cy - ay = 0 := by rcases Int.mul_eq_zero.1 h5 with h | h <;> exact h
  unfold oriZ areaZ
  rw [h6, h7]
  simp
  intros; rfl
theorem ori_one (ax ay bx b_y cx cy : Int) : oriZ ax ay bx b_y cx cy = -1 ∨ oriZ ax ay bx b_y cx cy = 0 ∨ oriZ ax ay bx b_y cx cy = 1 := by
  unfold oriZ
  split
  · rcases sgn_cases (areaZ ax ay bx b_y cx cy) with ⟨e, _⟩ | ⟨e, _⟩ | ⟨e, _⟩ <;> simp [e]
  · simp
section
variable {ax ay bx b_y cx cy : Int}
variable (ha : fit (-2 * ay) (2 * ax)) (hb : fit (-2 * b_y) (2 * bx)) (hc : fit (-2 * cy) (2 * cx))
include ha hb hc
end
end Go.Proofs.Ytkgagdjogedoiaa

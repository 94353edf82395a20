/- Three places turned, and twice as far apart: their answers stay; of a triangle's three angles one at most is right or wider. -/
import Derived.Test.YtkgagdjogedoiaaRf2
set_option linter.unusedVariables false
set_option linter.unusedSimpArgs false
namespace Go.Proofs.Ytkgagdjogedoiaa
open Go Go.RowKit Go.Proofs.Ytkgagdjogedoiaa.Fx Go.Proofs.YtkgagdjogedoiaaW.PrintWords
theorem sgn_negz (z : Int) : sgn (-z) = -sgn z := by rcases sgn_cases z with ⟨e, h⟩ | ⟨e, h⟩ | ⟨e, h⟩ <;> rcases sgn_cases (-z) with ⟨e', h'⟩ | ⟨e', h'⟩ | ⟨e', h'⟩ <;> rw [e, e'] <;> omega
theorem area_cyc (ax ay bx b_y cx cy : Int) : areaZ bx b_y cx cy ax ay = areaZ ax ay bx b_y cx cy := by unfold areaZ; grind
theorem area_flip (ax ay bx b_y cx cy : Int) : areaZ bx b_y ax ay cx cy = -areaZ ax ay bx b_y cx cy := by unfold areaZ; grind
theorem ori_cyc (ax ay bx b_y cx cy : Int) : oriZ bx b_y cx cy ax ay = oriZ ax ay bx b_y cx cy := by
 unfold oriZ
 rw [area_cyc]
 by_cases h1 : fit ax ay <;> by_cases h2 : fit bx b_y <;> by_cases h3 : fit cx cy <;> simp [h1, h2, h3]
theorem ori_flip (ax ay bx b_y cx cy : Int) : oriZ bx b_y ax ay cx cy = -oriZ ax ay bx b_y cx cy := by
 unfold oriZ
 rw [area_flip, sgn_negz]
 by_cases h1 : fit ax ay <;> by_cases h2 : fit bx b_y <;> by_cases h3 : fit cx cy <;> simp [h1, h2, h3]
theorem sk_eq (ax ay bx b_y cx cy : Int) : skB ax ay bx b_y cx cy = if fit ax ay ∧ fit bx b_y ∧ fit cx cy then skR (wayZ ax ay bx b_y) (wayZ bx b_y cx cy) (wayZ cx cy ax ay) (areaZ ax ay bx b_y cx cy) else false := by
 unfold skB
 rw [← sk_same, sho_area]
def disR (s1 s2 : Bool) (z : Int) : Bool := if s1 = true ∨ s2 = true then false else decide (sgn z ≤ 0)
theorem dis_ok {ax ay bx b_y px py : Int} (ha : fit ax ay) (hb : fit bx b_y) (hp : fit px py) : disB ax ay bx b_y px py = disR (same px py ax ay) (same px py bx b_y) (discZ ax ay bx b_y px py) := by
 unfold disB disR
 simp only [ha, hb, hp, and_self, not_true_eq_false, false_or]
theorem sk_ok {ax ay bx b_y cx cy : Int} (ha : fit ax ay) (hb : fit bx b_y) (hc : fit cx cy) : skB ax ay bx b_y cx cy = skR (wayZ ax ay bx b_y) (wayZ bx b_y cx cy) (wayZ cx cy ax ay) (areaZ ax ay bx b_y cx cy) := by rw [sk_eq, if_pos ⟨ha, hb, hc⟩]
theorem beq_of {a b c d : Int} (h : a = b ↔ c = d) : (a == b) = (c == d) := by rw [Bool.eq_iff_iff, beq_iff_eq, beq_iff_eq]; exact h
theorem ori_one (ax ay bx b_y cx cy : Int) : oriZ ax ay bx b_y cx cy = -1 ∨ oriZ ax ay bx b_y cx cy = 0 ∨ oriZ ax ay bx b_y cx cy = 1 := by
 unfold oriZ
 split
 ·rcases sgn_cases (areaZ ax ay bx b_y cx cy) with ⟨e, _⟩ | ⟨e, _⟩ | ⟨e, _⟩ <;> simp [e]
 ·simp
theorem ori_fit {ax ay bx b_y cx cy : Int} (h : oriZ ax ay bx b_y cx cy ≠ 0) : fit ax ay ∧ fit bx b_y ∧ fit cx cy := by
 unfold oriZ at h
 split at h
 ·assumption
 ·exact absurd rfl h
section
variable {ax ay bx b_y cx cy : Int}
theorem fit_tw (h : fit (-2 * ay) (2 * ax)) : fit ax ay := by unfold fit at *; omega
theorem sgn_four (z : Int) : sgn (4 * z) = sgn z := by rcases sgn_cases z with ⟨e, h⟩ | ⟨e, h⟩ | ⟨e, h⟩ <;> rcases sgn_cases (4 * z) with ⟨e', h'⟩ | ⟨e', h'⟩ | ⟨e', h'⟩ <;> rw [e, e'] <;> omega
theorem area_tw : areaZ (-2 * ay) (2 * ax) (-2 * b_y) (2 * bx) (-2 * cy) (2 * cx) = 4 * areaZ ax ay bx b_y cx cy := by unfold areaZ; grind
theorem disc_tw : discZ (-2 * ay) (2 * ax) (-2 * b_y) (2 * bx) (-2 * cy) (2 * cx) = 4 * discZ ax ay bx b_y cx cy := by unfold discZ; grind
theorem way_tw : wayZ (-2 * ay) (2 * ax) (-2 * b_y) (2 * bx) = 4 * wayZ ax ay bx b_y := by unfold wayZ sqZ; grind
theorem same_tw : same (-2 * ay) (2 * ax) (-2 * b_y) (2 * bx) = same ax ay bx b_y := by
 unfold same
 rw [beq_of (show -2 * ay = -2 * b_y ↔ ay = b_y by omega), beq_of (show 2 * ax = 2 * bx ↔ ax = bx by omega), Bool.and_comm]
theorem ls_four (x y z : Int) : lsZ (4 * x) (4 * y) (4 * z) = 4 * lsZ x y z := by unfold lsZ; (repeat' split) <;> omega
theorem skR_four (x y z t : Int) : skR (4 * x) (4 * y) (4 * z) (4 * t) = skR x y z t := by
 unfold skR
 rw [ls_four]
 have e1 : 4 * x * (4 * y) * (4 * z) - 8 * (4 * lsZ x y z) * (4 * t) * (4 * t) = 64 * (x * y * z - 8 * lsZ x y z * t * t) + (64 * (8 * lsZ x y z * t * t) - 8 * (4 * lsZ x y z) * (4 * t) * (4 * t)) := by grind
 have e2 : 64 * (8 * lsZ x y z * t * t) - 8 * (4 * lsZ x y z) * (4 * t) * (4 * t) = 0 := by grind
 rw [e1, e2]
 congr 1
 ·exact decide_eq_decide.2 (by omega)
 ·exact decide_eq_decide.2 (by omega)
variable (ha : fit (-2 * ay) (2 * ax)) (hb : fit (-2 * b_y) (2 * bx)) (hc : fit (-2 * cy) (2 * cx))
include ha hb hc
theorem dis_tw : disB (-2 * ay) (2 * ax) (-2 * b_y) (2 * bx) (-2 * cy) (2 * cx) = disB ax ay bx b_y cx cy := by
 rw [dis_ok ha hb hc, dis_ok (fit_tw ha) (fit_tw hb) (fit_tw hc), disc_tw, same_tw, same_tw]
 unfold disR
 rw [sgn_four]
theorem sk_tw : skB (-2 * ay) (2 * ax) (-2 * b_y) (2 * bx) (-2 * cy) (2 * cx) = skB ax ay bx b_y cx cy := by
 rw [sk_ok ha hb hc, sk_ok (fit_tw ha) (fit_tw hb) (fit_tw hc), way_tw, way_tw, way_tw, area_tw, skR_four]
end
end Go.Proofs.Ytkgagdjogedoiaa

/- Meshes in plain words: a triangle of three places, as the document finds it. -/
import Derived.Test.YtkgagdjogedoiaaDp2
set_option linter.unusedVariables false
set_option linter.unusedSimpArgs false
namespace Go.Proofs.Ytkgagdjogedoiaa
section
variable {n : Nat} {o : Int → Int → Int → Int}
theorem tri_out {a b c : Int} (h : ¬ ((0 ≤ a ∧ a < n) ∧ (0 ≤ b ∧ b < n) ∧ (0 ≤ c ∧ c < n) ∧ o a b c ≠ 0)) : triR n o a b c = ((0, 0, 0), false) := if_neg h
/-- The program's way: two places changed, if they turn right; turned round, twice at most. -/
theorem tri_in {a b c : Int} (h : (0 ≤ a ∧ a < n) ∧ (0 ≤ b ∧ b < n) ∧ (0 ≤ c ∧ c < n)) (h0 : o a b c ≠ 0) : triR n o a b c = (rot1 (rot1 (if o a b c = -1 then (a, c, b) else (a, b, c))), true) := if_pos ⟨h.1, h.2.1, h.2.2, h0⟩
end
end Go.Proofs.Ytkgagdjogedoiaa

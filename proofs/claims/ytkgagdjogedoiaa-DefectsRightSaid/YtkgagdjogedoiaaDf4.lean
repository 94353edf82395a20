/- A triangle of three places: the document's, the program's; walked. -/
import Derived.Test.YtkgagdjogedoiaaDf3
import Derived.Test.YtkgagdjogedoiaaDp5
set_option linter.unusedVariables false
set_option linter.unusedSimpArgs false
namespace Go.Proofs.Ytkgagdjogedoiaa
open Go Go.RowKit Go.Proofs.Ytkgagdjogedoiaa.Fx Go.Proofs.YtkgagdjogedoiaaW.PrintWords
theorem bT0 : Try.prog.built 42 [] = some (trv (0, 0, 0)).cells := by kernel_rfl
end Go.Proofs.Ytkgagdjogedoiaa

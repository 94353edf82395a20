/- The document's sides of a triangle, the triangle that has a side; walked. -/
import Derived.Test.YtkgagdjogedoiaaDf2
set_option linter.unusedVariables false
set_option linter.unusedSimpArgs false
namespace Go.Proofs.Ytkgagdjogedoiaa
open Go Go.RowKit Go.Proofs.Ytkgagdjogedoiaa.Fx Go.Proofs.YtkgagdjogedoiaaW.PrintWords
end Go.Proofs.Ytkgagdjogedoiaa

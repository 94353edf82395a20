/- The document's order of triangles, its search among segments; walked. -/
import Derived.Test.YtkgagdjogedoiaaDf1
set_option linter.unusedVariables false
set_option linter.unusedSimpArgs false
namespace Go.Proofs.Ytkgagdjogedoiaa
open Go Go.RowKit Go.Proofs.Ytkgagdjogedoiaa.Fx Go.Proofs.YtkgagdjogedoiaaW.PrintWords
end Go.Proofs.Ytkgagdjogedoiaa

/- The law WideMuls of the given program, as a plain statement on numbers of 256 bits, is proved at every input; no condition. -/
import Derived.Test.YtmpbbodafenonaaWP5
import Derived.Test.YtmpbbodafenonaaMT35
set_option linter.unusedVariables false
namespace Go.Proofs.Ytmpbbodafenonaa.Pure
open Go Go.RowKit Go.Proofs.Ytmpbbodafenonaa.MT Go.Proofs.YtmpbbodafenonaaW.PrintWords Go.Proofs.YtmpbbodafenonaaW.PrintLast
theorem WideMuls (l : List S27) (hok : ∀ x ∈ l, OkS x) : ∃ k, parquetlaw01_WideMuls.f k l = some true := by
  by_cases h : (l.length : Int) > 200
  · exact (Ev.yes (f := fun _ => (parquetlaw01_known.f).bind fun t => some t) h known_true).rounds
  · exact (Ev.no h (Ev.bind (mul_ev l (by omega) hok) (Ev.bind (rmul_ev l (by omega) hok) (Ev.yes (by simp) (Ev.yes rfl known_true))))).rounds
end Go.Proofs.Ytmpbbodafenonaa.Pure

/- The law OptionsParses of the given program, as a plain statement on bytes, is proved at every input; no condition. -/
import Derived.Test.YtbiafpklgkkoaaaPParse
import Derived.Test.YtbiafpklgkkoaaaMT9
namespace Go.Proofs.Ytbiafpklgkkoaaa.Pure
open Go Go.RowKit Go.Proofs.Ytbiafpklgkkoaaa.MT Go.Proofs.YtbiafpklgkkoaaaW.PrintWords Go.Proofs.YtbiafpklgkkoaaaW.PrintLast
theorem OptionsParses : parquetlaw06_OptionsParses.Pure := by
  intro l _ _ _
  by_cases h : l.length ≤ 2000
  · obtain ⟨k, hk⟩ := (refparse_ev l (by omega)).rounds
    refine ⟨k, ?_⟩
    unfold parquetlaw06_OptionsParses.f
    rw [if_neg (by omega), hk]
    unfold options_Parse.f parseO
    rw [if_pos (by omega)]
    simp [resP, parquetlaw06_known.f]
  · refine ⟨0, ?_⟩
    unfold parquetlaw06_OptionsParses.f
    rw [if_pos (by omega)]
    rfl
end Go.Proofs.Ytbiafpklgkkoaaa.Pure

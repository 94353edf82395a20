/- The law TokenNumbers of the given program, as a plain statement on words and numbers, is proved at every input; no condition. -/
import Derived.Test.YtajfaieiabnknaaPNumber
import Derived.Test.YtajfaieiabnknaaMT6
namespace Go.Proofs.Ytajfaieiabnknaa.Pure
open Go Go.RowKit Go.Proofs.Ytajfaieiabnknaa.MT Go.Proofs.YtajfaieiabnknaaW.PrintWords Go.Proofs.YtajfaieiabnknaaW.PrintLast

theorem TokenNumbers : parquetlaw02_TokenNumbers.Pure := by
  intro s most hs hw
  have hb : -9223372036854775808 ≤ most ∧ most ≤ 9223372036854775807 := by simpa [Lit.wf, IntKind.min, IntKind.max, IntKind.signed, IntKind.bits] using hw
  by_cases h : s.size ≤ 200
  · obtain ⟨k, hk⟩ := (number_ev s most h hb.1 hb.2).rounds
    refine ⟨k, ?_⟩
    unfold parquetlaw02_TokenNumbers.f
    rw [if_neg (by omega), hk]
    unfold token_Number.f
    rw [if_pos ⟨by omega, hb.2, hb.1⟩]
    simp [parquetlaw02_known.f]
  · refine ⟨0, ?_⟩
    unfold parquetlaw02_TokenNumbers.f
    rw [if_pos (by omega)]
    rfl
end Go.Proofs.Ytajfaieiabnknaa.Pure

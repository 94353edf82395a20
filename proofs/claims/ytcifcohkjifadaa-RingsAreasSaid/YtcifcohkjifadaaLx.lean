/- What several laws need. -/
import Derived.Test.YtcifcohkjifadaaSgRow
set_option linter.unusedVariables false
set_option linter.unusedSimpArgs false
namespace Go.Proofs.Ytcifcohkjifadaa
open Go Go.RowKit Go.Proofs.Ytcifcohkjifadaa.Fx Go.Proofs.YtcifcohkjifadaaW.PrintWords
theorem kk_ex (a : Int) (n : Nat) (hn : 0 < n) : ∃ kk : Nat, (IntKind.u64.wrap a).tmod (n : Int) = (kk : Int) ∧ kk < n := by
  have h0 : 0 ≤ IntKind.u64.wrap a := by show 0 ≤ a % (2 ^ 64 : Int); exact Int.emod_nonneg _ (by decide)
  rw [Int.tmod_eq_emod_of_nonneg h0]
  have h1 := Int.emod_nonneg (IntKind.u64.wrap a) (show (n : Int) ≠ 0 by omega)
  have h2 := Int.emod_lt_of_pos (IntKind.u64.wrap a) (show 0 < (n : Int) by omega)
  obtain ⟨r, hr⟩ : ∃ r, r = IntKind.u64.wrap a % (n : Int) := ⟨_, rfl⟩
  rw [← hr] at h1 h2 ⊢
  exact ⟨r.toNat, by omega, by omega⟩
end Go.Proofs.Ytcifcohkjifadaa

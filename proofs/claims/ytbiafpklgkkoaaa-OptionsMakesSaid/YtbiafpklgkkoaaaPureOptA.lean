/- Options that may not be: what is told of them. -/
import Derived.Test.YtbiafpklgkkoaaaMU2
import Derived.Test.YtbiafpklgkkoaaaMU3
set_option linter.unusedVariables false
set_option linter.unusedSimpArgs false
namespace Go.Proofs.Ytbiafpklgkkoaaa
open Go Go.RowKit Go.Proofs.Ytbiafpklgkkoaaa.MU Go.Proofs.YtbiafpklgkkoaaaW.PrintWords Go.Proofs.YtbiafpklgkkoaaaW.PrintLast
def okO (m n : Int) : Prop := 1 ≤ m ∧ m ≤ 3 ∧ 0 ≤ n ∧ n ≤ 100
instance (m n : Int) : Decidable (okO m n) := inferInstanceAs (Decidable (_ ∧ _))
theorem rcheck_no {m n : Int} (r : Bool) (h : ¬ okO m n) : parquetref06_Check.f m n r = some 2 := by
  unfold parquetref06_Check.f
  unfold okO at h
  repeat (first | rfl | split)
  omega
theorem rprint_no {m n : Int} (k : Nat) (r : Bool) (h : ¬ okO m n) : parquetref06_Print.f k m n r = some ((⟨#[]⟩ : ByteArray), 2) := by
  unfold parquetref06_Print.f
  rw [rcheck_no r h]
  rfl
/-- A statement on all options that may be, out of a finite check. -/
theorem all_opts {Q : Int → Int → Bool → Prop} (h : ∀ m : Fin 3, ∀ n ∈ List.range 101, ∀ r : Bool, Q ((m.val : Int) + 1) (n : Int) r) {m n : Int} (r : Bool) (ho : okO m n) : Q m n r := by
  obtain ⟨h1, h2, h3, h4⟩ := ho
  have := h ⟨(m - 1).toNat, by omega⟩ n.toNat (List.mem_range.2 (by omega)) r
  rwa [show (((m - 1).toNat : Nat) : Int) + 1 = m from by omega, show ((n.toNat : Nat) : Int) = n from by omega] at this
end Go.Proofs.Ytbiafpklgkkoaaa

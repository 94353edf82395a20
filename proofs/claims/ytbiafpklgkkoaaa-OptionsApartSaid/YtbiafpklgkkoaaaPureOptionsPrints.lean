/- The law OptionsPrints as a plain statement. -/
import Derived.Test.YtbiafpklgkkoaaaPureOptA
import Derived.Test.YtbiafpklgkkoaaaMU3
import Derived.Test.YtbiafpklgkkoaaaMU4
set_option linter.unusedVariables false
set_option linter.unusedSimpArgs false
namespace Go.Proofs.Ytbiafpklgkkoaaa
open Go Go.RowKit Go.Proofs.Ytbiafpklgkkoaaa.MU Go.Proofs.YtbiafpklgkkoaaaW.PrintWords Go.Proofs.YtbiafpklgkkoaaaW.PrintLast
theorem check_no {m n : Int} (r : Bool) (h : ¬ okO m n) : options_Check.f m n r = some 2 := rcheck_no r h
theorem check_yes {m n : Int} (r : Bool) (h : okO m n) : options_Check.f m n r = some 0 := by
  obtain ⟨h1, h2, h3, h4⟩ := h
  unfold options_Check.f
  rw [if_neg (by omega), if_neg (by omega), if_neg (by omega), if_neg (by omega)]
theorem print_no {m n : Int} (k : Nat) (r : Bool) (h : ¬ okO m n) : options_Print.f k m n r = some ((⟨#[]⟩ : ByteArray), 2) := by
  unfold options_Print.f
  rw [check_no r h]
  rfl
def sameB (m : Int) : Bool := (List.range 101).all fun n => [false, true].all fun r => match options_Print.f 60 m n r, parquetref06_Print.f 60 m n r with
  | some (s, e), some (t, f) => decide (s = t) && (e == 0) && (f == 0) && decide (options_Parse.f s = some (m, (n : Int), r, 0, 0))
  | _, _ => false
set_option maxRecDepth 100000 in
theorem same1 : sameB 1 = true := by decide +kernel
set_option maxRecDepth 100000 in
theorem same2 : sameB 2 = true := by decide +kernel
set_option maxRecDepth 100000 in
theorem same3 : sameB 3 = true := by decide +kernel
theorem same_at {m : Int} (h : sameB m = true) {n : Int} (r : Bool) (n0 : 0 ≤ n) (n1 : n ≤ 100) : ∃ s, options_Print.f 60 m n r = some (s, 0) ∧ parquetref06_Print.f 60 m n r = some (s, 0) ∧ options_Parse.f s = some (m, n, r, 0, 0) := by
  have a := List.all_eq_true.1 h n.toNat (List.mem_range.2 (by omega))
  have b := List.all_eq_true.1 a r (by cases r <;> simp)
  rw [show ((n.toNat : Nat) : Int) = n from by omega] at b
  generalize options_Print.f 60 m n r = x at b ⊢
  generalize parquetref06_Print.f 60 m n r = y at b ⊢
  match x, y, b with
  | some (s, e), some (t, f), b =>
    simp only [Bool.and_eq_true, decide_eq_true_eq, beq_iff_eq] at b
    obtain ⟨⟨⟨rfl, rfl⟩, rfl⟩, hp⟩ := b
    exact ⟨s, rfl, rfl, hp⟩
theorem prints_all {m n : Int} (r : Bool) (h : okO m n) : ∃ s, options_Print.f 60 m n r = some (s, 0) ∧ parquetref06_Print.f 60 m n r = some (s, 0) ∧ options_Parse.f s = some (m, n, r, 0, 0) := by
  obtain ⟨h1, h2, h3, h4⟩ := h
  have hm3 : m = 1 ∨ m = 2 ∨ m = 3 := by omega
  rcases hm3 with rfl | rfl | rfl
  · exact same_at same1 r h3 h4
  · exact same_at same2 r h3 h4
  · exact same_at same3 r h3 h4
theorem rcheck_yes {m n : Int} (r : Bool) (h : okO m n) : parquetref06_Check.f m n r = some 0 := check_yes r h
namespace Pure
theorem OptionsPrints (m n : Int) (r : Bool) (hm : (Lit.int .i64 m).wf = true) (hn : (Lit.int .i64 n).wf = true) : ∃ k, parquetlaw06_OptionsPrints.f k m n r = some true := by
  refine ⟨60, ?_⟩
  unfold parquetlaw06_OptionsPrints.f
  by_cases h : okO m n
  · obtain ⟨s, e1, e2, e3⟩ := prints_all r h
    rw [check_yes r h, rcheck_yes r h, e1, e2]
    simp only [Option.bind_some, if_true]
    rw [parquetlaw06_OptionsPrints.j0]
    rw [e3]
    simp [parquetlaw06_known.f]
  · rw [check_no r h, rcheck_no r h, print_no 60 r h, rprint_no 60 r h]
    simp only [Option.bind_some, if_true]
    rw [parquetlaw06_OptionsPrints.j0]
    simp [parquetlaw06_known.f]
end Pure
end Go.Proofs.Ytbiafpklgkkoaaa

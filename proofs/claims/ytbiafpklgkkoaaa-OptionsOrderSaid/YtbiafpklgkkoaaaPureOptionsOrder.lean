/- The law OptionsOrder as a plain statement. -/
import Derived.Test.YtbiafpklgkkoaaaPureOptionsPrints
import Derived.Test.YtbiafpklgkkoaaaMU4
set_option linter.unusedVariables false
set_option linter.unusedSimpArgs false
namespace Go.Proofs.Ytbiafpklgkkoaaa
open Go Go.RowKit Go.Proofs.Ytbiafpklgkkoaaa.MU Go.Proofs.YtbiafpklgkkoaaaW.PrintWords Go.Proofs.YtbiafpklgkkoaaaW.PrintLast
def orderB (m : Int) : Bool := (List.range 101).all fun n => [false, true].all fun r => [false, true].all fun t => parquetlaw06_OptionsOrder.f 60 m n r t == some true
set_option maxRecDepth 100000 in
theorem order1 : orderB 1 = true := by decide +kernel
set_option maxRecDepth 100000 in
theorem order2 : orderB 2 = true := by decide +kernel
set_option maxRecDepth 100000 in
theorem order3 : orderB 3 = true := by decide +kernel
theorem order_at {m : Int} (h : orderB m = true) {n : Int} (r t : Bool) (n0 : 0 ≤ n) (n1 : n ≤ 100) : parquetlaw06_OptionsOrder.f 60 m n r t = some true := by
  have a := List.all_eq_true.1 h n.toNat (List.mem_range.2 (by omega))
  have b := List.all_eq_true.1 a r (by cases r <;> simp)
  have c := List.all_eq_true.1 b t (by cases t <;> simp)
  rw [show ((n.toNat : Nat) : Int) = n from by omega] at c
  exact eq_of_beq c
namespace Pure
theorem OptionsOrder (m n : Int) (r t : Bool) (hm : (Lit.int .i64 m).wf = true) (hn : (Lit.int .i64 n).wf = true) : ∃ k, parquetlaw06_OptionsOrder.f k m n r t = some true := by
  refine ⟨60, ?_⟩
  by_cases h : okO m n
  · obtain ⟨h1, h2, h3, h4⟩ := h
    have hm3 : m = 1 ∨ m = 2 ∨ m = 3 := by omega
    rcases hm3 with rfl | rfl | rfl
    · exact order_at order1 r t h3 h4
    · exact order_at order2 r t h3 h4
    · exact order_at order3 r t h3 h4
  · unfold parquetlaw06_OptionsOrder.f
    rw [print_no 60 r h]
    simp only [Option.bind_some]
    rw [if_neg (by decide)]
    rw [parquetlaw06_OptionsOrder.j0]
    rw [if_pos rfl, check_no r h]
    rfl
end Pure
end Go.Proofs.Ytbiafpklgkkoaaa

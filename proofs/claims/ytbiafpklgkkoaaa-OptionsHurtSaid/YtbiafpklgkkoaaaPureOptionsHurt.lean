/- The law OptionsHurt as a plain statement. -/
import Derived.Test.YtbiafpklgkkoaaaPureOptA
import Derived.OpenShut
import Derived.Test.YtbiafpklgkkoaaaMU3
set_option linter.unusedVariables false
set_option linter.unusedSimpArgs false
namespace Go.Proofs.Ytbiafpklgkkoaaa.Pure
open Go Go.ChangeShapes Go.RowKit Go.Proofs.Ytbiafpklgkkoaaa Go.Proofs.Ytbiafpklgkkoaaa.MU Go.Proofs.YtbiafpklgkkoaaaW.PrintWords Go.Proofs.YtbiafpklgkkoaaaW.PrintLast
def hurtB (m : Int) : Bool := (List.range 101).all fun n => [false, true].all fun r => (List.range 6).all fun j => parquetlaw06_OptionsHurt.f 60 m n r j == some true
set_option maxRecDepth 100000 in
theorem hurt1 : hurtB 1 = true := by decide +kernel
set_option maxRecDepth 100000 in
theorem hurt2 : hurtB 2 = true := by decide +kernel
set_option maxRecDepth 100000 in
theorem hurt3 : hurtB 3 = true := by decide +kernel
theorem hurt_at {m : Int} (h : hurtB m = true) {n : Int} (r : Bool) {j : Int} (n0 : 0 ≤ n) (n1 : n ≤ 100) (j0 : 0 ≤ j) (j1 : j < 6) : parquetlaw06_OptionsHurt.f 60 m n r j = some true := by
  have a := List.all_eq_true.1 h n.toNat (List.mem_range.2 (by omega))
  have b := List.all_eq_true.1 a r (by cases r <;> simp)
  have c := List.all_eq_true.1 b j.toNat (List.mem_range.2 (by omega))
  rw [show ((n.toNat : Nat) : Int) = n from by omega, show ((j.toNat : Nat) : Int) = j from by omega] at c
  exact eq_of_beq c
theorem OptionsHurt (m n : Int) (r : Bool) (w : Int) (hm : (Lit.int .i64 m).wf = true) (hn : (Lit.int .i64 n).wf = true) (hw : (Lit.int .u8 w).wf = true) : ∃ k, parquetlaw06_OptionsHurt.f k m n r w = some true := by
  have hw2 : 0 ≤ w ∧ w < 256 := by
    have := bounds_u8 hw
    omega
  by_cases h : okO m n
  · refine ⟨60, ?_⟩
    have e : parquetlaw06_OptionsHurt.f 60 m n r w = parquetlaw06_OptionsHurt.f 60 m n r (w % 6) := by
      unfold parquetlaw06_OptionsHurt.f
      rw [show Int.tmod (w % 6) 6 = Int.tmod w 6 from by rw [Int.tmod_eq_emod_of_nonneg (by omega), Int.tmod_eq_emod_of_nonneg (by omega)]; omega]
    rw [e]
    obtain ⟨h1, h2, h3, h4⟩ := h
    have hm3 : m = 1 ∨ m = 2 ∨ m = 3 := by omega
    rcases hm3 with rfl | rfl | rfl
    · exact hurt_at hurt1 r h3 h4 (by omega) (by omega)
    · exact hurt_at hurt2 r h3 h4 (by omega) (by omega)
    · exact hurt_at hurt3 r h3 h4 (by omega) (by omega)
  · refine ⟨0, ?_⟩
    unfold parquetlaw06_OptionsHurt.f
    rw [rprint_no 0 r h]
    rfl
end Go.Proofs.Ytbiafpklgkkoaaa.Pure

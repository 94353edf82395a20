/- The law OptionsApart at every input. -/
import Derived.Test.YtbiafpklgkkoaaaOptAp
import Derived.OpenShut
import Derived.Test.YtbiafpklgkkoaaaMU3
set_option linter.unusedVariables false
set_option linter.unusedSimpArgs false
namespace Go.Proofs.Ytbiafpklgkkoaaa
open Go Go.Proofs Go.RowKit Go.ChangeShapes Go.Proofs.Ytbiafpklgkkoaaa.MU
theorem print_c {m n : Int} {r : Bool} {s : ByteArray} {e : Int} (h : options_Print.f 60 m n r = some (s, e)) (W : World) :
    Calls Try.prog 17 #[.agg #[.int .i64 m, .int .i64 n, .bool r]] W fun x w' => x = .returned (.tuple #[.string s, .int .i64 e]) ∧ Below W.heap.size W w' := options_Print.calls 60 m n r s e W h
theorem apart_any (a0 a1 : Int) (a2 : Bool) (b0 b1 : Int) (b2 : Bool) (n : Int) (w : World) (h0 : (Lit.int .i64 a0).wf = true) (h1 : (Lit.int .i64 a1).wf = true) (h2 : (Lit.int .i64 b0).wf = true) (h3 : (Lit.int .i64 b1).wf = true) (h4 : (Lit.int .i64 n).wf = true) :
    Calls Try.prog 8 #[.agg #[.int .i64 a0, .int .i64 a1, .bool a2], .agg #[.int .i64 b0, .int .i64 b1, .bool b2], .int .i64 n] w fun e w' => e = .returned (.bool true) ∧ Below w.heap.size w w' := by
  have hn := bounds_i64 h4
  by_cases ha : okO a0 a1
  · obtain ⟨s, es, _, ps⟩ := prints_all a2 ha
    by_cases hb : okO b0 b1
    · obtain ⟨t, et, _, pt⟩ := prints_all b2 hb
      by_cases hab : a0 = b0 ∧ a1 = b1 ∧ a2 = b2
      · obtain ⟨rfl, rfl, rfl⟩ := hab
        obtain rfl : s = t := by rw [es] at et; cases et; rfl
        exact apart_s _ _ _ _ _ _ _ s s 0 0 w hn (print_c es) (print_c et) rfl rfl (beq_self_eq_true _) (by simp)
      · have hst : s ≠ t := by
          intro e
          subst e
          rw [ps] at pt
          cases pt
          exact hab ⟨rfl, rfl, rfl⟩
        refine apart_d _ _ _ _ _ _ _ s t 0 0 w hn (print_c es) (print_c et) rfl rfl (toList_ne hst) ?_
        rw [Bool.eq_false_iff]
        intro h
        simp only [Bool.and_eq_true, beq_iff_eq] at h
        exact hab ⟨h.1, h.2.1, h.2.2⟩
    · exact apart_f _ _ _ _ _ _ _ s _ 0 2 w hn (print_c es) (print_c (print_no 60 b2 hb)) rfl rfl
  · by_cases hb : okO b0 b1
    · obtain ⟨t, et, _, pt⟩ := prints_all b2 hb
      exact apart_e _ _ _ _ _ _ _ _ t 2 0 w hn (print_c (print_no 60 a2 ha)) (print_c et) rfl
    · exact apart_e _ _ _ _ _ _ _ _ _ 2 2 w hn (print_c (print_no 60 a2 ha)) (print_c (print_no 60 b2 hb)) rfl
end Go.Proofs.Ytbiafpklgkkoaaa

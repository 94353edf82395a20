/- The walk of options.Check. -/
import Derived.Test.YtbiafpklgkkoaaaOptA
set_option linter.unusedVariables false
set_option linter.unusedSimpArgs false
namespace Go.Proofs.Ytbiafpklgkkoaaa
open Go Go.Proofs Go.RowKit
def chkS (m n : Int) : Int := if m < 1 ∨ 3 < m ∨ n < 0 ∨ 100 < n then 2 else 0
set_option maxHeartbeats 2000000 in
set_option maxRecDepth 100000 in
theorem check_any (m n : Int) (r : Bool) (w : World) : Calls Try.prog 16 #[.agg #[.int .i64 m, .int .i64 n, .bool r]] w fun e w' => e = .returned (.int .i64 (chkS m n)) ∧ Below w.heap.size w w' := by
  have hb := Below.refl w.heap.size w
  have hb1 := (Below.refl w.heap.size w).alloc (Nat.le_refl _) (.cells #[.int .i64 m, .int .i64 n, .bool r] 25)
  by_cases h1 : m < 1
  · have hc : chkS m n = 2 := if_pos (.inl h1)
    rw [hc]
    go_enter Try.func16, Try.ntmps16
    go_wp2
    go_ret
    exact ⟨rfl, by first | exact hb1 | exact hb⟩
  · by_cases h2 : 3 < m
    · have hc : chkS m n = 2 := if_pos (.inr (.inl h2))
      rw [hc]
      go_enter Try.func16, Try.ntmps16
      go_wp2
      go_ret
      exact ⟨rfl, by first | exact hb1 | exact hb⟩
    · by_cases h3 : n < 0
      · have hc : chkS m n = 2 := if_pos (.inr (.inr (.inl h3)))
        rw [hc]
        go_enter Try.func16, Try.ntmps16
        go_wp2
        go_ret
        exact ⟨rfl, by first | exact hb1 | exact hb⟩
      · by_cases h4 : 100 < n
        · have hc : chkS m n = 2 := if_pos (.inr (.inr (.inr h4)))
          rw [hc]
          go_enter Try.func16, Try.ntmps16
          go_wp2
          go_ret
          exact ⟨rfl, by first | exact hb1 | exact hb⟩
        · have hc : chkS m n = 0 := if_neg (by omega)
          rw [hc]
          go_enter Try.func16, Try.ntmps16
          go_wp2
          go_ret
          exact ⟨rfl, by first | exact hb1 | exact hb⟩
end Go.Proofs.Ytbiafpklgkkoaaa

/- The walk of the law TokenCuts: it is true at every input. -/
import Derived.Test.YtajfaieiabnknaaTokKnown
set_option linter.unusedVariables false
set_option linter.unusedSimpArgs false
namespace Go.Proofs.Ytajfaieiabnknaa
open Go Go.Proofs Go.RowKit Go.Shelf Go.Proofs.YtajfaieiabnknaaW.PrintWords Go.Proofs.YtajfaieiabnknaaW.PrintLast Go.Proofs.YtajfaieiabnknaaW.PrintMore

theorem refAll_long (A : Option Addr) (n cap : Nat) (w : World) (hlen : 1048576 < n) :
    Calls Try.prog 18 #[.slice A n cap] w fun e W' => e = .returned (.tuple #[.slice none 0 0, .int .i64 3]) ∧ w = W' := by
  have hl0 : decide ((n : Int) > 1048576) = true := by simp; omega
  go_enter Try.func18, Try.ntmps18
  go_wp2
  go_ret2
  exact ⟨rfl, rfl⟩

set_option maxHeartbeats 4000000 in
set_option maxRecDepth 100000 in
theorem cuts_walk (A : Option Addr) (cap : Nat) (xs : List Int) (w : World) (hcap : xs.length ≤ cap) (hR : ReadsInt w .u8 A xs.length xs) :
    Calls Try.prog 3 #[.slice A xs.length cap] w fun e w' => e = .returned (.bool true) ∧ Below w.heap.size w w' := by
  have hm := hR.2.1
  by_cases h1 : xs.length ≤ 5000
  · go_enter Try.func3, Try.ntmps3
    go_wp2_with fail
    refine (all_ok A cap xs w (by omega) hcap hR).mono ?_
    rintro e w1 ⟨v1, rfl, hv1, hb1⟩
    obtain ⟨A1, c1, rfl, hc1, hr1⟩ := Kd.R_reads hv1
    go_wp2_with fail
    refine (refAll_ok A cap xs w1 (by omega) hcap (hR.below hb1)).mono ?_
    rintro e w2 ⟨v2, rfl, hv2, hb2⟩
    obtain ⟨A2, c2, rfl, hc2, hr2⟩ := Kd.R_reads hv2
    go_wp2_with fail
    refine (same_any A1 c1 (tks xs) A2 c2 (tks xs) w2 (Kd.C_below hr1 hb2) hr2).mono ?_
    rintro e w3 ⟨rfl, hb3⟩
    rw [show eqT (tks xs) (tks xs) = true from by simp [eqT]]
    go_wp2_with fail
    refine (known_ok w3).mono ?_
    rintro e w4 ⟨rfl, hb4⟩
    go_wp2
    go_ret
    exact ⟨rfl, below_step (below_step (below_step hb1 hb2) hb3.below) hb4⟩
  · by_cases h2 : xs.length ≤ 1048576
    · go_enter Try.func3, Try.ntmps3
      go_wp2_with fail
      refine (known_ok w).mono ?_
      rintro e w4 ⟨rfl, hb4⟩
      go_wp2
      go_ret
      exact ⟨rfl, hb4⟩
    · go_enter Try.func3, Try.ntmps3
      go_wp2_with fail
      refine (all_long A xs.length cap w (by omega)).mono ?_
      rintro e w1 ⟨rfl, rfl⟩
      go_wp2_with fail
      refine (refAll_long A xs.length cap w (by omega)).mono ?_
      rintro e w1 ⟨rfl, rfl⟩
      go_wp2_with fail
      refine (same_any none 0 [] none 0 [] w ⟨rfl, by decide, fun h => by cases h⟩ ⟨rfl, by decide, fun h => by cases h⟩).mono ?_
      rintro e w3 ⟨rfl, hb3⟩
      rw [show eqT [] [] = true from by simp [eqT]]
      go_wp2_with fail
      refine (known_ok w3).mono ?_
      rintro e w4 ⟨rfl, hb4⟩
      go_wp2
      go_ret
      exact ⟨rfl, below_step hb3.below hb4⟩
end Go.Proofs.Ytajfaieiabnknaa

/- Two rows of four limbs, or two numbers of 256 bits, against each other, as the walk asks it. -/
import Derived.ChangeKeysEq
import Derived.Lib.Hide
import Derived.WalkSpells
import Derived.WalkLawsBesides
import Derived.Test.YtmpbbodafenonaaV
import Derived.Test.YtmpbbodafenonaaProg
set_option linter.unusedVariables false
set_option linter.unusedSimpArgs false
namespace Go.Proofs.Ytmpbbodafenonaa
open Go Go.Proofs Go.RowKit Go.Proofs.YtmpbbodafenonaaW.PrintWords
theorem eqA25 (d : Nat) (w : World) (x0 y0 x1 y1 x2 y2 x3 y3 : Int) :
    (Op.equalIn (d + 2) 25 (.agg #[.int .u64 x0, .int .u64 x1, .int .u64 x2, .int .u64 x3]) (.agg #[.int .u64 y0, .int .u64 y1, .int .u64 y2, .int .u64 y3])).run Try.prog w = .ok (x0 == y0 && (x1 == y1 && (x2 == y2 && (x3 == y3)))) w := by
  obtain ⟨i, hi⟩ := Option.isSome_iff_exists.1 (show (Try.prog.info? 24).isSome = true from by kernel_rfl)
  rw [run_equalIn_array (P := Try.prog) w (d + 1) _ _ Try.underlying25 hi, show Try.prog.cellsOf 24 = 1 from by kernel_rfl, show List.range 4 = [0, 1, 2, 3] from rfl]
  simp only [Op.eqItems, Sem.run_bind]
  go_simp
  by_cases h0 : x0 = y0 <;> by_cases h1 : x1 = y1 <;> by_cases h2 : x2 = y2 <;> by_cases h3 : x3 = y3 <;> simp [h0, h1, h2, h3]
theorem eqA27 (d : Nat) (w : World) (m n : Bool) (x0 y0 x1 y1 x2 y2 x3 y3 : Int) :
    (Op.equalIn (d + 3) 27 (.agg #[.bool m, .int .u64 x0, .int .u64 x1, .int .u64 x2, .int .u64 x3]) (.agg #[.bool n, .int .u64 y0, .int .u64 y1, .int .u64 y2, .int .u64 y3])).run Try.prog w = .ok (m == n && (x0 == y0 && (x1 == y1 && (x2 == y2 && (x3 == y3))))) w := by
  refine eqA_of Try.underlying27 (by kernel_rfl) ?_
  refine eqf_cons (by rfl) (by go_simp; rfl) (by go_simp; rfl) (by go_simp) ?_
  exact eqf_last (by rfl) (by go_simp) (by go_simp) (eqA25 d w _ _ _ _ _ _ _ _)
end Go.Proofs.Ytmpbbodafenonaa

/- A number of 256 bits that comes in as an argument, by value: what its cells are. -/
import Derived.Test.YtmpbbodafenonaaProg
import Derived.Test.YtmpbbodafenonaaLimbMath
import Derived.WalkKit
import Derived.ProofKit
import Derived.OpenShut
set_option linter.unusedVariables false
set_option linter.unusedSimpArgs false
namespace Go.Proofs.Ytmpbbodafenonaa
open Go Go.ChangeShapes Go.WideShapes Go.ChangeAt Go.RowKit
theorem wf_U {x : Int} (h : (Lit.int .u64 x).wf = true) : U x := by
 have := bounds_u64 h
 unfold U; omega
theorem c27 : Try.prog.cellsOf 27 = 5 := by kernel_rfl
theorem c25 : Try.prog.cellsOf 25 = 4 := by kernel_rfl
theorem c24 : Try.prog.cellsOf 24 = 1 := by kernel_rfl
theorem c4 : Try.prog.cellsOf 4 = 1 := by kernel_rfl
theorem five {α : Type} {cs : List α} (h : cs.length = 5) : ∃ a b c d e, cs = [a, b, c, d, e] := by
 match cs, h with
 | [a, b, c, d, e], _ => exact ⟨a, b, c, d, e, rfl⟩
set_option maxRecDepth 100000 in
theorem wide_cells {H : Type} {enc : TypeId × Value → H} {w : World} {base : Nat} {sp : Nat → Bool} {held : Bool} {n : Nat} {cs : List Value} {x : DataW H × List MemPlace}
  (h : DataW.trod enc Try.prog w base sp held n 27 cs = some x) :
  ∃ (m : Bool) (a b c e : Int), cs = [.bool m, .int .u64 a, .int .u64 b, .int .u64 c, .int .u64 e] ∧ U a ∧ U b ∧ U c ∧ U e := by
 obtain ⟨y0, y1, k, rfl, hl, h0, h1⟩ := trod_struct2 Try.underlying27 h
 rw [c27] at hl
 obtain ⟨v0, v1, v2, v3, v4, rfl⟩ := five hl
 simp only [c4, c25, List.drop_zero, List.take_succ_cons, List.take_zero, List.drop_succ_cons, List.take] at h0 h1
 obtain ⟨m, e0, _⟩ := DataW.trod_bool Try.underlying4 h0
 obtain ⟨ys, q, _, _, _, hys, hf⟩ := DataW.trod_array Try.underlying25 h1
 have g0 := hf 0 (by decide)
 have g1 := hf 1 (by decide)
 have g2 := hf 2 (by decide)
 have g3 := hf 3 (by decide)
 rw [c24] at g0 g1 g2 g3
 match ys, hys with
 | [z0, z1, z2, z3], _ =>
  simp at g0 g1 g2 g3
  obtain ⟨a, e1, _, wa⟩ := DataW.trod_int Try.underlying24 g0
  obtain ⟨b, e2, _, wb⟩ := DataW.trod_int Try.underlying24 g1
  obtain ⟨c, e3, _, wc⟩ := DataW.trod_int Try.underlying24 g2
  obtain ⟨e, e4, _, we⟩ := DataW.trod_int Try.underlying24 g3
  simp at e0 e1 e2 e3 e4
  subst e0 e1 e2 e3 e4
  exact ⟨m, a, b, c, e, rfl, wf_U wa, wf_U wb, wf_U wc, wf_U we⟩
set_option maxRecDepth 100000 in
theorem open_wide {H : Type} {enc : TypeId × Value → H} {w : World} {base : Nat} {sp : Nat → Bool} {held : Bool} {r : Reach} {b0 : Nat} {v : Value} {d : DataW H} {p : List MemPlace}
  (hv : Value.okWide Try.prog w r b0 27 v) (h : DataW.Trod enc Try.prog w base sp held 27 v d p) :
  ∃ (m : Bool) (a b c e : Int), v = .agg #[.bool m, .int .u64 a, .int .u64 b, .int .u64 c, .int .u64 e] ∧ U a ∧ U b ∧ U c ∧ U e := by
 obtain ⟨cs, rfl, hsz⟩ := okWide_struct Try.underlying27 hv
 obtain ⟨n, hn⟩ := h
 obtain ⟨m, a, b, c, e, he, h1⟩ := wide_cells hn
 simp [Value.cells] at he
 exact ⟨m, a, b, c, e, by cases cs; simp_all, h1⟩
end Go.Proofs.Ytmpbbodafenonaa

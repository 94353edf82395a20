/- Options that come in as an argument, by value: what their cells are. -/
import Derived.Test.YtbiafpklgkkoaaaProg
import Derived.WalkKit
import Derived.ProofKit
import Derived.OpenShut
import Derived.Deep.Strs
set_option linter.unusedVariables false
set_option linter.unusedSimpArgs false
namespace Go.Proofs.Ytbiafpklgkkoaaa
open Go Go.Deep Go.ChangeShapes Go.WideShapes Go.ChangeAt Go.RowKit
theorem co25 : Try.prog.cellsOf 25 = 3 := by kernel_rfl
theorem co3 : Try.prog.cellsOf 3 = 1 := by kernel_rfl
theorem co4 : Try.prog.cellsOf 4 = 1 := by kernel_rfl
theorem three {α : Type} {cs : List α} (h : cs.length = 3) : ∃ a b c, cs = [a, b, c] := by
  match cs, h with
  | [a, b, c], _ => exact ⟨a, b, c, rfl⟩
set_option maxRecDepth 100000 in
theorem open_opt {H : Type} {enc : TypeId × Value → H} {w : World} {base : Nat} {sp : Nat → Bool} {held : Bool} {r : Reach} {b0 : Nat} {v : Value} {d : DataW H} {p : List MemPlace}
    (hv : Value.okWide Try.prog w r b0 25 v) (h : DataW.Trod enc Try.prog w base sp held 25 v d p) :
    ∃ (m n : Int) (c : Bool), v = .agg #[.int .i64 m, .int .i64 n, .bool c] ∧ (Lit.int .i64 m).wf = true ∧ (Lit.int .i64 n).wf = true := by
  obtain ⟨cs, rfl, hsz⟩ := okWide_struct Try.underlying25 hv
  obtain ⟨n, hn⟩ := h
  obtain ⟨y0, y1, y2, k, hx, hl, h0, h1, h2⟩ := trod_struct3 Try.underlying25 hn
  rw [co25] at hl
  obtain ⟨v0, v1, v2, he⟩ := three hl
  rw [he] at h0 h1 h2
  simp only [co3, co4, List.drop_zero, List.take_succ_cons, List.take_zero, List.drop_succ_cons, List.take] at h0 h1 h2
  obtain ⟨a, e0, _, wa⟩ := DataW.trod_int Try.underlying3 h0
  obtain ⟨b, e1, _, wb⟩ := DataW.trod_int Try.underlying3 h1
  obtain ⟨c, e2, _⟩ := DataW.trod_bool Try.underlying4 h2
  simp at e0 e1 e2
  subst e0 e1 e2
  simp [Value.cells] at he
  exact ⟨a, b, c, by cases cs; simp_all, wa, wb⟩
end Go.Proofs.Ytbiafpklgkkoaaa

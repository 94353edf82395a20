/- A place, or a row of places, that comes in as an argument: what its cells are. -/
import Derived.Test.YtkgagdjogedoiaaProg
import Derived.Test.YtkgagdjogedoiaaPr4
import Derived.WalkKit
import Derived.ProofKit
import Derived.OpenShut
import Derived.Deep.Slices
set_option linter.unusedVariables false
set_option linter.unusedSimpArgs false
namespace Go.Proofs.Ytkgagdjogedoiaa
open Go Go.ChangeShapes Go.WideShapes Go.ChangeAt Go.RowKit Go.Proofs.Ytkgagdjogedoiaa.Fx Go.Proofs.YtkgagdjogedoiaaW.PrintWords
def I64 (x : Int) : Prop := -9223372036854775808 ≤ x ∧ x ≤ 9223372036854775807
theorem wf_I {x : Int} (h : (Lit.int .i64 x).wf = true) : I64 x := by
 have := bounds_i64 h
 unfold I64; omega
theorem cP : Try.prog.cellsOf 37 = 2 := by kernel_rfl
theorem cI : Try.prog.cellsOf 3 = 1 := by kernel_rfl
theorem two {α : Type} {cs : List α} (h : cs.length = 2) : ∃ a b, cs = [a, b] := by
 match cs, h with
 | [a, b], _ => exact ⟨a, b, rfl⟩
set_option maxRecDepth 100000 in
theorem point_cells {H : Type} {enc : TypeId × Value → H} {w : World} {base : Nat} {sp : Nat → Bool} {held : Bool} {n : Nat} {cs : List Value} {x : DataW H × List MemPlace}
  (h : DataW.trod enc Try.prog w base sp held n 37 cs = some x) : ∃ a b : Int, cs = [.int .i64 a, .int .i64 b] ∧ I64 a ∧ I64 b := by
 obtain ⟨y0, y1, k, rfl, hl, h0, h1⟩ := trod_struct2 Try.underlying37 h
 rw [cP] at hl
 obtain ⟨v0, v1, rfl⟩ := two hl
 simp only [cI, List.drop_zero, List.take_succ_cons, List.take_zero, List.drop_succ_cons, List.take] at h0 h1
 obtain ⟨a, e1, _, wa⟩ := DataW.trod_int Try.underlying3 h0
 obtain ⟨b, e2, _, wb⟩ := DataW.trod_int Try.underlying3 h1
 simp at e1 e2
 subst e1 e2
 exact ⟨a, b, rfl, wf_I wa, wf_I wb⟩
theorem FnC.go {f : FuncId} {ps : List SP} {r : Value} (h : FnC Try.prog f ps (.is r)) {vs : List Value} (W : World) (hA : Args (fun _ => True) W ps vs) : Calls Try.prog f vs.toArray W fun e w' => e = .returned r ∧ Below W.heap.size W w' :=
 (h (fun _ => True) vs W hA (fun _ _ => trivial)).mono fun e W' ⟨r', e1, e2, e3⟩ => ⟨by rw [e1, show r' = r from e2], e3⟩
end Go.Proofs.Ytkgagdjogedoiaa

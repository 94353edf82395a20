/- A place, or a row of places, that comes in as an argument: what its cells are. -/
import Derived.Test.YtmpbbodafenonaaProg
import Derived.Test.YtmpbbodafenonaaPr4
import Derived.WalkKit
import Derived.ProofKit
import Derived.OpenShut
import Derived.Deep.Slices
set_option linter.unusedVariables false
set_option linter.unusedSimpArgs false
namespace Go.Proofs.Ytmpbbodafenonaa
open Go Go.ChangeShapes Go.WideShapes Go.ChangeAt Go.RowKit Go.Proofs.Ytmpbbodafenonaa.Fx Go.Proofs.YtmpbbodafenonaaW.PrintWords
def I64 (x : Int) : Prop := -9223372036854775808 ≤ x ∧ x ≤ 9223372036854775807
theorem wf_I {x : Int} (h : (Lit.int .i64 x).wf = true) : I64 x := by
  have := bounds_i64 h
  unfold I64; omega
theorem cP : Try.prog.cellsOf 65 = 2 := by kernel_rfl
theorem cI : Try.prog.cellsOf 3 = 1 := by kernel_rfl
theorem two {α : Type} {cs : List α} (h : cs.length = 2) : ∃ a b, cs = [a, b] := by
  match cs, h with
  | [a, b], _ => exact ⟨a, b, rfl⟩
set_option maxRecDepth 100000 in
theorem point_cells {H : Type} {enc : TypeId × Value → H} {w : World} {base : Nat} {sp : Nat → Bool} {held : Bool} {n : Nat} {cs : List Value} {x : DataW H × List MemPlace}
    (h : DataW.trod enc Try.prog w base sp held n 65 cs = some x) : ∃ a b : Int, cs = [.int .i64 a, .int .i64 b] ∧ I64 a ∧ I64 b := by
  obtain ⟨y0, y1, k, rfl, hl, h0, h1⟩ := trod_struct2 Try.underlying65 h
  rw [cP] at hl
  obtain ⟨v0, v1, rfl⟩ := two hl
  simp only [cI, List.drop_zero, List.take_succ_cons, List.take_zero, List.drop_succ_cons, List.take] at h0 h1
  obtain ⟨a, e1, _, wa⟩ := DataW.trod_int Try.underlying3 h0
  obtain ⟨b, e2, _, wb⟩ := DataW.trod_int Try.underlying3 h1
  simp at e1 e2
  subst e1 e2
  exact ⟨a, b, rfl, wf_I wa, wf_I wb⟩
set_option maxRecDepth 100000 in
theorem open_point {H : Type} {enc : TypeId × Value → H} {w : World} {base : Nat} {sp : Nat → Bool} {held : Bool} {r : Reach} {b0 : Nat} {v : Value} {d : DataW H} {p : List MemPlace}
    (hv : Value.okWide Try.prog w r b0 65 v) (h : DataW.Trod enc Try.prog w base sp held 65 v d p) : ∃ a b : Int, v = ptv a b ∧ I64 a ∧ I64 b := by
  obtain ⟨cs, rfl, hsz⟩ := okWide_struct Try.underlying65 hv
  obtain ⟨n, hn⟩ := h
  obtain ⟨a, b, he, h1⟩ := point_cells hn
  simp [Value.cells] at he
  exact ⟨a, b, by unfold ptv; cases cs; simp_all, h1⟩
set_option maxRecDepth 100000 in
theorem open_points {H : Type} {enc : TypeId × Value → H} {w : World} {base : Nat} {sp : Nat → Bool} {held : Bool} {r : Reach} {b0 : Nat} {v : Value} {d : DataW H} {p : List MemPlace}
    (hv : Value.okWide Try.prog w r b0 70 v) (h : DataW.Trod enc Try.prog w base sp held 70 v d p) :
    ∃ l : List (Int × Int), (SP.vec 2 (l.map pc)).H (fun _ => True) v w ∧ ∀ x ∈ l, I64 x.1 ∧ I64 x.2 := by
  obtain ⟨A, len, cap, rfl⟩ := okWide_slice Try.underlying70 hv
  obtain ⟨fuel, hf⟩ := h
  rcases Go.Deep.open_slice Try.underlying70 hf with ⟨hcs, _⟩ | ⟨a, len', cap', m, n, D, Pl, hcs, hb, hl, hmx, hm, hx, hcell⟩
  · simp [Value.cells] at hcs
    obtain ⟨rfl, rfl, rfl⟩ := hcs
    exact ⟨[], ⟨none, 0, rfl, Nat.le_refl _, fun W' _ h => absurd h (Nat.lt_irrefl _)⟩, fun x hx => (by cases hx)⟩
  · simp [Value.cells] at hcs
    obtain ⟨rfl, rfl, rfl⟩ := hcs
    have hlm : len ≤ m := by rw [hm]; split <;> omega
    have hel : ∀ i : Nat, ∃ x : Int × Int, i < len → (I64 x.1 ∧ I64 x.2) ∧ ∀ (k : Nat) (u : Value), (pc x)[k]? = some u → w.cell? (a.add (i * 2 + k)) = some u := by
      intro i
      by_cases hi : i < len
      · obtain ⟨cs', hc1, hc2⟩ := hcell i (by omega)
        rw [cP] at hc1
        obtain ⟨x, y, rfl, hu⟩ := point_cells hc2
        refine ⟨(x, y), fun _ => ⟨hu, fun k u hk => ?_⟩⟩
        have hk5 : k < 2 := by have := (List.getElem?_eq_some_iff.1 hk).1; simpa [pc, ptc, ptv, Value.cells] using this
        unfold World.cells? at hc1
        split at hc1
        · have hg := mapM_some_get hc1 k k (by simp [hk5])
          rw [← Go.Deep.add_add]
          rw [hg]
          exact hk
        · cases hc1
      · exact ⟨(0, 0), fun h => absurd h hi⟩
    obtain ⟨f, hff⟩ := Classical.axiomOfChoice hel
    have hlen : ((List.range len).map f).length = len := by simp
    refine ⟨(List.range len).map f, ⟨some a, cap, by rw [List.length_map, hlen], by rw [List.length_map, hlen]; exact hl, fun W' hW' _ => ⟨a, rfl, fun j c hj => ?_⟩⟩, ?_⟩
    · have hjl : j < len := by have := (List.getElem?_eq_some_iff.1 hj).1; simpa using this
      have hq : c = pc (f j) := by simp [hjl] at hj; exact hj.symm
      subst hq
      refine ⟨rfl, fun i u hu => ?_⟩
      have hc := (hff j hjl).2 i u hu
      rw [← hc]
      exact World.cell?_of_block (w := w) (hW' _ trivial (World.block_lt_of_cell? w _ hc))
    · intro x hx
      obtain ⟨i, hi, rfl⟩ := List.mem_map.1 hx
      exact (hff i (List.mem_range.1 hi)).1
/-- A law's contract, as a row asks for it. -/
theorem FnC.go {f : FuncId} {ps : List SP} {r : Value} (h : FnC Try.prog f ps (.is r)) {vs : List Value} (W : World) (hA : Args (fun _ => True) W ps vs) : Calls Try.prog f vs.toArray W fun e w' => e = .returned r ∧ Below W.heap.size W w' :=
  (h (fun _ => True) vs W hA (fun _ _ => trivial)).mono fun e W' ⟨r', e1, e2, e3⟩ => ⟨by rw [e1, show r' = r from e2], e3⟩
end Go.Proofs.Ytmpbbodafenonaa

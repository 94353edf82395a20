/- A slice of steps that comes in as an argument: what its cells are. -/
import Derived.Test.YtbiafpklgkkoaaaMakA
import Derived.Test.YtbiafpklgkkoaaaOptRow
import Derived.Deep.Slices
set_option linter.unusedVariables false
set_option linter.unusedSimpArgs false
namespace Go.Proofs.Ytbiafpklgkkoaaa
open Go Go.Deep Go.ChangeShapes Go.WideShapes Go.ChangeAt Go.RowKit Go.Proofs.YtbiafpklgkkoaaaW.PrintWords Go.Proofs.YtbiafpklgkkoaaaW.PrintLast
theorem cstep : Try.prog.cellsOf 34 = 3 := by kernel_rfl
set_option maxRecDepth 100000 in
theorem step_cells {H : Type} {enc : TypeId × Value → H} {w : World} {base : Nat} {sp : Nat → Bool} {held : Bool} {n : Nat} {cs : List Value} {x : DataW H × List MemPlace}
    (h : DataW.trod enc Try.prog w base sp held n 34 cs = some x) : ∃ (a b : Int) (c : Bool), cs = [.int .i64 a, .int .i64 b, .bool c] := by
  obtain ⟨y0, y1, y2, k, hx, hl, h0, h1, h2⟩ := trod_struct3 Try.underlying34 h
  rw [cstep] at hl
  obtain ⟨v0, v1, v2, rfl⟩ := three hl
  simp only [co3, co4, List.drop_zero, List.take_succ_cons, List.take_zero, List.drop_succ_cons, List.take] at h0 h1 h2
  obtain ⟨a, e0, _, wa⟩ := DataW.trod_int Try.underlying3 h0
  obtain ⟨b, e1, _, wb⟩ := DataW.trod_int Try.underlying3 h1
  obtain ⟨c, e2, _⟩ := DataW.trod_bool Try.underlying4 h2
  simp at e0 e1 e2
  subst e0 e1 e2
  exact ⟨a, b, c, rfl⟩
set_option maxRecDepth 100000 in
theorem open_steps {H : Type} {enc : TypeId × Value → H} {w : World} {base : Nat} {sp : Nat → Bool} {held : Bool} {r : Reach} {b0 : Nat} {v : Value} {d : DataW H} {p : List MemPlace}
    (hv : Value.okWide Try.prog w r b0 32 v) (h : DataW.Trod enc Try.prog w base sp held 32 v d p) :
    ∃ (A : Option Addr) (l : List Stp) (c : Nat), v = .slice A l.length c ∧ Kd.C kStp w A l.length l ∧ l.length ≤ c := by
  obtain ⟨A, len, cap, rfl⟩ := okWide_slice Try.underlying32 hv
  obtain ⟨fuel, hf⟩ := h
  rcases Go.Deep.open_slice Try.underlying32 hf with ⟨hcs, _⟩ | ⟨a, len', cap', m, n, D, Pl, hcs, hb, hl, hmx, hm, hx, hcell⟩
  · simp [Value.cells] at hcs
    obtain ⟨rfl, rfl, rfl⟩ := hcs
    exact ⟨none, [], 0, rfl, Kd.C_nil _ _, Nat.le_refl _⟩
  · simp [Value.cells] at hcs
    obtain ⟨rfl, rfl, rfl⟩ := hcs
    have hlm : len ≤ m := by rw [hm]; split <;> omega
    have hel : ∀ i : Nat, ∃ x : Stp, i < len → ∀ (k : Nat) (u : Value), ([.int .i64 x.f0, .int .i64 x.f1, .bool x.f2] : List Value)[k]? = some u → w.cell? (a.add (i * 3 + k)) = some u := by
      intro i
      by_cases hi : i < len
      · obtain ⟨cs', hc1, hc2⟩ := hcell i (by omega)
        rw [cstep] at hc1
        obtain ⟨x0, x1, x2, rfl⟩ := step_cells hc2
        refine ⟨⟨x0, x1, x2⟩, fun _ => fun k u hk => ?_⟩
        have hk5 : k < 3 := by have := (List.getElem?_eq_some_iff.1 hk).1; simpa using this
        unfold World.cells? at hc1
        split at hc1
        · have hg := mapM_some_get hc1 k k (by simp [hk5])
          rw [← Go.Deep.add_add]
          rw [hg]
          exact hk
        · cases hc1
      · exact ⟨⟨0, 0, false⟩, fun h => absurd h hi⟩
    obtain ⟨f, hff⟩ := Classical.axiomOfChoice hel
    have hlen : ((List.range len).map f).length = len := by simp
    refine ⟨some a, (List.range len).map f, cap, by rw [hlen], ?_, by rw [hlen]; exact hl⟩
    refine ⟨rfl, by rw [hlen]; unfold maxLen at hmx; omega, fun _ => ⟨a, rfl, fun j q hj => ?_⟩⟩
    have hjl : j < len := by have := (List.getElem?_eq_some_iff.1 hj).1; simpa using this
    have hq : q = f j := by simp [hjl] at hj; exact hj.symm
    subst hq
    exact ⟨_, rfl, kStp_mk w (f j), fun i u hu => hff j hjl i u hu⟩
end Go.Proofs.Ytbiafpklgkkoaaa

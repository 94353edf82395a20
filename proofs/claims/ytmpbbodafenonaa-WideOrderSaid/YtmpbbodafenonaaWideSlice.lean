/- A slice of numbers of 256 bits that comes in as an argument: what its cells are. -/
import Derived.Test.YtmpbbodafenonaaWideRow
import Derived.Deep.Slices
import Derived.Test.YtmpbbodafenonaaMT0
set_option linter.unusedVariables false
set_option linter.unusedSimpArgs false
namespace Go.Proofs.Ytmpbbodafenonaa
open Go Go.ChangeShapes Go.WideShapes Go.ChangeAt Go.RowKit Go.Proofs.Ytmpbbodafenonaa.MT Go.Proofs.YtmpbbodafenonaaW.PrintWords Go.Proofs.YtmpbbodafenonaaW.PrintLast
def OkS (x : S27) : Prop := U x.f1.f0 ∧ U x.f1.f1 ∧ U x.f1.f2 ∧ U x.f1.f3
set_option maxRecDepth 100000 in
theorem open_wides {H : Type} {enc : TypeId × Value → H} {w : World} {base : Nat} {sp : Nat → Bool} {held : Bool} {r : Reach} {b0 : Nat} {v : Value} {d : DataW H} {p : List MemPlace}
    (hv : Value.okWide Try.prog w r b0 22 v) (h : DataW.Trod enc Try.prog w base sp held 22 v d p) :
    ∃ (A : Option Addr) (l : List S27) (c : Nat), v = .slice A l.length c ∧ (∀ x ∈ l, OkS x) ∧ Kd.C k27 w A l.length l ∧ l.length ≤ c := by
  obtain ⟨A, len, cap, rfl⟩ := okWide_slice Try.underlying22 hv
  obtain ⟨fuel, hf⟩ := h
  rcases Go.Deep.open_slice Try.underlying22 hf with ⟨hcs, _⟩ | ⟨a, len', cap', m, n, D, Pl, hcs, hb, hl, hmx, hm, hx, hcell⟩
  · simp [Value.cells] at hcs
    obtain ⟨rfl, rfl, rfl⟩ := hcs
    exact ⟨none, [], 0, rfl, fun x hx => (by cases hx), Kd.C_nil _ _, Nat.le_refl _⟩
  · simp [Value.cells] at hcs
    obtain ⟨rfl, rfl, rfl⟩ := hcs
    have hlm : len ≤ m := by rw [hm]; split <;> omega
    have hel : ∀ i : Nat, ∃ x : S27, i < len → OkS x ∧ ∀ (k : Nat) (u : Value), ([.bool x.f0, .int .u64 x.f1.f0, .int .u64 x.f1.f1, .int .u64 x.f1.f2, .int .u64 x.f1.f3] : List Value)[k]? = some u → w.cell? (a.add (i * 5 + k)) = some u := by
      intro i
      by_cases hi : i < len
      · obtain ⟨cs', hc1, hc2⟩ := hcell i (by omega)
        rw [c27] at hc1
        obtain ⟨mm, x0, x1, x2, x3, rfl, hu⟩ := wide_cells hc2
        refine ⟨⟨mm, ⟨x0, x1, x2, x3⟩⟩, fun _ => ⟨hu, fun k u hk => ?_⟩⟩
        have hk5 : k < 5 := by have := (List.getElem?_eq_some_iff.1 hk).1; simpa using this
        unfold World.cells? at hc1
        split at hc1
        · have hg := mapM_some_get hc1 k k (by simp [hk5])
          rw [← Go.Deep.add_add]
          rw [hg]
          exact hk
        · cases hc1
      · exact ⟨⟨false, ⟨0, 0, 0, 0⟩⟩, fun h => absurd h hi⟩
    obtain ⟨f, hff⟩ := Classical.axiomOfChoice hel
    have hlen : ((List.range len).map f).length = len := by simp
    refine ⟨some a, (List.range len).map f, cap, by rw [hlen], ?_, ?_, by rw [hlen]; exact hl⟩
    · intro x hx
      obtain ⟨i, hi, rfl⟩ := List.mem_map.1 hx
      exact (hff i (List.mem_range.1 hi)).1
    · refine ⟨rfl, by rw [hlen]; unfold maxLen at hmx; omega, fun _ => ⟨a, rfl, fun j q hj => ?_⟩⟩
      have hjl : j < len := by have := (List.getElem?_eq_some_iff.1 hj).1; simpa using this
      have hq : q = f j := by simp [hjl] at hj; exact hj.symm
      subst hq
      exact ⟨_, rfl, k27_mk w (f j), fun i u hu => (hff j hjl).2 i u hu⟩
end Go.Proofs.Ytmpbbodafenonaa

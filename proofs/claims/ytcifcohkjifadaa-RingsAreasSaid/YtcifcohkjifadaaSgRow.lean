/- Rows that come in as arguments: what their cells are. -/
import Derived.Test.YtcifcohkjifadaaProg
import Derived.Test.YtcifcohkjifadaaAr1
import Derived.WalkKit
import Derived.ProofKit
import Derived.OpenShut
import Derived.Deep.Slices
set_option linter.unusedVariables false
set_option linter.unusedSimpArgs false
namespace Go.Proofs.Ytcifcohkjifadaa
open Go Go.ChangeShapes Go.WideShapes Go.ChangeAt Go.RowKit Go.Proofs.Ytcifcohkjifadaa.Fx Go.Proofs.YtcifcohkjifadaaW.PrintWords
def I64 (x : Int) : Prop := -9223372036854775808 ≤ x ∧ x ≤ 9223372036854775807
theorem wf_I {x : Int} (h : (Lit.int .i64 x).wf = true) : I64 x := by
  have := bounds_i64 h
  unfold I64; omega
theorem cI : Try.prog.cellsOf 3 = 1 := by kernel_rfl
theorem two {α : Type} {cs : List α} (h : cs.length = 2) : ∃ a b, cs = [a, b] := by
  match cs, h with
  | [a, b], _ => exact ⟨a, b, rfl⟩
theorem one {α : Type} {cs : List α} (h : cs.length = 1) : ∃ a, cs = [a] := by
  match cs, h with
  | [a], _ => exact ⟨a, rfl⟩
theorem csegs : Try.prog.cellsOf 36 = 2 := by kernel_rfl
set_option maxRecDepth 100000 in
theorem cells_segs {H : Type} {enc : TypeId × Value → H} {w : World} {base : Nat} {sp : Nat → Bool} {held : Bool} {n : Nat} {cs : List Value} {x : DataW H × List MemPlace}
    (h : DataW.trod enc Try.prog w base sp held n 36 cs = some x) : ∃ a : Int × Int, cs = [.int .i64 a.1, .int .i64 a.2] ∧ (I64 a.1 ∧ I64 a.2) := by
  obtain ⟨y0, y1, k, rfl, hl, h0, h1⟩ := trod_struct2 Try.underlying36 h
  rw [csegs] at hl
  obtain ⟨v0, v1, rfl⟩ := two hl
  simp only [cI, List.drop_zero, List.take_succ_cons, List.take_zero, List.drop_succ_cons, List.take] at h0 h1
  obtain ⟨a, e1, _, wa⟩ := DataW.trod_int Try.underlying3 h0
  obtain ⟨b, e2, _, wb⟩ := DataW.trod_int Try.underlying3 h1
  simp at e1 e2
  subst e1 e2
  exact ⟨(a, b), rfl, wf_I wa, wf_I wb⟩
set_option maxRecDepth 100000 in
theorem open_segs {H : Type} {enc : TypeId × Value → H} {w : World} {base : Nat} {sp : Nat → Bool} {held : Bool} {r : Reach} {b0 : Nat} {v : Value} {d : DataW H} {p : List MemPlace}
    (hv : Value.okWide Try.prog w r b0 22 v) (h : DataW.Trod enc Try.prog w base sp held 22 v d p) :
    ∃ l : List (Int × Int), (SP.vec 2 (l.map fun x => sgc x)).H (fun _ => True) v w ∧ ∀ x ∈ l, I64 x.1 ∧ I64 x.2 := by
  obtain ⟨A, len, cap, rfl⟩ := okWide_slice Try.underlying22 hv
  obtain ⟨fuel, hf⟩ := h
  rcases Go.Deep.open_slice Try.underlying22 hf with ⟨hcs, _⟩ | ⟨a, len', cap', m, n, D, Pl, hcs, hb, hl, hmx, hm, hx, hcell⟩
  · simp [Value.cells] at hcs
    obtain ⟨rfl, rfl, rfl⟩ := hcs
    exact ⟨[], ⟨none, 0, rfl, Nat.le_refl _, fun W' _ h => absurd h (Nat.lt_irrefl _)⟩, fun x hx => (by cases hx)⟩
  · simp [Value.cells] at hcs
    obtain ⟨rfl, rfl, rfl⟩ := hcs
    have hlm : len ≤ m := by rw [hm]; split <;> omega
    have hel : ∀ i : Nat, ∃ x : Int × Int, i < len → (I64 x.1 ∧ I64 x.2) ∧ ∀ (k : Nat) (u : Value), (sgc x)[k]? = some u → w.cell? (a.add (i * 2 + k)) = some u := by
      intro i
      by_cases hi : i < len
      · obtain ⟨cs', hc1, hc2⟩ := hcell i (by omega)
        rw [csegs] at hc1
        obtain ⟨x, rfl, hu⟩ := cells_segs hc2
        refine ⟨x, fun _ => ⟨hu, fun k u hk => ?_⟩⟩
        have hk5 : k < 2 := by have := (List.getElem?_eq_some_iff.1 hk).1; simpa using this
        unfold World.cells? at hc1
        split at hc1
        · have hg := mapM_some_get hc1 k k (by rw [List.getElem?_range hk5])
          rw [← Go.Deep.add_add]
          rw [hg]
          exact hk
        · cases hc1
      · exact ⟨(0, 0), fun h => absurd h hi⟩
    obtain ⟨f, hff⟩ := Classical.axiomOfChoice hel
    have hlen : ((List.range len).map f).length = len := by simp
    refine ⟨(List.range len).map f, ⟨some a, cap, by rw [List.length_map, hlen], by rw [List.length_map, hlen]; exact hl, fun W' hW' _ => ⟨a, rfl, fun j c hj => ?_⟩⟩, ?_⟩
    · have hjl : j < len := by have := (List.getElem?_eq_some_iff.1 hj).1; simpa using this
      have hq : c = (fun x : Int × Int => sgc x) (f j) := by simp [hjl] at hj; exact hj.symm
      subst hq
      refine ⟨rfl, fun i u hu => ?_⟩
      have hc := (hff j hjl).2 i u hu
      rw [← hc]
      exact World.cell?_of_block (w := w) (hW' _ trivial (World.block_lt_of_cell? w _ hc))
    · intro x hx
      obtain ⟨i, hi, rfl⟩ := List.mem_map.1 hx
      exact (hff i (List.mem_range.1 hi)).1
theorem cpts : Try.prog.cellsOf 66 = 2 := by kernel_rfl
set_option maxRecDepth 100000 in
theorem cells_pts {H : Type} {enc : TypeId × Value → H} {w : World} {base : Nat} {sp : Nat → Bool} {held : Bool} {n : Nat} {cs : List Value} {x : DataW H × List MemPlace}
    (h : DataW.trod enc Try.prog w base sp held n 66 cs = some x) : ∃ a : Int × Int, cs = [.int .i64 a.1, .int .i64 a.2] ∧ (I64 a.1 ∧ I64 a.2) := by
  obtain ⟨y0, y1, k, rfl, hl, h0, h1⟩ := trod_struct2 Try.underlying66 h
  rw [cpts] at hl
  obtain ⟨v0, v1, rfl⟩ := two hl
  simp only [cI, List.drop_zero, List.take_succ_cons, List.take_zero, List.drop_succ_cons, List.take] at h0 h1
  obtain ⟨a, e1, _, wa⟩ := DataW.trod_int Try.underlying3 h0
  obtain ⟨b, e2, _, wb⟩ := DataW.trod_int Try.underlying3 h1
  simp at e1 e2
  subst e1 e2
  exact ⟨(a, b), rfl, wf_I wa, wf_I wb⟩
set_option maxRecDepth 100000 in
theorem open_pts {H : Type} {enc : TypeId × Value → H} {w : World} {base : Nat} {sp : Nat → Bool} {held : Bool} {r : Reach} {b0 : Nat} {v : Value} {d : DataW H} {p : List MemPlace}
    (hv : Value.okWide Try.prog w r b0 40 v) (h : DataW.Trod enc Try.prog w base sp held 40 v d p) :
    ∃ l : List (Int × Int), (SP.vec 2 (l.map fun x => [Value.int .i64 x.1, Value.int .i64 x.2])).H (fun _ => True) v w ∧ ∀ x ∈ l, I64 x.1 ∧ I64 x.2 := by
  obtain ⟨A, len, cap, rfl⟩ := okWide_slice Try.underlying40 hv
  obtain ⟨fuel, hf⟩ := h
  rcases Go.Deep.open_slice Try.underlying40 hf with ⟨hcs, _⟩ | ⟨a, len', cap', m, n, D, Pl, hcs, hb, hl, hmx, hm, hx, hcell⟩
  · simp [Value.cells] at hcs
    obtain ⟨rfl, rfl, rfl⟩ := hcs
    exact ⟨[], ⟨none, 0, rfl, Nat.le_refl _, fun W' _ h => absurd h (Nat.lt_irrefl _)⟩, fun x hx => (by cases hx)⟩
  · simp [Value.cells] at hcs
    obtain ⟨rfl, rfl, rfl⟩ := hcs
    have hlm : len ≤ m := by rw [hm]; split <;> omega
    have hel : ∀ i : Nat, ∃ x : Int × Int, i < len → (I64 x.1 ∧ I64 x.2) ∧ ∀ (k : Nat) (u : Value), ([Value.int .i64 x.1, Value.int .i64 x.2])[k]? = some u → w.cell? (a.add (i * 2 + k)) = some u := by
      intro i
      by_cases hi : i < len
      · obtain ⟨cs', hc1, hc2⟩ := hcell i (by omega)
        rw [cpts] at hc1
        obtain ⟨x, rfl, hu⟩ := cells_pts hc2
        refine ⟨x, fun _ => ⟨hu, fun k u hk => ?_⟩⟩
        have hk5 : k < 2 := by have := (List.getElem?_eq_some_iff.1 hk).1; simpa using this
        unfold World.cells? at hc1
        split at hc1
        · have hg := mapM_some_get hc1 k k (by rw [List.getElem?_range hk5])
          rw [← Go.Deep.add_add]
          rw [hg]
          exact hk
        · cases hc1
      · exact ⟨(0, 0), fun h => absurd h hi⟩
    obtain ⟨f, hff⟩ := Classical.axiomOfChoice hel
    have hlen : ((List.range len).map f).length = len := by simp
    refine ⟨(List.range len).map f, ⟨some a, cap, by rw [List.length_map, hlen], by rw [List.length_map, hlen]; exact hl, fun W' hW' _ => ⟨a, rfl, fun j c hj => ?_⟩⟩, ?_⟩
    · have hjl : j < len := by have := (List.getElem?_eq_some_iff.1 hj).1; simpa using this
      have hq : c = (fun x : Int × Int => [Value.int .i64 x.1, Value.int .i64 x.2]) (f j) := by simp [hjl] at hj; exact hj.symm
      subst hq
      refine ⟨rfl, fun i u hu => ?_⟩
      have hc := (hff j hjl).2 i u hu
      rw [← hc]
      exact World.cell?_of_block (w := w) (hW' _ trivial (World.block_lt_of_cell? w _ hc))
    · intro x hx
      obtain ⟨i, hi, rfl⟩ := List.mem_map.1 hx
      exact (hff i (List.mem_range.1 hi)).1
theorem cints : Try.prog.cellsOf 3 = 1 := by kernel_rfl
set_option maxRecDepth 100000 in
theorem cells_ints {H : Type} {enc : TypeId × Value → H} {w : World} {base : Nat} {sp : Nat → Bool} {held : Bool} {n : Nat} {cs : List Value} {x : DataW H × List MemPlace}
    (h : DataW.trod enc Try.prog w base sp held n 3 cs = some x) : ∃ a : Int, cs = [.int .i64 a] ∧ (I64 a) := by
  obtain ⟨a, e1, _, wa⟩ := DataW.trod_int Try.underlying3 h
  exact ⟨a, e1, by exact wf_I wa⟩
set_option maxRecDepth 100000 in
theorem open_ints {H : Type} {enc : TypeId × Value → H} {w : World} {base : Nat} {sp : Nat → Bool} {held : Bool} {r : Reach} {b0 : Nat} {v : Value} {d : DataW H} {p : List MemPlace}
    (hv : Value.okWide Try.prog w r b0 24 v) (h : DataW.Trod enc Try.prog w base sp held 24 v d p) :
    ∃ l : List (Int), (SP.vec 1 (l.map fun x => [ic x])).H (fun _ => True) v w ∧ ∀ x ∈ l, I64 x := by
  obtain ⟨A, len, cap, rfl⟩ := okWide_slice Try.underlying24 hv
  obtain ⟨fuel, hf⟩ := h
  rcases Go.Deep.open_slice Try.underlying24 hf with ⟨hcs, _⟩ | ⟨a, len', cap', m, n, D, Pl, hcs, hb, hl, hmx, hm, hx, hcell⟩
  · simp [Value.cells] at hcs
    obtain ⟨rfl, rfl, rfl⟩ := hcs
    exact ⟨[], ⟨none, 0, rfl, Nat.le_refl _, fun W' _ h => absurd h (Nat.lt_irrefl _)⟩, fun x hx => (by cases hx)⟩
  · simp [Value.cells] at hcs
    obtain ⟨rfl, rfl, rfl⟩ := hcs
    have hlm : len ≤ m := by rw [hm]; split <;> omega
    have hel : ∀ i : Nat, ∃ x : Int, i < len → (I64 x) ∧ ∀ (k : Nat) (u : Value), ([ic x])[k]? = some u → w.cell? (a.add (i * 1 + k)) = some u := by
      intro i
      by_cases hi : i < len
      · obtain ⟨cs', hc1, hc2⟩ := hcell i (by omega)
        rw [cints] at hc1
        obtain ⟨x, rfl, hu⟩ := cells_ints hc2
        refine ⟨x, fun _ => ⟨hu, fun k u hk => ?_⟩⟩
        have hk5 : k < 1 := by have := (List.getElem?_eq_some_iff.1 hk).1; simpa using this
        unfold World.cells? at hc1
        split at hc1
        · have hg := mapM_some_get hc1 k k (by rw [List.getElem?_range hk5])
          rw [← Go.Deep.add_add]
          rw [hg]
          exact hk
        · cases hc1
      · exact ⟨0, fun h => absurd h hi⟩
    obtain ⟨f, hff⟩ := Classical.axiomOfChoice hel
    have hlen : ((List.range len).map f).length = len := by simp
    refine ⟨(List.range len).map f, ⟨some a, cap, by rw [List.length_map, hlen], by rw [List.length_map, hlen]; exact hl, fun W' hW' _ => ⟨a, rfl, fun j c hj => ?_⟩⟩, ?_⟩
    · have hjl : j < len := by have := (List.getElem?_eq_some_iff.1 hj).1; simpa using this
      have hq : c = (fun x : Int => [ic x]) (f j) := by simp [hjl] at hj; exact hj.symm
      subst hq
      refine ⟨rfl, fun i u hu => ?_⟩
      have hc := (hff j hjl).2 i u hu
      rw [← hc]
      exact World.cell?_of_block (w := w) (hW' _ trivial (World.block_lt_of_cell? w _ hc))
    · intro x hx
      obtain ⟨i, hi, rfl⟩ := List.mem_map.1 hx
      exact (hff i (List.mem_range.1 hi)).1
theorem cu8s : Try.prog.cellsOf 5 = 1 := by kernel_rfl
set_option maxRecDepth 100000 in
theorem cells_u8s {H : Type} {enc : TypeId × Value → H} {w : World} {base : Nat} {sp : Nat → Bool} {held : Bool} {n : Nat} {cs : List Value} {x : DataW H × List MemPlace}
    (h : DataW.trod enc Try.prog w base sp held n 5 cs = some x) : ∃ a : Int, cs = [.int .u8 a] ∧ (0 ≤ a ∧ a ≤ 255) := by
  obtain ⟨a, e1, _, wa⟩ := DataW.trod_int Try.underlying5 h
  exact ⟨a, e1, by simpa [Lit.wf, show IntKind.u8.min = 0 by decide, show IntKind.u8.max = 255 by decide] using wa⟩
set_option maxRecDepth 100000 in
theorem open_u8s {H : Type} {enc : TypeId × Value → H} {w : World} {base : Nat} {sp : Nat → Bool} {held : Bool} {r : Reach} {b0 : Nat} {v : Value} {d : DataW H} {p : List MemPlace}
    (hv : Value.okWide Try.prog w r b0 63 v) (h : DataW.Trod enc Try.prog w base sp held 63 v d p) :
    ∃ l : List (Int), (SP.vec 1 (l.map fun x => [Value.int .u8 x])).H (fun _ => True) v w ∧ ∀ x ∈ l, 0 ≤ x ∧ x ≤ 255 := by
  obtain ⟨A, len, cap, rfl⟩ := okWide_slice Try.underlying63 hv
  obtain ⟨fuel, hf⟩ := h
  rcases Go.Deep.open_slice Try.underlying63 hf with ⟨hcs, _⟩ | ⟨a, len', cap', m, n, D, Pl, hcs, hb, hl, hmx, hm, hx, hcell⟩
  · simp [Value.cells] at hcs
    obtain ⟨rfl, rfl, rfl⟩ := hcs
    exact ⟨[], ⟨none, 0, rfl, Nat.le_refl _, fun W' _ h => absurd h (Nat.lt_irrefl _)⟩, fun x hx => (by cases hx)⟩
  · simp [Value.cells] at hcs
    obtain ⟨rfl, rfl, rfl⟩ := hcs
    have hlm : len ≤ m := by rw [hm]; split <;> omega
    have hel : ∀ i : Nat, ∃ x : Int, i < len → (0 ≤ x ∧ x ≤ 255) ∧ ∀ (k : Nat) (u : Value), ([Value.int .u8 x])[k]? = some u → w.cell? (a.add (i * 1 + k)) = some u := by
      intro i
      by_cases hi : i < len
      · obtain ⟨cs', hc1, hc2⟩ := hcell i (by omega)
        rw [cu8s] at hc1
        obtain ⟨x, rfl, hu⟩ := cells_u8s hc2
        refine ⟨x, fun _ => ⟨hu, fun k u hk => ?_⟩⟩
        have hk5 : k < 1 := by have := (List.getElem?_eq_some_iff.1 hk).1; simpa using this
        unfold World.cells? at hc1
        split at hc1
        · have hg := mapM_some_get hc1 k k (by rw [List.getElem?_range hk5])
          rw [← Go.Deep.add_add]
          rw [hg]
          exact hk
        · cases hc1
      · exact ⟨0, fun h => absurd h hi⟩
    obtain ⟨f, hff⟩ := Classical.axiomOfChoice hel
    have hlen : ((List.range len).map f).length = len := by simp
    refine ⟨(List.range len).map f, ⟨some a, cap, by rw [List.length_map, hlen], by rw [List.length_map, hlen]; exact hl, fun W' hW' _ => ⟨a, rfl, fun j c hj => ?_⟩⟩, ?_⟩
    · have hjl : j < len := by have := (List.getElem?_eq_some_iff.1 hj).1; simpa using this
      have hq : c = (fun x : Int => [Value.int .u8 x]) (f j) := by simp [hjl] at hj; exact hj.symm
      subst hq
      refine ⟨rfl, fun i u hu => ?_⟩
      have hc := (hff j hjl).2 i u hu
      rw [← hc]
      exact World.cell?_of_block (w := w) (hW' _ trivial (World.block_lt_of_cell? w _ hc))
    · intro x hx
      obtain ⟨i, hi, rfl⟩ := List.mem_map.1 hx
      exact (hff i (List.mem_range.1 hi)).1
theorem cbools : Try.prog.cellsOf 4 = 1 := by kernel_rfl
set_option maxRecDepth 100000 in
theorem cells_bools {H : Type} {enc : TypeId × Value → H} {w : World} {base : Nat} {sp : Nat → Bool} {held : Bool} {n : Nat} {cs : List Value} {x : DataW H × List MemPlace}
    (h : DataW.trod enc Try.prog w base sp held n 4 cs = some x) : ∃ a : Bool, cs = [.bool a] ∧ True := by
  obtain ⟨a, e1, _⟩ := DataW.trod_bool Try.underlying4 h
  exact ⟨a, e1, trivial⟩
set_option maxRecDepth 100000 in
theorem open_bools {H : Type} {enc : TypeId × Value → H} {w : World} {base : Nat} {sp : Nat → Bool} {held : Bool} {r : Reach} {b0 : Nat} {v : Value} {d : DataW H} {p : List MemPlace}
    (hv : Value.okWide Try.prog w r b0 58 v) (h : DataW.Trod enc Try.prog w base sp held 58 v d p) :
    ∃ l : List (Bool), (SP.vec 1 (l.map fun x => [Value.bool x])).H (fun _ => True) v w ∧ ∀ x ∈ l, True := by
  obtain ⟨A, len, cap, rfl⟩ := okWide_slice Try.underlying58 hv
  obtain ⟨fuel, hf⟩ := h
  rcases Go.Deep.open_slice Try.underlying58 hf with ⟨hcs, _⟩ | ⟨a, len', cap', m, n, D, Pl, hcs, hb, hl, hmx, hm, hx, hcell⟩
  · simp [Value.cells] at hcs
    obtain ⟨rfl, rfl, rfl⟩ := hcs
    exact ⟨[], ⟨none, 0, rfl, Nat.le_refl _, fun W' _ h => absurd h (Nat.lt_irrefl _)⟩, fun x hx => (by cases hx)⟩
  · simp [Value.cells] at hcs
    obtain ⟨rfl, rfl, rfl⟩ := hcs
    have hlm : len ≤ m := by rw [hm]; split <;> omega
    have hel : ∀ i : Nat, ∃ x : Bool, i < len → (True) ∧ ∀ (k : Nat) (u : Value), ([Value.bool x])[k]? = some u → w.cell? (a.add (i * 1 + k)) = some u := by
      intro i
      by_cases hi : i < len
      · obtain ⟨cs', hc1, hc2⟩ := hcell i (by omega)
        rw [cbools] at hc1
        obtain ⟨x, rfl, hu⟩ := cells_bools hc2
        refine ⟨x, fun _ => ⟨hu, fun k u hk => ?_⟩⟩
        have hk5 : k < 1 := by have := (List.getElem?_eq_some_iff.1 hk).1; simpa using this
        unfold World.cells? at hc1
        split at hc1
        · have hg := mapM_some_get hc1 k k (by rw [List.getElem?_range hk5])
          rw [← Go.Deep.add_add]
          rw [hg]
          exact hk
        · cases hc1
      · exact ⟨false, fun h => absurd h hi⟩
    obtain ⟨f, hff⟩ := Classical.axiomOfChoice hel
    have hlen : ((List.range len).map f).length = len := by simp
    refine ⟨(List.range len).map f, ⟨some a, cap, by rw [List.length_map, hlen], by rw [List.length_map, hlen]; exact hl, fun W' hW' _ => ⟨a, rfl, fun j c hj => ?_⟩⟩, ?_⟩
    · have hjl : j < len := by have := (List.getElem?_eq_some_iff.1 hj).1; simpa using this
      have hq : c = (fun x : Bool => [Value.bool x]) (f j) := by simp [hjl] at hj; exact hj.symm
      subst hq
      refine ⟨rfl, fun i u hu => ?_⟩
      have hc := (hff j hjl).2 i u hu
      rw [← hc]
      exact World.cell?_of_block (w := w) (hW' _ trivial (World.block_lt_of_cell? w _ hc))
    · intro x hx
      obtain ⟨i, hi, rfl⟩ := List.mem_map.1 hx
      exact (hff i (List.mem_range.1 hi)).1
/-- A law's contract, as a row asks for it. -/
theorem FnC.go {f : FuncId} {ps : List SP} {r : Value} (h : FnC Try.prog f ps (.is r)) {vs : List Value} (W : World) (hA : Args (fun _ => True) W ps vs) : Calls Try.prog f vs.toArray W fun e w' => e = .returned r ∧ Below W.heap.size W w' :=
  (h (fun _ => True) vs W hA (fun _ _ => trivial)).mono fun e W' ⟨r', e1, e2, e3⟩ => ⟨by rw [e1, show r' = r from e2], e3⟩
end Go.Proofs.Ytcifcohkjifadaa

/- Boxes of a call's own, by a list: each block's cells, whole. -/
import Derived.Test.YtmpbbodafenonaaProg
import Derived.WalkKit
import Derived.Below
import Derived.Lib.Hide
import Derived.Deep.RegionHeld3
import Derived.Deep.DeepCutAuto
import Derived.Deep.QuietTactic
import Derived.Deep.Draws
set_option linter.unusedVariables false
set_option linter.unusedSimpArgs false
namespace Go.Proofs.Ytmpbbodafenonaa
open Go Go.Proofs Go.RowKit
/-- A block's cells, whole. -/
def BX (W : World) (b : Nat) (cs : Array Value) (t : TypeId) : Prop := W.heap[b]? = some (.cells cs t (0, 0))
theorem BX.lt {W : World} {b : Nat} {cs : Array Value} {t : TypeId} (h : BX W b cs t) : b < W.heap.size := (Array.getElem?_eq_some_iff.1 h).1
theorem BX.later {W W' : World} {b : Nat} {cs : Array Value} {t : TypeId} (h : BX W b cs t) (hb : Below W.heap.size W W') : BX W' b cs t := (hb.block b h.lt).trans h
theorem BX.new (W : World) (cs : Array Value) (t : TypeId) : BX (W.alloc (.cells cs t)) W.heap.size cs t := by
  show (W.heap.push _)[W.heap.size]? = _
  simp
theorem BX.cell {W : World} {b : Nat} {cs : Array Value} {t : TypeId} (h : BX W b cs t) (i : Nat) : W.cell? ⟨b, i, none⟩ = cs[i]? := by simp [World.cell?, show W.heap[b]? = _ from h]
theorem BX.frozen {W : World} {b : Nat} {cs : Array Value} {t : TypeId} (h : BX W b cs t) (i : Nat) : W.frozen? ⟨b, i, none⟩ = false := by simp [World.frozen?, show W.heap[b]? = _ from h]
theorem BX.cells5 {W : World} {b : Nat} {a0 a1 a2 a3 a4 : Value} {t : TypeId} (h : BX W b #[a0, a1, a2, a3, a4] t) : W.cell? ⟨b, 0, none⟩ = some a0 ∧ W.cell? ⟨b, 1, none⟩ = some a1 ∧ W.cell? ⟨b, 2, none⟩ = some a2 ∧ W.cell? ⟨b, 3, none⟩ = some a3 ∧ W.cell? ⟨b, 4, none⟩ = some a4 :=
  ⟨h.cell 0, h.cell 1, h.cell 2, h.cell 3, h.cell 4⟩
theorem BX.cells2 {W : World} {b : Nat} {a0 a1 : Value} {t : TypeId} (h : BX W b #[a0, a1] t) : W.cell? ⟨b, 0, none⟩ = some a0 ∧ W.cell? ⟨b, 1, none⟩ = some a1 := ⟨h.cell 0, h.cell 1⟩
theorem BX.set {W : World} {b : Nat} {cs : Array Value} {t : TypeId} (h : BX W b cs t) (i : Nat) (v : Value) : BX (W.setCell ⟨b, i, none⟩ v) b (cs.setIfInBounds i v) t := by
  unfold BX at h ⊢
  simp [World.setCell, Array.getElem?_modify, h]
theorem BX.far {W : World} {b g : Nat} {cs : Array Value} {t : TypeId} (h : BX W b cs t) (hg : b ≠ g) (i : Nat) (v : Value) : BX (W.setCell ⟨g, i, none⟩ v) b cs t := by
  unfold BX at h ⊢
  rw [← h]
  simp [World.setCell, Array.getElem?_modify, Ne.symm hg]
/-- All boxes, and nothing else of what was has turned. -/
structure Bxs (w W : World) (L : List (Nat × Array Value × TypeId)) : Prop where
  hb : Below w.heap.size w W
  bx : ∀ p ∈ L, BX W p.1 p.2.1 p.2.2
theorem Bxs.start (w : World) : Bxs w w [] := ⟨Below.refl _ _, fun p h => by cases h⟩
theorem Bxs.later {w W W' : World} {L : List (Nat × Array Value × TypeId)} (h : Bxs w W L) (hb : Below W.heap.size W W') : Bxs w W' L :=
  ⟨h.hb.trans (hb.mono h.hb.size), fun p hp => (h.bx p hp).later hb⟩
theorem Bxs.alloc {w W : World} {L : List (Nat × Array Value × TypeId)} (h : Bxs w W L) (o : Obj) : Bxs w (W.alloc o) L := h.later ((Below.refl _ _).alloc (Nat.le_refl _) _)
theorem Bxs.drewN {w W : World} {L : List (Nat × Array Value × TypeId)} (h : Bxs w W L) (n : Nat) : Bxs w (W.drewN n) L := ⟨⟨h.hb.os, h.hb.tape, h.hb.output, h.hb.size, h.hb.block⟩, h.bx⟩
theorem Bxs.drew {w W : World} {L : List (Nat × Array Value × TypeId)} (h : Bxs w W L) : Bxs w W.drew L := ⟨⟨h.hb.os, h.hb.tape, h.hb.output, h.hb.size, h.hb.block⟩, h.bx⟩
theorem Bxs.add {w W : World} {L : List (Nat × Array Value × TypeId)} (h : Bxs w W L) {b : Nat} {cs : Array Value} {t : TypeId} (hx : BX W b cs t) : Bxs w W ((b, cs, t) :: L) :=
  ⟨h.hb, fun p hp => by rcases List.mem_cons.1 hp with rfl | hp
                        · exact hx
                        · exact h.bx p hp⟩
theorem Bxs.new {w W : World} {L : List (Nat × Array Value × TypeId)} (h : Bxs w W L) (cs : Array Value) (t : TypeId) : Bxs w (W.alloc (.cells cs t)) ((W.heap.size, cs, t) :: L) := (h.alloc _).add (BX.new _ _ _)
/-- A store into a box that was made later than all that are told. -/
theorem Bxs.set {w W : World} {L : List (Nat × Array Value × TypeId)} {g n : Nat} (h : Bxs w W L) (hL : ∀ p ∈ L, p.1 < n) (hn : n ≤ g) (hw : w.heap.size ≤ n) (i : Nat) (v : Value) : Bxs w (W.setCell ⟨g, i, none⟩ v) L :=
  ⟨h.hb.setCell (Nat.le_trans hw hn) _, fun p hp => (h.bx p hp).far (by have := hL p hp; omega) _ _⟩
theorem Bxs.lts {w W : World} {L : List (Nat × Array Value × TypeId)} (h : Bxs w W L) : ∀ p ∈ L, p.1 < W.heap.size := fun p hp => (h.bx p hp).lt
theorem Bxs.less {w W : World} {L M : List (Nat × Array Value × TypeId)} (h : Bxs w W L) (hM : ∀ p ∈ M, p ∈ L) : Bxs w W M := ⟨h.hb, fun p hp => h.bx p (hM p hp)⟩
/-- All boxes, and a new one. -/
structure NBox (w W : World) (L : List (Nat × Array Value × TypeId)) (g : Nat) (cs : Array Value) (t : TypeId) : Prop where
  hE : Bxs w W L
  bx : BX W g cs t
  far : ∀ p ∈ L, p.1 ≠ g
  ge : w.heap.size ≤ g
theorem NBox.start {w X : World} {L : List (Nat × Array Value × TypeId)} (h : Bxs w X L) (cs : Array Value) (t : TypeId) : NBox w (X.alloc (.cells cs t)) L X.heap.size cs t :=
  ⟨h.alloc _, BX.new _ _ _, fun p hp => Nat.ne_of_lt (h.lts p hp), h.hb.size⟩
theorem NBox.startd {w X : World} {L : List (Nat × Array Value × TypeId)} (h : Bxs w X L) (cs : Array Value) (t : TypeId) : NBox w (X.drew.alloc (.cells cs t)) L X.heap.size cs t := NBox.start h.drew cs t
theorem NBox.later {w W W' : World} {L : List (Nat × Array Value × TypeId)} {g : Nat} {cs : Array Value} {t : TypeId} (h : NBox w W L g cs t) (hb : Below W.heap.size W W') : NBox w W' L g cs t := ⟨h.hE.later hb, h.bx.later hb, h.far, h.ge⟩
theorem NBox.alloc {w W : World} {L : List (Nat × Array Value × TypeId)} {g : Nat} {cs : Array Value} {t : TypeId} (h : NBox w W L g cs t) (o : Obj) : NBox w (W.alloc o) L g cs t := h.later ((Below.refl _ _).alloc (Nat.le_refl _) _)
theorem NBox.drew {w W : World} {L : List (Nat × Array Value × TypeId)} {g : Nat} {cs : Array Value} {t : TypeId} (h : NBox w W L g cs t) : NBox w W.drew L g cs t := ⟨h.hE.drew, h.bx, h.far, h.ge⟩
theorem NBox.set {w W : World} {L : List (Nat × Array Value × TypeId)} {g : Nat} {cs : Array Value} {t : TypeId} (h : NBox w W L g cs t) (i : Nat) (v : Value) : NBox w (W.setCell ⟨g, i, none⟩ v) L g (cs.setIfInBounds i v) t :=
  ⟨⟨h.hE.hb.setCell h.ge _, fun p hp => (h.hE.bx p hp).far (h.far p hp) _ _⟩, h.bx.set i v, h.far, h.ge⟩
theorem NBox.done {w W : World} {L : List (Nat × Array Value × TypeId)} {g : Nat} {cs : Array Value} {t : TypeId} (h : NBox w W L g cs t) : Bxs w W ((g, cs, t) :: L) := h.hE.add h.bx
end Go.Proofs.Ytmpbbodafenonaa

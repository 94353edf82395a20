/- Words for the walk of wide's Parse: what its loops hold. -/
import Derived.Test.YtmpbbodafenonaaLimbSpec
import Derived.Test.YtmpbbodafenonaaRefWide
import Derived.Test.YtmpbbodafenonaaNumSpec
import Derived.Laws.RangeAny
import Derived.Test.YtmpbbodafenonaaV
set_option linter.unusedVariables false
set_option linter.unusedSimpArgs false
namespace Go.Proofs.Ytmpbbodafenonaa
open Go Go.Proofs Go.RowKit Go.Shelf Go.Proofs.YtmpbbodafenonaaW.PrintWords Go.Proofs.YtmpbbodafenonaaW.PrintLast Go.Proofs.YtmpbbodafenonaaW.PrintMore

/-- The world behind a step of a range over a string. -/
def itSet (W : World) (B : Nat) (s : ByteArray) (k : Nat) : World := { W with heap := W.heap.setIfInBounds B (.stringIter s k) }
theorem next_at {P : Program} {W : World} {B : Nat} {s : ByteArray} {pos : Nat} (hW : W.heap[B]? = some (.stringIter s pos)) (h : pos < s.size) (ha : (s[pos]'h).toNat < 128) (ty : TypeId) :
    (Instr.next (.pointer (some ⟨B, 0, none⟩)) true ty).run P W = .ok (.tuple #[.bool true, .int .i64 pos, .int .i32 (s[pos]'h).toNat]) (itSet W B s (pos + 1)) := by
  simp only [Instr.next, getObj, setObj, Sem.run_bind, Sem.run, hW, Result.andThen, h, if_true, decode_ascii s pos h ha]
  simp [goInt, Sem.run, itSet]
theorem next_end {P : Program} {W : World} {B : Nat} {s : ByteArray} {pos : Nat} (hW : W.heap[B]? = some (.stringIter s pos)) (h : ¬ pos < s.size) (ty : TypeId) :
    (Instr.next (.pointer (some ⟨B, 0, none⟩)) true ty).run P W = .ok (.tuple #[.bool false]) W := by
  simp [Instr.next, getObj, Sem.run, hW, h]

/-- A block that holds a number of 256 bits, its limbs any. -/
def BoxV (W : World) (B : Nat) (m : Bool) (v : Int) : Prop := W.heap[B]? = some (.cells #[.bool m, .int .u64 (spl0 v), .int .u64 (spl1 v), .int .u64 (spl2 v), .int .u64 (spl3 v)] 27 (0, 0))
theorem BoxV.lt {W : World} {B : Nat} {m : Bool} {v : Int} (h : BoxV W B m v) : B < W.heap.size := (Array.getElem?_eq_some_iff.1 h).1
theorem BoxV.below {W W' : World} {B n : Nat} {m : Bool} {v : Int} (h : BoxV W B m v) (hb : Below n W W') (hn : B < n) : BoxV W' B m v := (hb.block B hn).trans h
theorem BoxV.later {W W' : World} {B : Nat} {m : Bool} {v : Int} (h : BoxV W B m v) (hb : Below W.heap.size W W') : BoxV W' B m v := h.below hb h.lt
theorem BoxV.far {W : World} {B B' i : Nat} {m : Bool} {v : Int} (h : BoxV W B m v) (hn : B ≠ B') (x : Value) : BoxV (W.setCell ⟨B', i, none⟩ x) B m v := blk_far h (by simpa using hn) x
theorem BoxV.farAll {W : World} {B B' : Nat} {m : Bool} {v : Int} (h : BoxV W B m v) (hn : B ≠ B') (n x y z t : Value) : BoxV (((((W.setCell ⟨B', 0, none⟩ n).setCell ⟨B', 1, none⟩ x).setCell ⟨B', 2, none⟩ y).setCell ⟨B', 3, none⟩ z).setCell ⟨B', 4, none⟩ t) B m v :=
  ((((h.far hn _).far hn _).far hn _).far hn _).far hn _
theorem BoxV.fr {W : World} {B : Nat} {m : Bool} {v : Int} (h : BoxV W B m v) : W.frozen? ⟨B, 0, none⟩ = false ∧ W.frozen? ⟨B, 1, none⟩ = false ∧ W.frozen? ⟨B, 2, none⟩ = false ∧ W.frozen? ⟨B, 3, none⟩ = false ∧ W.frozen? ⟨B, 4, none⟩ = false := ⟨blk_frozen h 0, blk_frozen h 1, blk_frozen h 2, blk_frozen h 3, blk_frozen h 4⟩
theorem BoxV.cells {W : World} {B : Nat} {m : Bool} {v : Int} (h : BoxV W B m v) : W.cell? ⟨B, 0, none⟩ = some (.bool m) ∧ W.cell? ⟨B, 1, none⟩ = some (.int .u64 (spl0 v)) ∧ W.cell? ⟨B, 2, none⟩ = some (.int .u64 (spl1 v)) ∧ W.cell? ⟨B, 3, none⟩ = some (.int .u64 (spl2 v)) ∧ W.cell? ⟨B, 4, none⟩ = some (.int .u64 (spl3 v)) := by
  simp [World.cell?, show W.heap[B]? = _ from h]
theorem BoxV.setAll {W : World} {B : Nat} {m : Bool} {v : Int} (h : BoxV W B m v) (n : Bool) (u : Int) : BoxV (((((W.setCell ⟨B, 0, none⟩ (.bool n)).setCell ⟨B, 1, none⟩ (.int .u64 (spl0 u))).setCell ⟨B, 2, none⟩ (.int .u64 (spl1 u))).setCell ⟨B, 3, none⟩ (.int .u64 (spl2 u))).setCell ⟨B, 4, none⟩ (.int .u64 (spl3 u))) B n u := by
  have h1 := blk_set h 0 (.bool n)
  have h2 := blk_set h1 1 (.int .u64 (spl0 u))
  have h3 := blk_set h2 2 (.int .u64 (spl1 u))
  have h4 := blk_set h3 3 (.int .u64 (spl2 u))
  exact blk_set h4 4 (.int .u64 (spl3 u))
theorem BoxV.new (W : World) (m : Bool) : BoxV (W.alloc (.cells #[.bool m, .int .u64 0, .int .u64 0, .int .u64 0, .int .u64 0] 27)) W.heap.size m 0 := by
  show (W.heap.push _)[W.heap.size]? = _
  simp
  exact ⟨rfl, rfl, rfl, rfl⟩

theorem far1 {W : World} {B B' i : Nat} {o : Obj} (h : W.heap[B]? = some o) (hn : B ≠ B') (x : Value) : (W.setCell ⟨B', i, none⟩ x).heap[B]? = some o := (Below.heap_setCell W ⟨B', i, none⟩ x B hn).trans h
theorem farAll1 {W : World} {B B' : Nat} {o : Obj} (h : W.heap[B]? = some o) (hn : B ≠ B') (n x y z t : Value) : (((((W.setCell ⟨B', 0, none⟩ n).setCell ⟨B', 1, none⟩ x).setCell ⟨B', 2, none⟩ y).setCell ⟨B', 3, none⟩ z).setCell ⟨B', 4, none⟩ t).heap[B]? = some o :=
  far1 (far1 (far1 (far1 (far1 h hn _) hn _) hn _) hn _) hn _
/-- What the second loop holds: B the result's block, n the number's, i the range's. -/
structure PInv (w W : World) (B n i : Nat) (ds : ByteArray) (k : Nat) (v : Int) : Prop where
  hb : Below w.heap.size w W
  xr : BoxV W B false 0
  xn : BoxV W n false v
  it : W.heap[i]? = some (.stringIter ds k)
  gB : w.heap.size ≤ B
  gn : w.heap.size ≤ n
  gi : w.heap.size ≤ i
  nBn : B ≠ n
  nBi : B ≠ i
  nni : n ≠ i
theorem PInv.later {w W W' : World} {B n i : Nat} {ds : ByteArray} {k : Nat} {v : Int} (h : PInv w W B n i ds k v) (hb : Below W.heap.size W W') : PInv w W' B n i ds k v :=
  ⟨h.hb.trans (hb.mono h.hb.size), h.xr.later hb, h.xn.later hb, (hb.block i (Array.getElem?_eq_some_iff.1 h.it).1).trans h.it, h.gB, h.gn, h.gi, h.nBn, h.nBi, h.nni⟩
theorem PInv.dr {w W : World} {B n i : Nat} {ds : ByteArray} {k : Nat} {v : Int} (h : PInv w W B n i ds k v) : PInv w W.drew B n i ds k v := h.later (below_drew (Below.refl _ _))
theorem PInv.drN {w W : World} {B n i : Nat} {ds : ByteArray} {k : Nat} {v : Int} (h : PInv w W B n i ds k v) (q : Nat) : PInv w (W.drewN q) B n i ds k v := ⟨Below.trans h.hb (by first | exact (Drawn0.step (Drawn0.refl W) q).below.mono h.hb.size | exact Drawn0.below (Drawn0.step (Drawn0.refl W) q)), h.xr, h.xn, h.it, h.gB, h.gn, h.gi, h.nBn, h.nBi, h.nni⟩
theorem PInv.alloc {w W : World} {B n i : Nat} {ds : ByteArray} {k : Nat} {v : Int} (h : PInv w W B n i ds k v) (o : Obj) : PInv w (W.alloc o) B n i ds k v := h.later (below_alloc (Below.refl _ _) _)
theorem PInv.next {w W : World} {B n i : Nat} {ds : ByteArray} {k : Nat} {v : Int} (h : PInv w W B n i ds k v) (q : Nat) : PInv w (itSet W i ds q) B n i ds q v := by
  have hi := (Array.getElem?_eq_some_iff.1 h.it).1
  have hf : ∀ b, b ≠ i → (itSet W i ds q).heap[b]? = W.heap[b]? := fun b hb => by
    show (W.heap.setIfInBounds i _)[b]? = _
    rw [Array.getElem?_setIfInBounds_ne (by omega)]
  refine ⟨h.hb.trans ⟨rfl, rfl, rfl, by simp [itSet], fun b hb => hf b (by have := h.gi; omega)⟩, (hf B h.nBi).trans h.xr, (hf n h.nni).trans h.xn, ?_, h.gB, h.gn, h.gi, h.nBn, h.nBi, h.nni⟩
  show (W.heap.setIfInBounds i _)[i]? = _
  rw [Array.getElem?_setIfInBounds_self_of_lt hi]
theorem PInv.far {w W : World} {B n i : Nat} {ds : ByteArray} {k : Nat} {v : Int} (h : PInv w W B n i ds k v) (g : Nat) (hg : w.heap.size ≤ g) (h1 : B ≠ g) (h2 : n ≠ g) (h3 : i ≠ g) (a b c d e : Value) :
    PInv w (((((W.setCell ⟨g, 0, none⟩ a).setCell ⟨g, 1, none⟩ b).setCell ⟨g, 2, none⟩ c).setCell ⟨g, 3, none⟩ d).setCell ⟨g, 4, none⟩ e) B n i ds k v :=
  ⟨bset (bset (bset (bset (bset h.hb _ _ _ hg) _ _ _ hg) _ _ _ hg) _ _ _ hg) _ _ _ hg, h.xr.farAll h1 _ _ _ _ _, h.xn.farAll h2 _ _ _ _ _, farAll1 h.it h3 _ _ _ _ _, h.gB, h.gn, h.gi, h.nBn, h.nBi, h.nni⟩
theorem PInv.put {w W : World} {B n i : Nat} {ds : ByteArray} {k : Nat} {v : Int} (h : PInv w W B n i ds k v) (u : Int) :
    PInv w (((((W.setCell ⟨n, 0, none⟩ (.bool false)).setCell ⟨n, 1, none⟩ (.int .u64 (spl0 u))).setCell ⟨n, 2, none⟩ (.int .u64 (spl1 u))).setCell ⟨n, 3, none⟩ (.int .u64 (spl2 u))).setCell ⟨n, 4, none⟩ (.int .u64 (spl3 u))) B n i ds k u := by
  have h3 : i ≠ n := fun e => h.nni e.symm
  exact ⟨bset (bset (bset (bset (bset h.hb _ _ _ h.gn) _ _ _ h.gn) _ _ _ h.gn) _ _ _ h.gn) _ _ _ h.gn, h.xr.farAll h.nBn _ _ _ _ _, h.xn.setAll false u, farAll1 h.it h3 _ _ _ _ _, h.gB, h.gn, h.gi, h.nBn, h.nBi, h.nni⟩

theorem PInv.fresh {w W : World} {B n i : Nat} {ds : ByteArray} {k : Nat} {v : Int} (h : PInv w W B n i ds k v) {g : Nat} (hg : g = W.heap.size) : w.heap.size ≤ g ∧ B ≠ g ∧ n ≠ g ∧ i ≠ g := by
  have h1 := h.hb.size
  have h2 := h.xr.lt
  have h3 := h.xn.lt
  have h4 := (Array.getElem?_eq_some_iff.1 h.it).1
  omega
theorem PInv.ps {w W : World} {B n i : Nat} {ds : ByteArray} {k : Nat} {v : Int} (h : PInv w W B n i ds k v) :
    W.cell? ⟨n, 0, none⟩ = some (.bool false) ∧ W.cell? ⟨n, 1, none⟩ = some (.int .u64 (spl0 v)) ∧ W.cell? ⟨n, 2, none⟩ = some (.int .u64 (spl1 v)) ∧ W.cell? ⟨n, 3, none⟩ = some (.int .u64 (spl2 v)) ∧ W.cell? ⟨n, 4, none⟩ = some (.int .u64 (spl3 v)) ∧ PInv w W B n i ds k v :=
  ⟨h.xn.cells.1, h.xn.cells.2.1, h.xn.cells.2.2.1, h.xn.cells.2.2.2.1, h.xn.cells.2.2.2.2, h⟩
theorem ps_later {w W W' : World} {B n i : Nat} {ds : ByteArray} {k : Nat} {v : Int}
    (h : W.cell? ⟨n, 0, none⟩ = some (.bool false) ∧ W.cell? ⟨n, 1, none⟩ = some (.int .u64 (spl0 v)) ∧ W.cell? ⟨n, 2, none⟩ = some (.int .u64 (spl1 v)) ∧ W.cell? ⟨n, 3, none⟩ = some (.int .u64 (spl2 v)) ∧ W.cell? ⟨n, 4, none⟩ = some (.int .u64 (spl3 v)) ∧ PInv w W B n i ds k v) (hb : Below W.heap.size W W') :
    W'.cell? ⟨n, 0, none⟩ = some (.bool false) ∧ W'.cell? ⟨n, 1, none⟩ = some (.int .u64 (spl0 v)) ∧ W'.cell? ⟨n, 2, none⟩ = some (.int .u64 (spl1 v)) ∧ W'.cell? ⟨n, 3, none⟩ = some (.int .u64 (spl2 v)) ∧ W'.cell? ⟨n, 4, none⟩ = some (.int .u64 (spl3 v)) ∧ PInv w W' B n i ds k v :=
  (h.2.2.2.2.2.later hb).ps
/-- A block made in the midst, and what it is not. -/
structure NewBox (w W : World) (g B n i : Nat) (u : Int) : Prop where
  bx : BoxV W g false u
  ge : w.heap.size ≤ g
  n1 : B ≠ g
  n2 : n ≠ g
  n3 : i ≠ g
theorem NewBox.later {w W W' : World} {g B n i : Nat} {u : Int} (h : NewBox w W g B n i u) (hb : Below W.heap.size W W') : NewBox w W' g B n i u := ⟨h.bx.later hb, h.ge, h.n1, h.n2, h.n3⟩
theorem ps_new {w W W' : World} {B n i : Nat} {ds : ByteArray} {k : Nat} {v : Int} (h : W.cell? ⟨n, 0, none⟩ = some (.bool false) ∧ W.cell? ⟨n, 1, none⟩ = some (.int .u64 (spl0 v)) ∧ W.cell? ⟨n, 2, none⟩ = some (.int .u64 (spl1 v)) ∧ W.cell? ⟨n, 3, none⟩ = some (.int .u64 (spl2 v)) ∧ W.cell? ⟨n, 4, none⟩ = some (.int .u64 (spl3 v)) ∧ PInv w W B n i ds k v)
    (hb : Below (W.alloc (.cells #[.bool false, .int .u64 0, .int .u64 0, .int .u64 0, .int .u64 0] 27)).heap.size (W.alloc (.cells #[.bool false, .int .u64 0, .int .u64 0, .int .u64 0, .int .u64 0] 27)) W') : NewBox w W' W.heap.size B n i 0 := by
  obtain ⟨h1, h2, h3, h4⟩ := PInv.fresh h.2.2.2.2.2 (g := W.heap.size) rfl
  exact ⟨(BoxV.new W false).later hb, h1, h2, h3, h4⟩
theorem ps_newd {w W W' : World} {B n i : Nat} {ds : ByteArray} {k : Nat} {v : Int} (h : PInv w W B n i ds k v)
    (hb : Below (W.alloc (.cells #[.bool false, .int .u64 0, .int .u64 0, .int .u64 0, .int .u64 0] 27)).drew.heap.size (W.alloc (.cells #[.bool false, .int .u64 0, .int .u64 0, .int .u64 0, .int .u64 0] 27)).drew W') : NewBox w W' W.heap.size B n i 0 := by
  obtain ⟨h1, h2, h3, h4⟩ := PInv.fresh h (g := W.heap.size) rfl
  exact ⟨(show BoxV (W.alloc (.cells #[.bool false, .int .u64 0, .int .u64 0, .int .u64 0, .int .u64 0] 27)).drew W.heap.size false 0 from BoxV.new W false).later hb, h1, h2, h3, h4⟩
theorem ps_store {w W : World} {g B n i : Nat} {ds : ByteArray} {k : Nat} {v u : Int} (h : W.cell? ⟨n, 0, none⟩ = some (.bool false) ∧ W.cell? ⟨n, 1, none⟩ = some (.int .u64 (spl0 v)) ∧ W.cell? ⟨n, 2, none⟩ = some (.int .u64 (spl1 v)) ∧ W.cell? ⟨n, 3, none⟩ = some (.int .u64 (spl2 v)) ∧ W.cell? ⟨n, 4, none⟩ = some (.int .u64 (spl3 v)) ∧ PInv w W B n i ds k v) (hg : NewBox w W g B n i u) (a b c d e : Value) :
    (((((W.setCell ⟨g, 0, none⟩ a).setCell ⟨g, 1, none⟩ b).setCell ⟨g, 2, none⟩ c).setCell ⟨g, 3, none⟩ d).setCell ⟨g, 4, none⟩ e).cell? ⟨n, 0, none⟩ = some (.bool false) ∧ (((((W.setCell ⟨g, 0, none⟩ a).setCell ⟨g, 1, none⟩ b).setCell ⟨g, 2, none⟩ c).setCell ⟨g, 3, none⟩ d).setCell ⟨g, 4, none⟩ e).cell? ⟨n, 1, none⟩ = some (.int .u64 (spl0 v)) ∧ (((((W.setCell ⟨g, 0, none⟩ a).setCell ⟨g, 1, none⟩ b).setCell ⟨g, 2, none⟩ c).setCell ⟨g, 3, none⟩ d).setCell ⟨g, 4, none⟩ e).cell? ⟨n, 2, none⟩ = some (.int .u64 (spl1 v)) ∧ (((((W.setCell ⟨g, 0, none⟩ a).setCell ⟨g, 1, none⟩ b).setCell ⟨g, 2, none⟩ c).setCell ⟨g, 3, none⟩ d).setCell ⟨g, 4, none⟩ e).cell? ⟨n, 3, none⟩ = some (.int .u64 (spl2 v)) ∧ (((((W.setCell ⟨g, 0, none⟩ a).setCell ⟨g, 1, none⟩ b).setCell ⟨g, 2, none⟩ c).setCell ⟨g, 3, none⟩ d).setCell ⟨g, 4, none⟩ e).cell? ⟨n, 4, none⟩ = some (.int .u64 (spl3 v)) ∧ PInv w (((((W.setCell ⟨g, 0, none⟩ a).setCell ⟨g, 1, none⟩ b).setCell ⟨g, 2, none⟩ c).setCell ⟨g, 3, none⟩ d).setCell ⟨g, 4, none⟩ e) B n i ds k v :=
  (h.2.2.2.2.2.far g hg.ge hg.n1 hg.n2 hg.n3 a b c d e).ps
/-- Behind the making of a block: what is held. -/
structure Held (w W : World) (g B n i : Nat) (u : Int) (ds : ByteArray) (k : Nat) (v : Int) : Prop where
  nb : NewBox w W g B n i u
  pi : PInv w W B n i ds k v
theorem Held.later {w W W' : World} {g B n i : Nat} {u : Int} {ds : ByteArray} {k : Nat} {v : Int} (h : Held w W g B n i u ds k v) (hb : Below W.heap.size W W') : Held w W' g B n i u ds k v := ⟨h.nb.later hb, h.pi.later hb⟩
theorem nb_alloc {w W : World} {B n i : Nat} {ds : ByteArray} {k : Nat} {v : Int} (h : PInv w W B n i ds k v) (u : Int) :
    Held w (W.alloc (.cells #[.bool false, .int .u64 (spl0 u), .int .u64 (spl1 u), .int .u64 (spl2 u), .int .u64 (spl3 u)] 27)) W.heap.size B n i u ds k v := by
  obtain ⟨h1, h2, h3, h4⟩ := PInv.fresh h (g := W.heap.size) rfl
  refine ⟨⟨?_, h1, h2, h3, h4⟩, h.alloc _⟩
  show (W.heap.push _)[W.heap.size]? = _
  simp
theorem nb_store {w W : World} {g B n i : Nat} {ds : ByteArray} {k : Nat} {v u0 : Int} (h : PInv w W B n i ds k v) (hg : NewBox w W g B n i u0) (u : Int) :
    Held w (((((W.setCell ⟨g, 0, none⟩ (.bool false)).setCell ⟨g, 1, none⟩ (.int .u64 (spl0 u))).setCell ⟨g, 2, none⟩ (.int .u64 (spl1 u))).setCell ⟨g, 3, none⟩ (.int .u64 (spl2 u))).setCell ⟨g, 4, none⟩ (.int .u64 (spl3 u))) g B n i u ds k v :=
  ⟨⟨hg.bx.setAll false u, hg.ge, hg.n1, hg.n2, hg.n3⟩, h.far g hg.ge hg.n1 hg.n2 hg.n3 _ _ _ _ _⟩
theorem Held.exW {w W : World} {g B n i : Nat} {u : Int} {ds : ByteArray} {k : Nat} {v : Int} (_h : Held w W g B n i u ds k v) : ∃ W2, W2 = W := ⟨_, rfl⟩
theorem Held.exg {w W : World} {g B n i : Nat} {u : Int} {ds : ByteArray} {k : Nat} {v : Int} (_h : Held w W g B n i u ds k v) : ∃ g2, g2 = g := ⟨_, rfl⟩
theorem Held.ps {w W : World} {g B n i : Nat} {u : Int} {ds : ByteArray} {k : Nat} {v : Int} (h : Held w W g B n i u ds k v) : W.cell? ⟨g, 0, none⟩ = some (.bool false) ∧ W.cell? ⟨g, 1, none⟩ = some (.int .u64 (spl0 u)) ∧ W.cell? ⟨g, 2, none⟩ = some (.int .u64 (spl1 u)) ∧ W.cell? ⟨g, 3, none⟩ = some (.int .u64 (spl2 u)) ∧ W.cell? ⟨g, 4, none⟩ = some (.int .u64 (spl3 u)) ∧ Held w W g B n i u ds k v :=
  ⟨h.nb.bx.cells.1, h.nb.bx.cells.2.1, h.nb.bx.cells.2.2.1, h.nb.bx.cells.2.2.2.1, h.nb.bx.cells.2.2.2.2, h⟩
theorem Held.dr {w W : World} {g B n i : Nat} {u : Int} {ds : ByteArray} {k : Nat} {v : Int} (h : Held w W g B n i u ds k v) : Held w W.drew g B n i u ds k v := h.later (below_drew (Below.refl _ _))
theorem hs_later {w W W' : World} {g B n i : Nat} {u : Int} {ds : ByteArray} {k : Nat} {v : Int} (h : W.cell? ⟨g, 0, none⟩ = some (.bool false) ∧ W.cell? ⟨g, 1, none⟩ = some (.int .u64 (spl0 u)) ∧ W.cell? ⟨g, 2, none⟩ = some (.int .u64 (spl1 u)) ∧ W.cell? ⟨g, 3, none⟩ = some (.int .u64 (spl2 u)) ∧ W.cell? ⟨g, 4, none⟩ = some (.int .u64 (spl3 u)) ∧ Held w W g B n i u ds k v) (hb : Below W.heap.size W W') : W'.cell? ⟨g, 0, none⟩ = some (.bool false) ∧ W'.cell? ⟨g, 1, none⟩ = some (.int .u64 (spl0 u)) ∧ W'.cell? ⟨g, 2, none⟩ = some (.int .u64 (spl1 u)) ∧ W'.cell? ⟨g, 3, none⟩ = some (.int .u64 (spl2 u)) ∧ W'.cell? ⟨g, 4, none⟩ = some (.int .u64 (spl3 u)) ∧ Held w W' g B n i u ds k v := (h.2.2.2.2.2.later hb).ps
/-- A second block made in the midst. -/
structure Two (w W : World) (g2 g B n i : Nat) (u2 : Int) : Prop where
  nb : NewBox w W g2 B n i u2
  ng : g ≠ g2
theorem Two.later {w W W' : World} {g2 g B n i : Nat} {u2 : Int} (h : Two w W g2 g B n i u2) (hb : Below W.heap.size W W') : Two w W' g2 g B n i u2 := ⟨h.nb.later hb, h.ng⟩
theorem Held.fresh {w W : World} {g B n i : Nat} {u : Int} {ds : ByteArray} {k : Nat} {v : Int} (h : Held w W g B n i u ds k v) : w.heap.size ≤ W.heap.size ∧ B ≠ W.heap.size ∧ n ≠ W.heap.size ∧ i ≠ W.heap.size ∧ g ≠ W.heap.size := by
  obtain ⟨h1, h2, h3, h4⟩ := PInv.fresh h.pi (g := W.heap.size) rfl
  have := h.nb.bx.lt
  exact ⟨h1, h2, h3, h4, by omega⟩
theorem hs_new {w W W' : World} {g B n i : Nat} {u : Int} {ds : ByteArray} {k : Nat} {v : Int} (h : W.cell? ⟨g, 0, none⟩ = some (.bool false) ∧ W.cell? ⟨g, 1, none⟩ = some (.int .u64 (spl0 u)) ∧ W.cell? ⟨g, 2, none⟩ = some (.int .u64 (spl1 u)) ∧ W.cell? ⟨g, 3, none⟩ = some (.int .u64 (spl2 u)) ∧ W.cell? ⟨g, 4, none⟩ = some (.int .u64 (spl3 u)) ∧ Held w W g B n i u ds k v) (hb : Below (W.alloc (.cells #[.bool false, .int .u64 0, .int .u64 0, .int .u64 0, .int .u64 0] 27)).heap.size (W.alloc (.cells #[.bool false, .int .u64 0, .int .u64 0, .int .u64 0, .int .u64 0] 27)) W') : Two w W' W.heap.size g B n i 0 := by
  obtain ⟨h1, h2, h3, h4, h5⟩ := h.2.2.2.2.2.fresh
  exact ⟨⟨(BoxV.new W false).later hb, h1, h2, h3, h4⟩, h5⟩
theorem hs_newd {w W W' : World} {g B n i : Nat} {u : Int} {ds : ByteArray} {k : Nat} {v : Int} (h : Held w W g B n i u ds k v) (hb : Below (W.alloc (.cells #[.bool false, .int .u64 0, .int .u64 0, .int .u64 0, .int .u64 0] 27)).drew.heap.size (W.alloc (.cells #[.bool false, .int .u64 0, .int .u64 0, .int .u64 0, .int .u64 0] 27)).drew W') : Two w W' W.heap.size g B n i 0 := by
  obtain ⟨h1, h2, h3, h4, h5⟩ := h.fresh
  exact ⟨⟨(show BoxV (W.alloc (.cells #[.bool false, .int .u64 0, .int .u64 0, .int .u64 0, .int .u64 0] 27)).drew W.heap.size false 0 from BoxV.new W false).later hb, h1, h2, h3, h4⟩, h5⟩
theorem hs_store {w W : World} {g2 g B n i : Nat} {u u0 : Int} {ds : ByteArray} {k : Nat} {v : Int} (h : Held w W g B n i u ds k v) (hg : Two w W g2 g B n i u0) (u2 : Int) :
    Two w (((((W.setCell ⟨g2, 0, none⟩ (.bool false)).setCell ⟨g2, 1, none⟩ (.int .u64 (spl0 u2))).setCell ⟨g2, 2, none⟩ (.int .u64 (spl1 u2))).setCell ⟨g2, 3, none⟩ (.int .u64 (spl2 u2))).setCell ⟨g2, 4, none⟩ (.int .u64 (spl3 u2))) g2 g B n i u2 ∧ Held w (((((W.setCell ⟨g2, 0, none⟩ (.bool false)).setCell ⟨g2, 1, none⟩ (.int .u64 (spl0 u2))).setCell ⟨g2, 2, none⟩ (.int .u64 (spl1 u2))).setCell ⟨g2, 3, none⟩ (.int .u64 (spl2 u2))).setCell ⟨g2, 4, none⟩ (.int .u64 (spl3 u2))) g B n i u ds k v :=
  ⟨⟨⟨hg.nb.bx.setAll false u2, hg.nb.ge, hg.nb.n1, hg.nb.n2, hg.nb.n3⟩, hg.ng⟩, ⟨⟨h.nb.bx.farAll hg.ng _ _ _ _ _, h.nb.ge, h.nb.n1, h.nb.n2, h.nb.n3⟩, h.pi.far g2 hg.nb.ge hg.nb.n1 hg.nb.n2 hg.nb.n3 _ _ _ _ _⟩⟩
theorem hs_alloc {w W : World} {g B n i : Nat} {u : Int} {ds : ByteArray} {k : Nat} {v : Int} (h : Held w W g B n i u ds k v) (u2 : Int) : Two w (W.alloc (.cells #[.bool false, .int .u64 (spl0 u2), .int .u64 (spl1 u2), .int .u64 (spl2 u2), .int .u64 (spl3 u2)] 27)) W.heap.size g B n i u2 ∧ Held w (W.alloc (.cells #[.bool false, .int .u64 (spl0 u2), .int .u64 (spl1 u2), .int .u64 (spl2 u2), .int .u64 (spl3 u2)] 27)) g B n i u ds k v := by
  obtain ⟨h1, h2, h3, h4, h5⟩ := h.fresh
  refine ⟨⟨⟨?_, h1, h2, h3, h4⟩, h5⟩, h.later (below_alloc (Below.refl _ _) _)⟩
  show (W.heap.push _)[W.heap.size]? = _
  simp
theorem Two.exW {w W : World} {g2 g B n i : Nat} {u2 : Int} (_h : Two w W g2 g B n i u2) : ∃ W2, W2 = W := ⟨_, rfl⟩
theorem Two.exg {w W : World} {g2 g B n i : Nat} {u2 : Int} (_h : Two w W g2 g B n i u2) : ∃ g, g = g2 := ⟨_, rfl⟩
/-- A text's number, or why there is none. -/
def wparseS (l : List Int) : Bool × Int × Int × Int × Int × Int :=
  if digsOf l = [] ∨ ((digsOf l).head? = some 48 ∧ l ≠ [48]) ∨ isD (digsOf l) = false then (false, 0, 0, 0, 0, 11)
  else if valD (digsOf l) < top4 then ((decide (l.head? = some 45) && !decide (valD (digsOf l) = 0)), spl0 (valD (digsOf l)), spl1 (valD (digsOf l)), spl2 (valD (digsOf l)), spl3 (valD (digsOf l)), 0)
  else (false, 0, 0, 0, 0, 10)
theorem wparse_bad {l : List Int} (h : digsOf l = [] ∨ ((digsOf l).head? = some 48 ∧ l ≠ [48]) ∨ isD (digsOf l) = false) : wparseS l = (false, 0, 0, 0, 0, 11) := by
  unfold wparseS; rw [if_pos h]
theorem wparse_far {l : List Int} (h : ¬ (digsOf l = [] ∨ ((digsOf l).head? = some 48 ∧ l ≠ [48]) ∨ isD (digsOf l) = false)) (hf : top4 ≤ valD (digsOf l)) : wparseS l = (false, 0, 0, 0, 0, 10) := by
  unfold wparseS; rw [if_neg h, if_neg (by omega)]
theorem wparse_ok {l : List Int} (h : ¬ (digsOf l = [] ∨ ((digsOf l).head? = some 48 ∧ l ≠ [48]) ∨ isD (digsOf l) = false)) (hf : valD (digsOf l) < top4) : wparseS l = ((decide (l.head? = some 45) && !decide (valD (digsOf l) = 0)), spl0 (valD (digsOf l)), spl1 (valD (digsOf l)), spl2 (valD (digsOf l)), spl3 (valD (digsOf l)), 0) := by
  unfold wparseS; rw [if_neg h, if_pos hf]
/-- What Parse hands back. -/
def wideRes (r : Bool × Int × Int × Int × Int × Int) : Value := .tuple #[.agg #[.bool r.1, .int .u64 r.2.1, .int .u64 r.2.2.1, .int .u64 r.2.2.2.1, .int .u64 r.2.2.2.2.1], .int .i64 r.2.2.2.2.2]
end Go.Proofs.Ytmpbbodafenonaa

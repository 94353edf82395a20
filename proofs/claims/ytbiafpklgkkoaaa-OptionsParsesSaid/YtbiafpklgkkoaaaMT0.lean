/- The functions of the given program told as Lean functions, each with its contract proved; no condition. -/
import Derived.Test.YtbiafpklgkkoaaaProg
import Derived.Below
import Derived.Deep.Draws
import Derived.Deep.AppendLies
import Derived.Maps.AppendAt
import Derived.OwnWalk
import Derived.Laws.BytesArg
import Derived.Laws.MakeOwn
import Derived.Laws.OwnMore
import Derived.Deep.OwnRows
import Derived.Tactics
import Derived.Lib.ConvBytes
import Derived.Laws.Slices
import Derived.WalkKit
import Derived.KernelRfl
import Derived.RowKit3
import Derived.Deep.LoopGhost
import Derived.Deep.QuietTactic
import Derived.BigQuiet
import Derived.WideLaws
import Derived.Deep.DeepCutAuto
import Derived.Deep.CutBlock
import Derived.Deep.RegionHeld3
import Derived.Laws.Rows
import Derived.Lib.AppendStr
import Derived.ArgAppend
import Derived.Laws.IdiomCopy
import Derived.OrdersHeld
import Derived.Laws.BitsLemmas
import Derived.RowKit
import Derived.Test.YtbiafpklgkkoaaaOptK
import Derived.Test.YtbiafpklgkkoaaaWWords
import Derived.Test.YtbiafpklgkkoaaaWLast
import Derived.Test.YtbiafpklgkkoaaaWTab
import Derived.Test.YtbiafpklgkkoaaaWFour
import Derived.Test.YtbiafpklgkkoaaaWQPut
import Derived.Test.YtbiafpklgkkoaaaWApart
import Derived.Test.YtbiafpklgkkoaaaWArr
import Derived.Test.YtbiafpklgkkoaaaWZeros
import Derived.Test.YtbiafpklgkkoaaaWFoot
import Derived.Test.YtbiafpklgkkoaaaWKept
import Derived.Test.YtbiafpklgkkoaaaWShare
import Derived.Test.YtbiafpklgkkoaaaWN
import Derived.Test.YtbiafpklgkkoaaaWFootNe
import Derived.Test.YtbiafpklgkkoaaaWAt
import Derived.Test.YtbiafpklgkkoaaaWEqStruct
import Derived.Test.YtbiafpklgkkoaaaWRepsOne
import Derived.Test.YtbiafpklgkkoaaaWInv
import Derived.Test.YtbiafpklgkkoaaaWInvWords
import Derived.Test.YtbiafpklgkkoaaaWGuard
import Derived.Test.YtbiafpklgkkoaaaWNEv
import Derived.Test.YtbiafpklgkkoaaaWMore
namespace Go.Proofs.Ytbiafpklgkkoaaa.MT
open Go.RowKit Go.Proofs.YtbiafpklgkkoaaaW.PrintWords Go.Proofs.YtbiafpklgkkoaaaW.PrintLast Go.Proofs.YtbiafpklgkkoaaaW.PrintMore
attribute [local go_sem] max2_int min2_int max_two min_two max_three min_three max_four min_four   -- for this text's walks alone
set_option linter.unusedVariables false
set_option linter.unusedSimpArgs false



def errW : Option Int → Value
 | none => .nilIface
 | some c => .iface 0 (.int .i64 c)
theorem errW_none : errW none = .nilIface := rfl
theorem errW_some (c : Int) : errW (some c) = .iface 0 (.int .i64 c) := rfl

theorem info3 : (Try.prog.info? 3).map (fun i => (i.zero, i.size, i.bytes)) = some (some (.int .i64 0), 1, 8) := by kernel_rfl
theorem info5 : (Try.prog.info? 5).map (fun i => (i.zero, i.size, i.bytes)) = some (some (.int .u8 0), 1, 1) := by kernel_rfl
theorem info60 : (Try.prog.info? 60).map (fun i => (i.zero, i.size, i.bytes)) = some (some (.agg #[(.int .i64 0), (.string ⟨#[]⟩)]), 2, 24) := by kernel_rfl
-- the values' own types
def rd_L1 (xs : List (List Int)) (i : Int) : (List Int) := xs.getD i.toNat ([] : List Int)
theorem at_L1 {w : World} {A : Option Addr} {n : Nat} {xs : List (List Int)} (h : Kd.C (Kd.slice 5 (Kd.int .u8)) w A n xs) (i : Int) (h0 : 0 ≤ i) (h1 : i < n) : ∃ ad A0 c0, A = some ad ∧ w.cell? (ad.add i.toNat) = some (.slice A0 (rd_L1 xs i).length c0) ∧ (rd_L1 xs i).length ≤ c0 ∧ (Kd.int .u8).C w A0 (rd_L1 xs i).length (rd_L1 xs i) := by
 obtain ⟨ad, c, e, _, hK, hc0⟩ := Kd.C_get h ([] : List Int) i h0 h1
 have hc : ∀ j u, c[j]? = some u → w.cell? (ad.add (i.toNat * 1 + j)) = some u := hc0
 obtain ⟨A0, c0, rfl, l0, g0⟩ := hK
 exact ⟨ad, A0, c0, e, by have hq := hc 0 _ rfl; rwa [Nat.mul_one, Nat.add_zero] at hq, l0, g0⟩

/-! #### struct type 25 -/
structure S25 where
 f0 : Int
 f1 : Int
 f2 : Bool
def z25 : S25 := ⟨(0 : Int), (0 : Int), false⟩
def k25 : Kd S25 := Kd.iso (Kd.pair (Kd.int .i64) (Kd.pair (Kd.int .i64) Kd.bool)) (fun x : S25 => (x.f0, x.f1, x.f2))
theorem k25_heap : Kd.Heap k25 := Kd.heap_iso _ (Kd.heap_pair (Kd.heap_int .i64) (Kd.heap_pair (Kd.heap_int .i64) Kd.heap_bool))
theorem k25_open {w : World} {x : S25} {cs : List Value} (h : k25.K w x cs) : cs = [.int .i64 x.f0, .int .i64 x.f1, .bool x.f2] := by
 obtain ⟨_, _, rfl, rfl, ⟨_, _, rfl, rfl, rfl⟩⟩ := h
 exact rfl
theorem k25_openM {w : World} {base : Nat} {ok : Nat → Prop} {x : S25} {cs : List Value} (h : k25.M w base ok x cs) : cs = [.int .i64 x.f0, .int .i64 x.f1, .bool x.f2] := by
 obtain ⟨_, _, rfl, rfl, ⟨_, _, rfl, rfl, rfl⟩⟩ := h
 exact rfl
theorem k25_mk (w : World) (x : S25)  : k25.K w x [.int .i64 x.f0, .int .i64 x.f1, .bool x.f2] := ⟨[.int .i64 x.f0], [.int .i64 x.f1, .bool x.f2], rfl, rfl, ⟨[.int .i64 x.f1], [.bool x.f2], rfl, rfl, rfl⟩⟩
theorem k25_mkM (w : World) (base : Nat) (ok : Nat → Prop) (x : S25)  : k25.M w base ok x [.int .i64 x.f0, .int .i64 x.f1, .bool x.f2] := ⟨[.int .i64 x.f0], [.int .i64 x.f1, .bool x.f2], rfl, rfl, ⟨[.int .i64 x.f1], [.bool x.f2], rfl, rfl, rfl⟩⟩
theorem k25_mkF (W : World) (ok : Nat → Prop) (x : S25) : Kd.FK k25 W ok x [.int .i64 x.f0, .int .i64 x.f1, .bool x.f2] := fun W2 _ => k25_mk W2 x
def rd_T25 (xs : List S25) (i : Int) : S25 := xs.getD i.toNat z25
theorem at_T25 {w : World} {A : Option Addr} {n : Nat} {xs : List S25} (h : Kd.C k25 w A n xs) (i : Int) (h0 : 0 ≤ i) (h1 : i < n) : ∃ ad , A = some ad ∧ w.cell? (ad.add (i.toNat * 3)) = some (.int .i64 (rd_T25 xs i).f0) ∧ w.cell? ⟨(ad.add (i.toNat * 3)).block, (ad.add (i.toNat * 3)).off + 1, none⟩ = some (.int .i64 (rd_T25 xs i).f1) ∧ w.cell? ⟨(ad.add (i.toNat * 3)).block, (ad.add (i.toNat * 3)).off + 2, none⟩ = some (.bool (rd_T25 xs i).f2) := by
 obtain ⟨ad, c, e, _, hK, hc0⟩ := Kd.C_get h z25 i h0 h1
 have hc : ∀ j u, c[j]? = some u → w.cell? (ad.add (i.toNat * 3 + j)) = some u := hc0
 obtain rfl := k25_open hK
 exact ⟨ad, e, hc 0 _ rfl, by rw [← add_field _ _ 1 (by omega)]; exact hc 1 _ rfl, by rw [← add_field _ _ 2 (by omega)]; exact hc 2 _ rfl⟩

/-! #### struct type 60 -/
structure S60 where
 f0 : Int
 f1 : ByteArray
def z60 : S60 := ⟨(0 : Int), (⟨#[]⟩ : ByteArray)⟩
def k60 : Kd S60 := Kd.iso (Kd.pair (Kd.int .i64) Kd.string) (fun x : S60 => (x.f0, x.f1))
theorem k60_heap : Kd.Heap k60 := Kd.heap_iso _ (Kd.heap_pair (Kd.heap_int .i64) Kd.heap_string)
theorem k60_open {w : World} {x : S60} {cs : List Value} (h : k60.K w x cs) : cs = [.int .i64 x.f0, .string x.f1] := by
 obtain ⟨_, _, rfl, rfl, rfl⟩ := h
 exact rfl
theorem k60_openM {w : World} {base : Nat} {ok : Nat → Prop} {x : S60} {cs : List Value} (h : k60.M w base ok x cs) : cs = [.int .i64 x.f0, .string x.f1] := by
 obtain ⟨_, _, rfl, rfl, rfl⟩ := h
 exact rfl
theorem k60_mk (w : World) (x : S60)  : k60.K w x [.int .i64 x.f0, .string x.f1] := ⟨[.int .i64 x.f0], [.string x.f1], rfl, rfl, rfl⟩
theorem k60_mkM (w : World) (base : Nat) (ok : Nat → Prop) (x : S60)  : k60.M w base ok x [.int .i64 x.f0, .string x.f1] := ⟨[.int .i64 x.f0], [.string x.f1], rfl, rfl, rfl⟩
theorem k60_mkF (W : World) (ok : Nat → Prop) (x : S60) : Kd.FK k60 W ok x [.int .i64 x.f0, .string x.f1] := fun W2 _ => k60_mk W2 x
def rd_T60 (xs : List S60) (i : Int) : S60 := xs.getD i.toNat z60
theorem at_T60 {w : World} {A : Option Addr} {n : Nat} {xs : List S60} (h : Kd.C k60 w A n xs) (i : Int) (h0 : 0 ≤ i) (h1 : i < n) : ∃ ad , A = some ad ∧ w.cell? (ad.add (i.toNat * 2)) = some (.int .i64 (rd_T60 xs i).f0) ∧ w.cell? ⟨(ad.add (i.toNat * 2)).block, (ad.add (i.toNat * 2)).off + 1, none⟩ = some (.string (rd_T60 xs i).f1) := by
 obtain ⟨ad, c, e, _, hK, hc0⟩ := Kd.C_get h z60 i h0 h1
 have hc : ∀ j u, c[j]? = some u → w.cell? (ad.add (i.toNat * 2 + j)) = some u := hc0
 obtain rfl := k60_open hK
 exact ⟨ad, e, hc 0 _ rfl, by rw [← add_field _ _ 1 (by omega)]; exact hc 1 _ rfl⟩

/-- What a later world keeps of an elder one's blocks. -/
structure Ltr (W W' : World) : Prop where
  blk : ∀ (g : Nat) (o : Obj), W.heap[g]? = some o → W'.heap[g]? = some o
  sz : W.heap.size ≤ W'.heap.size
instance ltr_refl (W : World) : Nonempty (Ltr W W) := ⟨⟨fun _ _ h => h, Nat.le_refl _⟩⟩
instance ltr_drew (W W' : World) [h : Nonempty (Ltr W W')] : Nonempty (Ltr W W'.drew) := ⟨⟨fun g o x => let ⟨k⟩ := h; k.blk g o x, let ⟨k⟩ := h; k.sz⟩⟩
instance ltr_drewN (W W' : World) (n : Nat) [h : Nonempty (Ltr W W')] : Nonempty (Ltr W (W'.drewN n)) := ⟨⟨fun g o x => let ⟨k⟩ := h; k.blk g o x, let ⟨k⟩ := h; k.sz⟩⟩
instance ltr_alloc (W W' : World) (q : Obj) [h : Nonempty (Ltr W W')] : Nonempty (Ltr W (W'.alloc q)) := ⟨⟨fun g o x => let ⟨k⟩ := h; blk_alloc (k.blk g o x) q, let ⟨k⟩ := h; Nat.le_trans k.sz (below_alloc (Below.refl _ _) q).size⟩⟩
/-- What a later world keeps of an elder one's size. -/
structure Szl (W W' : World) : Prop where
  sz : W.heap.size ≤ W'.heap.size
instance szl_refl (W : World) : Nonempty (Szl W W) := ⟨⟨Nat.le_refl _⟩⟩
instance szl_drew (W W' : World) [h : Nonempty (Szl W W')] : Nonempty (Szl W W'.drew) := ⟨⟨let ⟨k⟩ := h; k.sz⟩⟩
instance szl_drewN (W W' : World) (n : Nat) [h : Nonempty (Szl W W')] : Nonempty (Szl W (W'.drewN n)) := ⟨⟨let ⟨k⟩ := h; k.sz⟩⟩
instance szl_alloc (W W' : World) (q : Obj) [h : Nonempty (Szl W W')] : Nonempty (Szl W (W'.alloc q)) := ⟨⟨let ⟨k⟩ := h; Nat.le_trans k.sz (below_alloc (Below.refl _ _) q).size⟩⟩
instance szl_set (W W' : World) (p : Addr) (v : Value) [h : Nonempty (Szl W W')] : Nonempty (Szl W (W'.setCell p v)) := ⟨⟨let ⟨k⟩ := h; Nat.le_trans k.sz (by simp [World.setCell])⟩⟩
theorem lb {W W' : World} {g : Nat} {o : Obj} [l : Nonempty (Ltr W W')] (h : W.heap[g]? = some o) : W'.heap[g]? = some o := let ⟨k⟩ := l; k.blk g o h
theorem bb {W W' w2 : World} {g : Nat} {o : Obj} [l : Nonempty (Ltr W W')] (h : Aside0 (W.heap[g]? = some o)) (hb : Below W'.heap.size W' w2) : Aside0 (w2.heap[g]? = some o) := ⟨blk_below (lb h.out) hb⟩
theorem bnl {W W' : World} {g g' : Nat} {o : Obj} [l : Nonempty (Ltr W W')] (h : Aside0 (W.heap[g]? = some o)) (hg : g' = W'.heap.size) : Aside0 (g ≠ g') := ⟨by rw [hg]; exact Nat.ne_of_lt (blk_lt (w := W') (lb h.out))⟩
theorem bng {W W' : World} {g g' : Nat} {o : Obj} [l : Nonempty (Ltr W W')] (h : Aside0 (W.heap[g]? = some o)) (hg : g' = W'.heap.size) : Aside0 (g' ≠ g) := ⟨by rw [hg]; exact Nat.ne_of_gt (blk_lt (w := W') (lb h.out))⟩
theorem bgw {w W W' : World} {g : Nat} [l : Nonempty (Szl W W')] (h : Aside0 (Below w.heap.size w W)) (hg : g = W'.heap.size) : Aside0 (w.heap.size ≤ g) := ⟨by obtain ⟨k⟩ := l; rw [hg]; exact Nat.le_trans h.out.size k.sz⟩
theorem qa {w W : World} (h : Below w.heap.size w W) (o : Obj) : Below w.heap.size w (W.alloc o) := below_alloc h o
theorem qn {B : Nat} {w W : World} (h : Below B w W) (n : Nat) : Below B w (W.drewN n) := pw_below_drewN h n
theorem qd {base : Nat} {w W : World} (h : Below base w W) : Below base w W.drew := below_drew1 h
theorem qs {w W : World} {g j : Nat} {v : Value} (h : Below w.heap.size w W) (hg : w.heap.size ≤ g) : Below w.heap.size w (W.setCell ⟨g, j, none⟩ v) := below_set h hg
theorem cn {w : World} {g : Nat} {o : Obj} (h : w.heap[g]? = some o) (n : Nat) : (w.drewN n).heap[g]? = some o := blk_drewN h n
theorem cd {w : World} {g : Nat} {o : Obj} (h : w.heap[g]? = some o) : w.drew.heap[g]? = some o := blk_drew h
theorem ca {w : World} {g : Nat} {o : Obj} (h : w.heap[g]? = some o) (o' : Obj) : (w.alloc o').heap[g]? = some o := blk_alloc h o'
abbrev Tt : Bool := true
abbrev Ff : Bool := false
theorem cf5 {W : World} {g B i : Nat} {y0 y1 y2 y3 y4 : Value} {x : Option Value} (hne : g ≠ B) (h : W.cell? ⟨g, i, none⟩ = x) : (((((W.setCell ⟨B, 0, none⟩ y0).setCell ⟨B, 1, none⟩ y1).setCell ⟨B, 2, none⟩ y2).setCell ⟨B, 3, none⟩ y3).setCell ⟨B, 4, none⟩ y4).cell? ⟨g, i, none⟩ = x := (cell_far (p := ⟨B, 4, none⟩) hne _).trans ((cell_far (p := ⟨B, 3, none⟩) hne _).trans ((cell_far (p := ⟨B, 2, none⟩) hne _).trans ((cell_far (p := ⟨B, 1, none⟩) hne _).trans ((cell_far (p := ⟨B, 0, none⟩) hne _).trans (h)))))
theorem cf4 {W : World} {g B i : Nat} {y0 y1 y2 y3 : Value} {x : Option Value} (hne : g ≠ B) (h : W.cell? ⟨g, i, none⟩ = x) : ((((W.setCell ⟨B, 0, none⟩ y0).setCell ⟨B, 1, none⟩ y1).setCell ⟨B, 2, none⟩ y2).setCell ⟨B, 3, none⟩ y3).cell? ⟨g, i, none⟩ = x := (cell_far (p := ⟨B, 3, none⟩) hne _).trans ((cell_far (p := ⟨B, 2, none⟩) hne _).trans ((cell_far (p := ⟨B, 1, none⟩) hne _).trans ((cell_far (p := ⟨B, 0, none⟩) hne _).trans (h))))
theorem bp5 {W : World} {g : Nat} {t : TypeId} {x0 x1 x2 x3 x4 y0 y1 y2 y3 y4 : Value} (h : W.heap[g]? = some (.cells #[x0, x1, x2, x3, x4] t (0, 0))) : (((((W.setCell ⟨g, 0, none⟩ y0).setCell ⟨g, 1, none⟩ y1).setCell ⟨g, 2, none⟩ y2).setCell ⟨g, 3, none⟩ y3).setCell ⟨g, 4, none⟩ y4).heap[g]? = some (.cells #[y0, y1, y2, y3, y4] t (0, 0)) := (blk_put (blk_put (blk_put (blk_put (blk_put h 0 y0 rfl) 1 y1 rfl) 2 y2 rfl) 3 y3 rfl) 4 y4 rfl)
theorem bp4 {W : World} {g : Nat} {t : TypeId} {x0 x1 x2 x3 y0 y1 y2 y3 : Value} (h : W.heap[g]? = some (.cells #[x0, x1, x2, x3] t (0, 0))) : ((((W.setCell ⟨g, 0, none⟩ y0).setCell ⟨g, 1, none⟩ y1).setCell ⟨g, 2, none⟩ y2).setCell ⟨g, 3, none⟩ y3).heap[g]? = some (.cells #[y0, y1, y2, y3] t (0, 0)) := (blk_put (blk_put (blk_put (blk_put h 0 y0 rfl) 1 y1 rfl) 2 y2 rfl) 3 y3 rfl)
theorem cl5 {W : World} {g : Nat} {t : TypeId} {x0 x1 x2 x3 x4 : Value} (h : W.heap[g]? = some (.cells #[x0, x1, x2, x3, x4] t (0, 0))) : W.cell? ⟨g, 0, none⟩ = some x0 ∧ W.cell? ⟨g, 1, none⟩ = some x1 ∧ W.cell? ⟨g, 2, none⟩ = some x2 ∧ W.cell? ⟨g, 3, none⟩ = some x3 ∧ W.cell? ⟨g, 4, none⟩ = some x4 := ⟨(blk_cell h 0).trans rfl, (blk_cell h 1).trans rfl, (blk_cell h 2).trans rfl, (blk_cell h 3).trans rfl, (blk_cell h 4).trans rfl⟩
theorem fr5 {W : World} {g : Nat} {t : TypeId} {x0 x1 x2 x3 x4 : Value} (h : W.heap[g]? = some (.cells #[x0, x1, x2, x3, x4] t (0, 0))) : W.frozen? ⟨g, 0, none⟩ = false ∧ W.frozen? ⟨g, 1, none⟩ = false ∧ W.frozen? ⟨g, 2, none⟩ = false ∧ W.frozen? ⟨g, 3, none⟩ = false ∧ W.frozen? ⟨g, 4, none⟩ = false := ⟨blk_frozen h 0, blk_frozen h 1, blk_frozen h 2, blk_frozen h 3, blk_frozen h 4⟩
theorem cl4 {W : World} {g : Nat} {t : TypeId} {x0 x1 x2 x3 : Value} (h : W.heap[g]? = some (.cells #[x0, x1, x2, x3] t (0, 0))) : W.cell? ⟨g, 0, none⟩ = some x0 ∧ W.cell? ⟨g, 1, none⟩ = some x1 ∧ W.cell? ⟨g, 2, none⟩ = some x2 ∧ W.cell? ⟨g, 3, none⟩ = some x3 := ⟨(blk_cell h 0).trans rfl, (blk_cell h 1).trans rfl, (blk_cell h 2).trans rfl, (blk_cell h 3).trans rfl⟩
theorem fr4 {W : World} {g : Nat} {t : TypeId} {x0 x1 x2 x3 : Value} (h : W.heap[g]? = some (.cells #[x0, x1, x2, x3] t (0, 0))) : W.frozen? ⟨g, 0, none⟩ = false ∧ W.frozen? ⟨g, 1, none⟩ = false ∧ W.frozen? ⟨g, 2, none⟩ = false ∧ W.frozen? ⟨g, 3, none⟩ = false := ⟨blk_frozen h 0, blk_frozen h 1, blk_frozen h 2, blk_frozen h 3⟩
theorem cl2 {W : World} {g : Nat} {t : TypeId} {x0 x1 : Value} (h : W.heap[g]? = some (.cells #[x0, x1] t (0, 0))) : W.cell? ⟨g, 0, none⟩ = some x0 ∧ W.cell? ⟨g, 1, none⟩ = some x1 := ⟨(blk_cell h 0).trans rfl, (blk_cell h 1).trans rfl⟩
theorem fr2 {W : World} {g : Nat} {t : TypeId} {x0 x1 : Value} (h : W.heap[g]? = some (.cells #[x0, x1] t (0, 0))) : W.frozen? ⟨g, 0, none⟩ = false ∧ W.frozen? ⟨g, 1, none⟩ = false := ⟨blk_frozen h 0, blk_frozen h 1⟩
end Go.Proofs.Ytbiafpklgkkoaaa.MT

/- The walk of wide's mul. -/
import Derived.Test.YtmpbbodafenonaaLimb4
import Derived.Test.YtmpbbodafenonaaMulMath
set_option linter.unusedVariables false
set_option linter.unusedSimpArgs false
namespace Go.Proofs.Ytmpbbodafenonaa
open Go Go.Proofs Go.RowKit Go.Shelf Go.Proofs.YtmpbbodafenonaaW.PrintWords
attribute [local go_sem high] eqA25

/-- A block that holds a number of 256 bits. -/
def Box5 (W : World) (B : Nat) (m : Bool) (a b c d : Nat) : Prop := W.heap[B]? = some (.cells #[.bool m, .int .u64 a, .int .u64 b, .int .u64 c, .int .u64 d] 27 (0, 0))
theorem Box5.lt {W : World} {B : Nat} {m : Bool} {a b c d : Nat} (h : Box5 W B m a b c d) : B < W.heap.size := (Array.getElem?_eq_some_iff.1 h).1
theorem Box5.below {W W' : World} {B n : Nat} {m : Bool} {a b c d : Nat} (h : Box5 W B m a b c d) (hb : Below n W W') (hn : B < n) : Box5 W' B m a b c d := (hb.block B hn).trans h
theorem Box5.new' (W : World) (B : Nat) (m : Bool) (a b c d : Nat) (h : W.heap.size = B) : Box5 (W.alloc (.cells #[.bool m, .int .u64 a, .int .u64 b, .int .u64 c, .int .u64 d] 27)) B m a b c d := by
  subst h
  show (W.heap.push _)[W.heap.size]? = _
  simp
theorem Box5.alloc {W : World} {B : Nat} {m : Bool} {a b c d : Nat} (h : Box5 W B m a b c d) (o : Obj) : Box5 (W.alloc o) B m a b c d := h.below (below_alloc (Below.refl W.heap.size W) o) h.lt
theorem Box5.far {W : World} {B B' i : Nat} {m : Bool} {a b c d : Nat} (h : Box5 W B m a b c d) (hn : B ≠ B') (x : Value) : Box5 (W.setCell ⟨B', i, none⟩ x) B m a b c d := blk_far h (by simpa using hn) x
theorem Box5.fr {W : World} {B : Nat} {m : Bool} {a b c d : Nat} (h : Box5 W B m a b c d) (i : Nat) : W.frozen? ⟨B, i, none⟩ = false := blk_frozen h i
theorem Box5.cells {W : World} {B : Nat} {m : Bool} {a b c d : Nat} (h : Box5 W B m a b c d) : W.cell? ⟨B, 0, none⟩ = some (.bool m) ∧ W.cell? ⟨B, 1, none⟩ = some (.int .u64 a) ∧ W.cell? ⟨B, 2, none⟩ = some (.int .u64 b) ∧ W.cell? ⟨B, 3, none⟩ = some (.int .u64 c) ∧ W.cell? ⟨B, 4, none⟩ = some (.int .u64 d) := by
  simp [World.cell?, show W.heap[B]? = _ from h]
/-- A block that holds limbs. -/
def BoxO (W : World) (B : Nat) (o : List Nat) : Prop := W.heap[B]? = some (.cells (o.map (fun n : Nat => Value.int .u64 (n : Int))).toArray 112 (0, 0))
theorem BoxO.new' (W : World) (B : Nat) (h : W.heap.size = B) : BoxO (W.alloc (.cells #[.int .u64 0, .int .u64 0, .int .u64 0, .int .u64 0, .int .u64 0, .int .u64 0, .int .u64 0, .int .u64 0] 112)) B [0, 0, 0, 0, 0, 0, 0, 0] := by
  subst h
  show (W.heap.push _)[W.heap.size]? = _
  simp
theorem BoxO.lt {W : World} {B : Nat} {o : List Nat} (h : BoxO W B o) : B < W.heap.size := (Array.getElem?_eq_some_iff.1 h).1
theorem BoxO.below {W W' : World} {B n : Nat} {o : List Nat} (h : BoxO W B o) (hb : Below n W W') (hn : B < n) : BoxO W' B o := (hb.block B hn).trans h
theorem BoxO.fr {W : World} {B : Nat} {o : List Nat} (h : BoxO W B o) (i : Nat) : W.frozen? ⟨B, i, none⟩ = false := blk_frozen h i
theorem BoxO.at {W : World} {B : Nat} {o : List Nat} (h : BoxO W B o) (i : Nat) (hi : i < o.length) : W.cell? ⟨B, i, none⟩ = some (.int .u64 (o.getD i 0 : Nat)) := by
  rw [blk_cell h]
  simp [List.getD_eq_getElem?_getD, List.getElem?_eq_getElem hi]
theorem BoxO.set {W : World} {B : Nat} {o : List Nat} (h : BoxO W B o) (i v : Nat) : BoxO (W.setCell ⟨B, i, none⟩ (.int .u64 (v : Nat))) B (o.set i v) := by
  have h1 := blk_set h i (.int .u64 (v : Nat))
  unfold BoxO
  rw [h1]
  simp [List.map_set]

/-- What the loops hold. -/
structure MulBoxes (w W : World) (ma mb : Bool) (x0 x1 x2 x3 y0 y1 y2 y3 : Nat) (o : List Nat) : Prop where
  hb : Below w.heap.size w W
  xa : Box5 W w.heap.size ma x0 x1 x2 x3
  xb : Box5 W (w.heap.size + 1) mb y0 y1 y2 y3
  xr : Box5 W (w.heap.size + 1 + 1) false 0 0 0 0
  xo : BoxO W (w.heap.size + 1 + 1 + 1) o
  len : o.length = 8
  dig : ∀ n ∈ o, Lm n
theorem MulBoxes.set {w W : World} {ma mb : Bool} {x0 x1 x2 x3 y0 y1 y2 y3 : Nat} {o : List Nat} (h : MulBoxes w W ma mb x0 x1 x2 x3 y0 y1 y2 y3 o) (i v : Nat) (hv : Lm v) : MulBoxes w (W.setCell ⟨w.heap.size + 1 + 1 + 1, i, none⟩ (.int .u64 (v : Nat))) ma mb x0 x1 x2 x3 y0 y1 y2 y3 (o.set i v) := by
  obtain ⟨h1, h2, h3, h4, h5, h6, h7⟩ := h
  refine ⟨bset h1 _ _ _ (by omega), h2.far (by omega) _, h3.far (by omega) _, h4.far (by omega) _, h5.set i v, by simpa using h6, fun n hn => ?_⟩
  rcases List.mem_or_eq_of_mem_set hn with hn | rfl
  · exact h7 n hn
  · exact hv
def MulRel (w : World) (ma mb : Bool) (x0 x1 x2 x3 y0 y1 y2 y3 : Nat) (v17 : Value) (W : World) : Prop :=
  ∃ (i : Nat) (o : List Nat), v17 = .int .i64 i ∧ i ≤ 4 ∧ MulBoxes w W ma mb x0 x1 x2 x3 y0 y1 y2 y3 o ∧ Aside0 (V64 o = V64 ([x0, x1, x2, x3].take i) * V64 [y0, y1, y2, y3]) ∧ Aside0 (∀ j, i + 4 ≤ j → o.getD j 0 = 0)
def MulIn (w : World) (ma mb : Bool) (x0 x1 x2 x3 y0 y1 y2 y3 i V0 x : Nat) (v9 v23 : Value) (W : World) : Prop :=
  ∃ (k c : Nat) (o : List Nat), v23 = .int .i64 k ∧ k ≤ 4 ∧ v9 = .int .u64 (c : Nat) ∧ Lm c ∧ MulBoxes w W ma mb x0 x1 x2 x3 y0 y1 y2 y3 o ∧ Aside0 (V64 o + 18446744073709551616 ^ i * 18446744073709551616 ^ k * c = V0 + 18446744073709551616 ^ i * (x * V64 ([y0, y1, y2, y3].take k))) ∧ Aside0 (∀ j, i + 4 ≤ j → o.getD j 0 = 0)
theorem index4 (a b c d : Nat) (i : Nat) (hi : i < 4) (w : World) : (Instr.index 25 (.agg #[.int .u64 a, .int .u64 b, .int .u64 c, .int .u64 d]) (.int .i64 (i : Nat))).run Try.prog w = .ok (.int .u64 ([a, b, c, d].getD i 0 : Nat)) w := by
  obtain rfl | rfl | rfl | rfl : i = 0 ∨ i = 1 ∨ i = 2 ∨ i = 3 := by omega
  all_goals kernel_rfl
theorem getD_Lm {a b c d : Nat} (ha : Lm a) (hb : Lm b) (hc : Lm c) (hd : Lm d) (j : Nat) (hj : j < 4) : Lm ([a, b, c, d].getD j 0) := by
  match j, hj with
  | 0, _ => exact ha
  | 1, _ => exact hb
  | 2, _ => exact hc
  | 3, _ => exact hd

theorem inner_end {o' : List Nat} {i k c o2 ov c' x y V0 y0 y1 y2 y3 : Nat} (hkl : i + k < o'.length) (hov : ov = o'.getD (i + k) 0) (hV : V64 o' + 18446744073709551616 ^ i * 18446744073709551616 ^ k * c = V0 + 18446744073709551616 ^ i * (x * V64 ([y0, y1, y2, y3].take k)))
    (he : o2 + 18446744073709551616 * c' = ov + c + x * y) (hk : k < 4) (hy : y = [y0, y1, y2, y3].getD k 0) : V64 (o'.set (i + k) o2) + 18446744073709551616 ^ i * 18446744073709551616 ^ (k + 1) * c' = V0 + 18446744073709551616 ^ i * (x * V64 ([y0, y1, y2, y3].take (k + 1))) := by
  have h1 := V64_set o' (i + k) o2 hkl
  have h2 := V64_take [y0, y1, y2, y3] k hk
  rw [← hov, Nat.pow_add] at h1
  rw [← hy] at h2
  rw [Nat.pow_succ, ← Nat.mul_assoc (18446744073709551616 ^ i)]
  exact inner_step hV h1 he h2
theorem row_end {o o' : List Nat} {i c x V0 x0 x1 x2 x3 y0 y1 y2 y3 : Nat} (hl : i + 4 < o'.length) (hz : o'.getD (i + 4) 0 = 0) (hV : V64 o' + 18446744073709551616 ^ i * 18446744073709551616 ^ 4 * c = V0 + 18446744073709551616 ^ i * (x * V64 ([y0, y1, y2, y3].take 4)))
    (h0 : V0 = V64 o) (hO : V64 o = V64 ([x0, x1, x2, x3].take i) * V64 [y0, y1, y2, y3]) (hi : i < 4) (hx : x = [x0, x1, x2, x3].getD i 0) : V64 (o'.set (i + 4) c) = V64 ([x0, x1, x2, x3].take (i + 1)) * V64 [y0, y1, y2, y3] := by
  have h1 := V64_set o' (i + 4) c hl
  have h2 := V64_take [x0, x1, x2, x3] i hi
  rw [hz, Nat.mul_zero, Nat.add_zero, Nat.pow_add] at h1
  rw [← hx] at h2
  rw [h1, hV, h0, hO, h2, show [y0, y1, y2, y3].take 4 = [y0, y1, y2, y3] from rfl]
  grind
theorem zero_set {o : List Nat} {i j v : Nat} (h : ∀ k, i + 4 ≤ k → o.getD k 0 = 0) (hj : j < i + 4) : ∀ k, i + 4 ≤ k → (o.set j v).getD k 0 = 0 := by
  intro k hk
  rw [List.getD_eq_getElem?_getD, List.getElem?_set_ne (by omega), ← List.getD_eq_getElem?_getD]
  exact h k hk
theorem zero_set' {o : List Nat} {i v : Nat} (h : ∀ k, i + 4 ≤ k → o.getD k 0 = 0) : ∀ k, i + 1 + 4 ≤ k → (o.set (i + 4) v).getD k 0 = 0 := by
  intro k hk
  rw [List.getD_eq_getElem?_getD, List.getElem?_set_ne (by omega), ← List.getD_eq_getElem?_getD]
  exact h k (by omega)
theorem or_none {a b c d : Nat} (ha : Lm a) (hb : Lm b) (hc : Lm c) (hd : Lm d) {z : Bool} (h : (Go.bits .or .u64 (Go.bits .or .u64 (Go.bits .or .u64 (a : Int) (b : Int)) (c : Int)) (d : Int) == 0) = z) : z = noneB a b c d := by
  have k : ∀ {x y : Nat}, Lm x → Lm y → Go.bits .or .u64 (x : Int) (y : Int) = ((x ||| y : Nat) : Int) ∧ Lm (x ||| y) := by
    intro x y hx hy
    refine ⟨(bits_nat .u64 64 (by decide) u64_small x y hx hy).2, ?_⟩
    exact Nat.or_lt_two_pow (n := 64) hx hy
  rw [(k ha hb).1, (k (k ha hb).2 hc).1, (k (k (k ha hb).2 hc).2 hd).1] at h
  rw [← h]
  unfold noneB
  rw [Bool.eq_iff_iff]
  simp only [beq_iff_eq, Bool.and_eq_true]
  constructor
  · intro h0
    have h1 : a ||| b ||| c ||| d = 0 := by omega
    rw [Nat.or_eq_zero_iff, Nat.or_eq_zero_iff, Nat.or_eq_zero_iff] at h1
    omega
  · rintro ⟨h0, h1, h2, h3⟩
    obtain rfl : a = 0 := by omega
    obtain rfl : b = 0 := by omega
    obtain rfl : c = 0 := by omega
    obtain rfl : d = 0 := by omega
    rfl
theorem list8 {o : List Nat} (h : o.length = 8) : ∃ a b c d e f g i, o = [a, b, c, d, e, f, g, i] := by
  match o, h with
  | [a, b, c, d, e, f, g, i], _ => exact ⟨a, b, c, d, e, f, g, i, rfl⟩

theorem MulBoxes.later {w W W' : World} {ma mb : Bool} {x0 x1 x2 x3 y0 y1 y2 y3 : Nat} {o : List Nat} (h : MulBoxes w W ma mb x0 x1 x2 x3 y0 y1 y2 y3 o) (hb : Below W.heap.size W W') : MulBoxes w W' ma mb x0 x1 x2 x3 y0 y1 y2 y3 o :=
  ⟨h.hb.trans (hb.mono h.hb.size), h.xa.below hb h.xa.lt, h.xb.below hb h.xb.lt, h.xr.below hb h.xr.lt, h.xo.below hb h.xo.lt, h.len, h.dig⟩
/-- What the end's region holds. -/
structure MulE (w W : World) (ma mb : Bool) (x0 x1 x2 x3 y0 y1 y2 y3 : Nat) (o : List Nat) : Prop where
  hb : Below w.heap.size w W
  xa : Box5 W w.heap.size ma x0 x1 x2 x3
  xb : Box5 W (w.heap.size + 1) mb y0 y1 y2 y3
  xr : ∃ m a b c d, Box5 W (w.heap.size + 1 + 1) m a b c d
  xo : BoxO W (w.heap.size + 1 + 1 + 1) o
theorem BoxO.far {W : World} {B B' i : Nat} {o : List Nat} (h : BoxO W B o) (hn : B ≠ B') (x : Value) : BoxO (W.setCell ⟨B', i, none⟩ x) B o := blk_far h (by simpa using hn) x
theorem Box5.setAll {W : World} {B : Nat} {m : Bool} {a b c d : Nat} (h : Box5 W B m a b c d) (n : Bool) (x y z t : Nat) : Box5 (((((W.setCell ⟨B, 0, none⟩ (.bool n)).setCell ⟨B, 1, none⟩ (.int .u64 x)).setCell ⟨B, 2, none⟩ (.int .u64 y)).setCell ⟨B, 3, none⟩ (.int .u64 z)).setCell ⟨B, 4, none⟩ (.int .u64 t)) B n x y z t := by
  have h1 := blk_set h 0 (.bool n)
  have h2 := blk_set h1 1 (.int .u64 x)
  have h3 := blk_set h2 2 (.int .u64 y)
  have h4 := blk_set h3 3 (.int .u64 z)
  exact blk_set h4 4 (.int .u64 t)
theorem Box5.farAll {W : World} {B B' : Nat} {m : Bool} {a b c d : Nat} (h : Box5 W B m a b c d) (hn : B ≠ B') (n x y z t : Value) : Box5 (((((W.setCell ⟨B', 0, none⟩ n).setCell ⟨B', 1, none⟩ x).setCell ⟨B', 2, none⟩ y).setCell ⟨B', 3, none⟩ z).setCell ⟨B', 4, none⟩ t) B m a b c d :=
  ((((h.far hn _).far hn _).far hn _).far hn _).far hn _
theorem MulE.later {w W W' : World} {ma mb : Bool} {x0 x1 x2 x3 y0 y1 y2 y3 : Nat} {o : List Nat} (h : MulE w W ma mb x0 x1 x2 x3 y0 y1 y2 y3 o) (hb : Below W.heap.size W W') : MulE w W' ma mb x0 x1 x2 x3 y0 y1 y2 y3 o := by
  obtain ⟨h1, h2, h3, ⟨m, a, b, c, d, h4⟩, h5⟩ := h
  exact ⟨h1.trans (hb.mono h1.size), h2.below hb h2.lt, h3.below hb h3.lt, ⟨m, a, b, c, d, h4.below hb h4.lt⟩, h5.below hb h5.lt⟩
theorem MulE.stored {w W : World} {ma mb : Bool} {x0 x1 x2 x3 y0 y1 y2 y3 : Nat} {o : List Nat} (h : MulE w W ma mb x0 x1 x2 x3 y0 y1 y2 y3 o) (n : Bool) (x y z t : Nat) :
    MulE w (((((W.setCell ⟨w.heap.size + 1 + 1, 0, none⟩ (.bool n)).setCell ⟨w.heap.size + 1 + 1, 1, none⟩ (.int .u64 x)).setCell ⟨w.heap.size + 1 + 1, 2, none⟩ (.int .u64 y)).setCell ⟨w.heap.size + 1 + 1, 3, none⟩ (.int .u64 z)).setCell ⟨w.heap.size + 1 + 1, 4, none⟩ (.int .u64 t)) ma mb x0 x1 x2 x3 y0 y1 y2 y3 o := by
  obtain ⟨h1, h2, h3, ⟨m, a, b, c, d, h4⟩, h5⟩ := h
  exact ⟨bset (bset (bset (bset (bset h1 _ _ _ (by omega)) _ _ _ (by omega)) _ _ _ (by omega)) _ _ _ (by omega)) _ _ _ (by omega), h2.farAll (by omega) _ _ _ _ _, h3.farAll (by omega) _ _ _ _ _, ⟨_, _, _, _, _, h4.setAll n x y z t⟩, ((((h5.far (by omega) _).far (by omega) _).far (by omega) _).far (by omega) _).far (by omega) _⟩
theorem mul_keep0 {w W : World} {ma mb : Bool} {x0 x1 x2 x3 y0 y1 y2 y3 o0 o1 o2 o3 o4 o5 o6 o7 : Nat} (h : MulE w W ma mb x0 x1 x2 x3 y0 y1 y2 y3 [o0, o1, o2, o3, o4, o5, o6, o7]) : W.cell? ⟨w.heap.size, 0, none⟩ = some (.bool ma) ∧ W.cell? ⟨w.heap.size + 1, 0, none⟩ = some (.bool mb) ∧ W.cell? ⟨w.heap.size + 1 + 1 + 1, 0, none⟩ = some (.int .u64 o0) ∧ W.cell? ⟨w.heap.size + 1 + 1 + 1, 1, none⟩ = some (.int .u64 o1) ∧ W.cell? ⟨w.heap.size + 1 + 1 + 1, 2, none⟩ = some (.int .u64 o2) ∧ W.cell? ⟨w.heap.size + 1 + 1 + 1, 3, none⟩ = some (.int .u64 o3) ∧ W.cell? ⟨w.heap.size + 1 + 1 + 1, 4, none⟩ = some (.int .u64 o4) ∧ W.cell? ⟨w.heap.size + 1 + 1 + 1, 5, none⟩ = some (.int .u64 o5) ∧ W.cell? ⟨w.heap.size + 1 + 1 + 1, 6, none⟩ = some (.int .u64 o6) ∧ W.cell? ⟨w.heap.size + 1 + 1 + 1, 7, none⟩ = some (.int .u64 o7) ∧ MulE w W ma mb x0 x1 x2 x3 y0 y1 y2 y3 [o0, o1, o2, o3, o4, o5, o6, o7] :=
  ⟨h.xa.cells.1, h.xb.cells.1, h.xo.at 0 (by simp), h.xo.at 1 (by simp), h.xo.at 2 (by simp), h.xo.at 3 (by simp), h.xo.at 4 (by simp), h.xo.at 5 (by simp), h.xo.at 6 (by simp), h.xo.at 7 (by simp), h⟩
theorem mul_keep {w W W' : World} {ma mb : Bool} {x0 x1 x2 x3 y0 y1 y2 y3 o0 o1 o2 o3 o4 o5 o6 o7 : Nat} (h : W.cell? ⟨w.heap.size, 0, none⟩ = some (.bool ma) ∧ W.cell? ⟨w.heap.size + 1, 0, none⟩ = some (.bool mb) ∧ W.cell? ⟨w.heap.size + 1 + 1 + 1, 0, none⟩ = some (.int .u64 o0) ∧ W.cell? ⟨w.heap.size + 1 + 1 + 1, 1, none⟩ = some (.int .u64 o1) ∧ W.cell? ⟨w.heap.size + 1 + 1 + 1, 2, none⟩ = some (.int .u64 o2) ∧ W.cell? ⟨w.heap.size + 1 + 1 + 1, 3, none⟩ = some (.int .u64 o3) ∧ W.cell? ⟨w.heap.size + 1 + 1 + 1, 4, none⟩ = some (.int .u64 o4) ∧ W.cell? ⟨w.heap.size + 1 + 1 + 1, 5, none⟩ = some (.int .u64 o5) ∧ W.cell? ⟨w.heap.size + 1 + 1 + 1, 6, none⟩ = some (.int .u64 o6) ∧ W.cell? ⟨w.heap.size + 1 + 1 + 1, 7, none⟩ = some (.int .u64 o7) ∧ MulE w W ma mb x0 x1 x2 x3 y0 y1 y2 y3 [o0, o1, o2, o3, o4, o5, o6, o7]) (hb : Below W.heap.size W W') : W'.cell? ⟨w.heap.size, 0, none⟩ = some (.bool ma) ∧ W'.cell? ⟨w.heap.size + 1, 0, none⟩ = some (.bool mb) ∧ W'.cell? ⟨w.heap.size + 1 + 1 + 1, 0, none⟩ = some (.int .u64 o0) ∧ W'.cell? ⟨w.heap.size + 1 + 1 + 1, 1, none⟩ = some (.int .u64 o1) ∧ W'.cell? ⟨w.heap.size + 1 + 1 + 1, 2, none⟩ = some (.int .u64 o2) ∧ W'.cell? ⟨w.heap.size + 1 + 1 + 1, 3, none⟩ = some (.int .u64 o3) ∧ W'.cell? ⟨w.heap.size + 1 + 1 + 1, 4, none⟩ = some (.int .u64 o4) ∧ W'.cell? ⟨w.heap.size + 1 + 1 + 1, 5, none⟩ = some (.int .u64 o5) ∧ W'.cell? ⟨w.heap.size + 1 + 1 + 1, 6, none⟩ = some (.int .u64 o6) ∧ W'.cell? ⟨w.heap.size + 1 + 1 + 1, 7, none⟩ = some (.int .u64 o7) ∧ MulE w W' ma mb x0 x1 x2 x3 y0 y1 y2 y3 [o0, o1, o2, o3, o4, o5, o6, o7] :=
  mul_keep0 (h.2.2.2.2.2.2.2.2.2.2.later hb)
set_option maxHeartbeats 2000000 in
set_option maxRecDepth 100000 in
theorem mul_walk (ma mb : Bool) {x0 x1 x2 x3 y0 y1 y2 y3 : Nat} (hx0 : Lm x0) (hx1 : Lm x1) (hx2 : Lm x2) (hx3 : Lm x3) (hy0 : Lm y0) (hy1 : Lm y1) (hy2 : Lm y2) (hy3 : Lm y3) (w : World) :
    Calls Try.prog 66 #[.agg #[.bool ma, .int .u64 x0, .int .u64 x1, .int .u64 x2, .int .u64 x3], .agg #[.bool mb, .int .u64 y0, .int .u64 y1, .int .u64 y2, .int .u64 y3]] w fun e w' =>
      ∃ o0 o1 o2 o3 o4 o5 o6 o7 : Nat, e = .returned (.tuple #[.agg #[.bool ((ma != mb) && !noneB o0 o1 o2 o3), .int .u64 o0, .int .u64 o1, .int .u64 o2, .int .u64 o3], .bool (noneB o4 o5 o6 o7)]) ∧ (∀ n ∈ [o0, o1, o2, o3, o4, o5, o6, o7], Lm n) ∧
        Aside0 (V64 [o0, o1, o2, o3, o4, o5, o6, o7] = V64 [x0, x1, x2, x3] * V64 [y0, y1, y2, y3]) ∧ Below w.heap.size w w' := by
  have hyi := fun (w : World) (k : Nat) (hk : k < 4) => index4 y0 y1 y2 y3 k hk w
  have hxi := fun (w : World) (k : Nat) (hk : k < 4) => index4 x0 x1 x2 x3 k hk w
  have HYI := Lib.hid hyi
  have HXI := Lib.hid hxi
  clear hyi hxi
  go_enter Try.func66, Try.ntmps66
  go_wp2
  go_loopw [17] (fun v17 W => MulRel w ma mb x0 x1 x2 x3 y0 y1 y2 y3 v17 W) (fun v17 _ => 4 - (intOf v17).toNat)
  case atStart =>
    refine ⟨0, [0, 0, 0, 0, 0, 0, 0, 0], rfl, by omega, ⟨below_alloc (below_alloc (below_alloc (below_alloc (Below.refl _ _) _) _) _) _, (((Box5.new' w _ ma x0 x1 x2 x3 rfl).alloc _).alloc _).alloc _, ((Box5.new' _ _ mb y0 y1 y2 y3 (by simp)).alloc _).alloc _, (Box5.new' _ _ false 0 0 0 0 (by simp)).alloc _, BoxO.new' _ _ (by simp), rfl, fun n hn => ?_⟩, ⟨by simp [V64]⟩, ⟨fun j hj => ?_⟩⟩
    · have hn0 : n = 0 := by simpa using hn
      subst hn0
      unfold Lm
      omega
    · match j, hj with
      | 4, _ => rfl
      | 5, _ => rfl
      | 6, _ => rfl
      | 7, _ => rfl
      | j + 8, _ => rfl
  case round =>
    obtain ⟨i, o, rfl, hi4, hX, hV, hZ⟩ := hrel
    by_cases hi : i < 4
    · have hi1 : decide ((i : Int) < 4) = true := decide_eq_true (by omega)
      have hxv := getD_Lm hx0 hx1 hx2 hx3 i hi
      have ixx := fun w => HXI.out w i hi
      obtain ⟨x, hx⟩ : ∃ x, x = [x0, x1, x2, x3].getD i 0 := ⟨_, rfl⟩
      rw [← hx] at hxv ixx
      have HX := Lib.hid hx
      clear hx
      obtain ⟨m0, m1, m2, m3, m4⟩ := hX.xb.cells
      obtain ⟨V0, hV0⟩ : ∃ V0, V0 = V64 o := ⟨_, rfl⟩
      have HV0 := Lib.hid hV0
      clear hV0
      go_wp2
      obtain ⟨wo, rfl⟩ : ∃ wo : World, wo = wr := ⟨_, rfl⟩
      go_loopw [9, 23] (fun v9 v23 W => MulIn w ma mb x0 x1 x2 x3 y0 y1 y2 y3 i V0 x v9 v23 W) (fun _ v23 _ => 4 - (intOf v23).toNat)
      case atStart => exact ⟨0, 0, o, rfl, by omega, rfl, by unfold Lm; omega, hX, ⟨by rw [HV0.out]; simp [V64]⟩, hZ⟩
      case round =>
        obtain ⟨k, c, o', rfl, hk4, rfl, hc, hX', hV', hZ'⟩ := hrel
        by_cases hk : k < 4
        · have hk1 : decide ((k : Int) < 4) = true := decide_eq_true (by omega)
          have hkl : i + k < o'.length := by rw [hX'.len]; omega
          have hyv := getD_Lm hy0 hy1 hy2 hy3 k hk
          have iyy := fun w => HYI.out w k hk
          obtain ⟨y, hy⟩ : ∃ y, y = [y0, y1, y2, y3].getD k 0 := ⟨_, rfl⟩
          rw [← hy] at hyv iyy
          have HY := Lib.hid hy
          clear hy
          have co := hX'.xo.at (i + k) hkl
          have fo := hX'.xo.fr (i + k)
          obtain ⟨ov, hov⟩ : ∃ ov, ov = o'.getD (i + k) 0 := ⟨_, rfl⟩
          have hovL : Lm ov := by
            rw [hov, List.getD_eq_getElem?_getD, List.getElem?_eq_getElem hkl]
            exact hX'.dig _ (List.getElem_mem _)
          rw [← hov] at co
          have HOV := Lib.hid hov
          clear hov
          obtain ⟨hi_, hhi⟩ : ∃ h, h = x * y / 18446744073709551616 := ⟨_, rfl⟩
          obtain ⟨lo, hlo⟩ : ∃ l, l = x * y % 18446744073709551616 := ⟨_, rfl⟩
          have HM : Hid (∀ w, Calls Try.prog 92 #[.int .u64 x, .int .u64 y] w fun e w' => e = .returned (.tuple #[.int .u64 (hi_ : Nat), .int .u64 (lo : Nat)]) ∧ w = w') := Lib.hid (fun w => by rw [hhi, hlo]; exact mul64_any hxv hyv w)
          have hloL : Lm lo := by rw [hlo]; exact Nat.mod_lt _ (by decide)
          obtain ⟨s1, hs1⟩ : ∃ s, s = addS lo c 0 := ⟨_, rfl⟩
          obtain ⟨c1, hc1⟩ : ∃ s, s = addC lo c 0 := ⟨_, rfl⟩
          have A1 := fun w => add_run (c := 0) hloL hc (Nat.zero_le 1) w
          rw [← hs1, ← hc1] at A1
          obtain ⟨h2, hh2⟩ : ∃ h : Nat, (h : Int) = ((hi_ : Int) + c1) % 18446744073709551616 := ⟨(((hi_ : Int) + c1) % 18446744073709551616).toNat, by omega⟩
          have W1 : IntKind.u64.wrap ((hi_ : Int) + (c1 : Int)) = (h2 : Int) := by rw [u64_wrap, hh2]
          obtain ⟨o2, ho2⟩ : ∃ s, s = addS ov s1 0 := ⟨_, rfl⟩
          obtain ⟨c2, hc2⟩ : ∃ s, s = addC ov s1 0 := ⟨_, rfl⟩
          have hs1L : Lm s1 := by rw [hs1]; exact addS_lt _ _ _
          have A2 := fun w => add_run (c := 0) hovL hs1L (Nat.zero_le 1) w
          rw [← ho2, ← hc2] at A2
          have ho2L : Lm o2 := by rw [ho2]; exact addS_lt _ _ _
          obtain ⟨c', hc'⟩ : ∃ h : Nat, (h : Int) = ((h2 : Int) + c2) % 18446744073709551616 := ⟨(((h2 : Int) + c2) % 18446744073709551616).toNat, by omega⟩
          have W2 : IntKind.u64.wrap ((h2 : Int) + (c2 : Int)) = (c' : Int) := by rw [u64_wrap, hc']
          have hc'L : Lm c' := by unfold Lm; omega
          have HE : Hid (o2 + 18446744073709551616 * c' = ov + c + x * y) := Lib.hid (limb_step hxv hyv hc hovL hhi hlo hs1 hc1 hh2 ho2 hc2 hc')
          clear hhi hlo hs1 hc1 hh2 ho2 hc2 hc'
          have HV' := Lib.hid hV'.out
          have HZ' := Lib.hid hZ'.out
          clear hV' hZ' hV hZ
          simp only [Int.natCast_zero, Int.cast_ofNat_Int] at A1 A2
          have hw1 : IntKind.i64.wrap ((i : Int) + k) = (i : Int) + k := IntWalk.i64_in _ (by omega)
          go_wp2_with fail
          refine (HM.out _).mono ?_
          rintro e w' ⟨rfl, rfl⟩
          go_wp2
          go_roundw
          case rel => exact ⟨k + 1, c', o'.set (i + k) o2, by go_num, by omega, rfl, hc'L, hX'.set (i + k) o2 ho2L, ⟨inner_end hkl HOV.out HV'.out HE.out hk HY.out⟩, ⟨zero_set HZ'.out (by omega)⟩⟩
          case measure => simp [intOf]; omega
        · obtain rfl : k = 4 := by omega
          have co := hX'.xo.at (i + 4) (by rw [hX'.len]; omega)
          have fo := hX'.xo.fr (i + 4)
          have hz := Lib.hid (hZ'.out (i + 4) (by omega))
          obtain ⟨ov, hov⟩ : ∃ ov, ov = o'.getD (i + 4) 0 := ⟨_, rfl⟩
          rw [← hov] at co
          have HOV := Lib.hid hov
          clear hov
          have HV' := Lib.hid hV'.out
          have HZ' := Lib.hid hZ'.out
          have HV := Lib.hid hV.out
          clear hV' hZ' hV hZ
          go_wp2
          go_roundw
          case rel => exact ⟨i + 1, o'.set (i + 4) c, by go_num, by omega, hX'.set (i + 4) c hc, ⟨row_end (by rw [hX'.len]; omega) hz.out HV'.out HV0.out HV.out hi HX.out⟩, ⟨zero_set' HZ'.out⟩⟩
          case measure => simp [intOf]; omega
    · obtain rfl : i = 4 := by omega
      obtain ⟨o0, o1, o2, o3, o4, o5, o6, o7, rfl⟩ := list8 hX.len
      obtain ⟨j0, j1, j2, j3, j4⟩ := hX.xa.cells
      obtain ⟨m0, m1, m2, m3, m4⟩ := hX.xb.cells
      have k0 := hX.xo.at 0 (by simp)
      have k1 := hX.xo.at 1 (by simp)
      have k2 := hX.xo.at 2 (by simp)
      have k3 := hX.xo.at 3 (by simp)
      have k4 := hX.xo.at 4 (by simp)
      have k5 := hX.xo.at 5 (by simp)
      have k6 := hX.xo.at 6 (by simp)
      have k7 := hX.xo.at 7 (by simp)
      simp only [List.getD_cons_zero, List.getD_cons_succ] at k0 k1 k2 k3 k4 k5 k6 k7
      have HV := Lib.hid hV.out
      clear hV hZ
      have hat : ∀ W, (Instr.arrayAt 25 (.slice (some ⟨w.heap.size + 1 + 1 + 1, 0, none⟩) 4 8)).run Try.prog W = .ok (.pointer (some ⟨w.heap.size + 1 + 1 + 1, 0, none⟩)) W := fun W => by kernel_rfl
      obtain ⟨zz, hzz⟩ : ∃ zz, (Go.bits .or .u64 (Go.bits .or .u64 (Go.bits .or .u64 (o4 : Int) (o5 : Int)) (o6 : Int)) (o7 : Int) == 0) = zz := ⟨_, rfl⟩
      have HZZ := Lib.hid (or_none (hX.dig o4 (by simp)) (hX.dig o5 (by simp)) (hX.dig o6 (by simp)) (hX.dig o7 (by simp)) hzz)
      obtain ⟨sg, hsg⟩ : ∃ sg, (!(ma == mb)) = sg := ⟨_, rfl⟩
      have hE : MulE w wr ma mb x0 x1 x2 x3 y0 y1 y2 y3 [o0, o1, o2, o3, o4, o5, o6, o7] := ⟨hX.hb, hX.xa, hX.xb, ⟨_, _, _, _, _, hX.xr⟩, hX.xo⟩
      go_wp2
      go_region_held3 (fun w' => w'.cell? ⟨w.heap.size, 0, none⟩ = some (.bool ma) ∧ w'.cell? ⟨w.heap.size + 1, 0, none⟩ = some (.bool mb) ∧ w'.cell? ⟨w.heap.size + 1 + 1 + 1, 0, none⟩ = some (.int .u64 o0) ∧ w'.cell? ⟨w.heap.size + 1 + 1 + 1, 1, none⟩ = some (.int .u64 o1) ∧ w'.cell? ⟨w.heap.size + 1 + 1 + 1, 2, none⟩ = some (.int .u64 o2) ∧ w'.cell? ⟨w.heap.size + 1 + 1 + 1, 3, none⟩ = some (.int .u64 o3) ∧ w'.cell? ⟨w.heap.size + 1 + 1 + 1, 4, none⟩ = some (.int .u64 o4) ∧ w'.cell? ⟨w.heap.size + 1 + 1 + 1, 5, none⟩ = some (.int .u64 o5) ∧ w'.cell? ⟨w.heap.size + 1 + 1 + 1, 6, none⟩ = some (.int .u64 o6) ∧ w'.cell? ⟨w.heap.size + 1 + 1 + 1, 7, none⟩ = some (.int .u64 o7) ∧ MulE w w' ma mb x0 x1 x2 x3 y0 y1 y2 y3 [o0, o1, o2, o3, o4, o5, o6, o7]) (first | exact mul_keep (by assumption) hB7 | exact mul_keep (by assumption) (below_drew (Below.refl _ _)) | exact mul_keep0 (hE.later (below_drew (Below.refl _ _))) | exact mul_keep0 (hM.stored _ _ _ _ _) | go_keep) (first | (go_at_call 67; refine (of_any _ _ _ _ _ _).mono ?_; rintro e w7 ⟨rfl, hB7⟩; have hM := (mul_keep (hb := hB7) (ma := ma) (mb := mb) (x0 := x0) (x1 := x1) (x2 := x2) (x3 := x3) (y0 := y0) (y1 := y1) (y2 := y2) (y3 := y3) (o0 := o0) (o1 := o1) (o2 := o2) (o3 := o3) (o4 := o4) (o5 := o5) (o6 := o6) (o7 := o7) (w := w) (by assumption)).2.2.2.2.2.2.2.2.2.2; obtain ⟨r_, a_, b_, c_, d_, hr_⟩ := hM.xr; obtain ⟨g0, g1, g2, g3, g4⟩ := hr_.cells; have f0 := hr_.fr 0; have f1 := hr_.fr 1; have f2 := hr_.fr 2; have f3 := hr_.fr 3; have f4 := hr_.fr 4))
      go_wp2
      have hfin := hr_.setAll (sg && !noneB o0 o1 o2 o3) o0 o1 o2 o3
      have hbel := (hM.stored (sg && !noneB o0 o1 o2 o3) o0 o1 o2 o3).hb
      refine bodyPost_ret (v := .tuple #[.agg #[.bool (sg && !noneB o0 o1 o2 o3), .int .u64 o0, .int .u64 o1, .int .u64 o2, .int .u64 o3], .bool zz]) (results_ct (fn := Try.f66) (p := 4) (u := 5) (ty := 27) rfl _ _ (w.heap.size + 1 + 1) 27 _ (0, 0) _ rfl hfin Try.underlying27 rfl (by kernel_rfl)) rfl ⟨o0, o1, o2, o3, o4, o5, o6, o7, ?_, hX.dig, ⟨HV.out⟩, hbel⟩
      rw [HZZ.out, ← hsg]
      rfl
end Go.Proofs.Ytmpbbodafenonaa

/- The walk of parquetref01's (Num).Wide. -/
import Derived.Test.YtmpbbodafenonaaLimb5
import Derived.Test.YtmpbbodafenonaaV
set_option linter.unusedVariables false
set_option linter.unusedSimpArgs false
namespace Go.Proofs.Ytmpbbodafenonaa
open Go Go.Proofs Go.RowKit Go.Shelf Go.Proofs.YtmpbbodafenonaaW.PrintWords

def dgt (l : List Int) (j : Nat) : Nat := (l.getD j 0).toNat
/-- Limb k of the digits from i on, as the walk has gone through them from above. -/
def lmN (l : List Int) (i k : Nat) : Nat :=
  if i ≤ 4 * k then dgt l (4 * k) + 65536 * (dgt l (4 * k + 1) + 65536 * (dgt l (4 * k + 2) + 65536 * dgt l (4 * k + 3)))
  else if i ≤ 4 * k + 1 then dgt l (4 * k + 1) + 65536 * (dgt l (4 * k + 2) + 65536 * dgt l (4 * k + 3))
  else if i ≤ 4 * k + 2 then dgt l (4 * k + 2) + 65536 * dgt l (4 * k + 3)
  else if i ≤ 4 * k + 3 then dgt l (4 * k + 3)
  else 0
theorem lmN_lt {l : List Int} (h : ∀ j, dgt l j < 65536) (i k : Nat) : Lm (lmN l i k) := by
  have h0 := h (4 * k)
  have h1 := h (4 * k + 1)
  have h2 := h (4 * k + 2)
  have h3 := h (4 * k + 3)
  unfold lmN Lm
  repeat' split
  all_goals omega
theorem lmN_far (l : List Int) (i k : Nat) (h : k ≠ i / 4) : lmN l i k = lmN l (i + 1) k := by
  unfold lmN
  repeat' split
  all_goals first | rfl | omega
theorem lmN_step (l : List Int) (i : Nat) : lmN l i (i / 4) = lmN l (i + 1) (i / 4) * 65536 + dgt l i := by
  obtain ⟨q, r, rfl, hr⟩ : ∃ q r, i = 4 * q + r ∧ r < 4 := ⟨i / 4, i % 4, by omega, by omega⟩
  rw [show (4 * q + r) / 4 = q from by omega]
  obtain rfl | rfl | rfl | rfl : r = 0 ∨ r = 1 ∨ r = 2 ∨ r = 3 := by omega
  all_goals
    unfold lmN
    repeat' split
    all_goals first | omega | (simp only [Nat.add_zero]; omega)
theorem lmN_top {l : List Int} {n : Nat} (hn : n = l.length) (k : Nat) : lmN l n k = if n ≤ 4 * k + 3 then lmN l n k else 0 := by
  split
  · rfl
  · unfold lmN
    repeat' split
    all_goals first | rfl | omega
theorem dgt_out {l : List Int} {j : Nat} (h : l.length ≤ j) : dgt l j = 0 := by
  unfold dgt
  rw [List.getD_eq_getElem?_getD, List.getElem?_eq_none h]
  rfl
theorem lmN_end (l : List Int) (k : Nat) : lmN l l.length k = 0 := by
  unfold lmN
  repeat' split
  all_goals simp [dgt_out, *]
  all_goals first | (rw [dgt_out (by omega), dgt_out (by omega), dgt_out (by omega), dgt_out (by omega)]) | (rw [dgt_out (by omega), dgt_out (by omega), dgt_out (by omega)]) | (rw [dgt_out (by omega), dgt_out (by omega)]) | (rw [dgt_out (by omega)]) | skip

/-- What the loop holds. -/
structure RwBoxes (w W : World) (m : Bool) (A : Option Addr) (n c : Nat) (q0 q1 q2 q3 : Nat) : Prop where
  hb : Below w.heap.size w W
  xn : W.heap[w.heap.size]? = some (.cells #[.bool m, .slice A n c] 38 (0, 0))
  xr : Box5 W (w.heap.size + 1) false 0 0 0 0
  xw : Box5 W (w.heap.size + 1 + 1) m q0 q1 q2 q3
theorem Box5.set {W : World} {B : Nat} {m : Bool} {a b c d : Nat} (h : Box5 W B m a b c d) (i v : Nat) (hi : i < 4) : Box5 (W.setCell ⟨B, 1 + i, none⟩ (.int .u64 (v : Nat))) B m (if 0 = i then v else a) (if 1 = i then v else b) (if 2 = i then v else c) (if 3 = i then v else d) := by
  have h1 := blk_set h (1 + i) (.int .u64 (v : Nat))
  obtain rfl | rfl | rfl | rfl : i = 0 ∨ i = 1 ∨ i = 2 ∨ i = 3 := by omega
  all_goals exact h1
theorem Box5.at {W : World} {B : Nat} {m : Bool} {a b c d : Nat} (h : Box5 W B m a b c d) (i : Nat) (hi : i < 4) : W.cell? ⟨B, 1 + i, none⟩ = some (.int .u64 ([a, b, c, d].getD i 0 : Nat)) := by
  obtain rfl | rfl | rfl | rfl : i = 0 ∨ i = 1 ∨ i = 2 ∨ i = 3 := by omega
  · exact h.cells.2.1
  · exact h.cells.2.2.1
  · exact h.cells.2.2.2.1
  · exact h.cells.2.2.2.2
theorem RwBoxes.set {w W : World} {m : Bool} {A : Option Addr} {n c : Nat} {l : List Int} {j : Nat} (h : RwBoxes w W m A n c (lmN l (j + 1) 0) (lmN l (j + 1) 1) (lmN l (j + 1) 2) (lmN l (j + 1) 3)) (hj : j < 16) :
    RwBoxes w (W.setCell ⟨w.heap.size + 1 + 1, 1 + j / 4, none⟩ (.int .u64 (lmN l j (j / 4) : Nat))) m A n c (lmN l j 0) (lmN l j 1) (lmN l j 2) (lmN l j 3) := by
  obtain ⟨h1, h2, h3, h4⟩ := h
  refine ⟨bset h1 _ _ _ (by omega), blk_far h2 (by simp; omega) _, h3.far (by omega) _, ?_⟩
  have h5 := h4.set (j / 4) (lmN l j (j / 4)) (by omega)
  have k : ∀ q, (if q = j / 4 then lmN l j (j / 4) else lmN l (j + 1) q) = lmN l j q := by
    intro q
    split
    · rename_i e
      rw [e]
    · rename_i e
      exact (lmN_far l j q e).symm
  rw [k, k, k, k] at h5
  exact h5
theorem RwBoxes.dr {w W : World} {m : Bool} {A : Option Addr} {n c q0 q1 q2 q3 : Nat} (h : RwBoxes w W m A n c q0 q1 q2 q3) : RwBoxes w W.drew m A n c q0 q1 q2 q3 := ⟨below_drew h.hb, h.xn, h.xr, h.xw⟩
def RwRel (w : World) (m : Bool) (A : Option Addr) (l : List Int) (n c : Nat) (v5 : Value) (W : World) : Prop :=
  ∃ k : Nat, v5 = .int .i64 ((k : Int) - 1) ∧ k ≤ n ∧ RwBoxes w W m A n c (lmN l k 0) (lmN l k 1) (lmN l k 2) (lmN l k 3)
def dgOk (l : List Int) : Bool := l.all fun d => decide (0 ≤ d) && decide (d < 65536)
theorem dgOk_iff {l : List Int} : dgOk l = true ↔ ∀ d ∈ l, 0 ≤ d ∧ d < 65536 := by simp [dgOk]
def parquetref01_Num_Wide_f (a0_0 : Bool) (l0_1 : List Int) : Option (Bool × Int × Int × Int × Int × Bool) :=
  if dgOk l0_1 = true then (if l0_1.length ≤ 16 then some (a0_0, (lmN l0_1 0 0 : Nat), (lmN l0_1 0 1 : Nat), (lmN l0_1 0 2 : Nat), (lmN l0_1 0 3 : Nat), true) else if l0_1.length < 9223372036854775807 then some (false, 0, 0, 0, 0, false) else none) else none
theorem dgt_lt {l : List Int} (h : dgOk l = true) (j : Nat) : dgt l j < 65536 := by
  unfold dgt
  by_cases hj : j < l.length
  · rw [List.getD_eq_getElem?_getD, List.getElem?_eq_getElem hj]
    have := dgOk_iff.1 h _ (List.getElem_mem hj)
    simp only [Option.getD_some]
    omega
  · rw [List.getD_eq_getElem?_getD, List.getElem?_eq_none (by omega)]
    decide
theorem dgt_rd {l : List Int} (h : dgOk l = true) (j : Nat) (hj : j < l.length) : rd l (j : Int) = (dgt l j : Nat) := by
  have h1 : rd l (j : Int) = l.getD j 0 := by simp [rd]
  have h2 := dgOk_iff.1 h _ (List.getElem_mem hj)
  rw [h1]
  unfold dgt
  rw [List.getD_eq_getElem?_getD, List.getElem?_eq_getElem hj]
  simp only [Option.getD_some]
  omega

set_option maxHeartbeats 2000000 in
set_option maxRecDepth 100000 in
theorem parquetref01_Num_Wide_c (a0_0 : Bool) (A0_1 : Option Addr) (c0_1 : Nat) (l0_1 : List Int) (r1 : Bool) (r2 r3 r4 r5 : Int) (r6 : Bool) (w : World) (hr0_1 : Kd.C (Kd.int .i64) w A0_1 l0_1.length l0_1) (hc0_1 : l0_1.length ≤ c0_1) (h : parquetref01_Num_Wide_f a0_0 l0_1 = some (r1, r2, r3, r4, r5, r6)) :
    Calls Try.prog 34 #[.agg #[.bool a0_0, .slice A0_1 l0_1.length c0_1]] w fun e w' => e = .returned (.tuple #[.agg #[.bool r1, .int .u64 r2, .int .u64 r3, .int .u64 r4, .int .u64 r5], .bool r6]) ∧ Below w.heap.size w w' := by
  have HR := Lib.hid hr0_1
  clear hr0_1
  unfold parquetref01_Num_Wide_f at h
  split at h
  · rename_i hd
    have HD := Lib.hid hd
    clear hd
    split at h
    · rename_i hn
      simp only [Option.some.injEq, Prod.mk.injEq] at h
      obtain ⟨rfl, rfl, rfl, rfl, rfl, rfl⟩ := h
      obtain ⟨n, hN⟩ : ∃ n, n = l0_1.length := ⟨_, rfl⟩
      rw [← hN] at hn hc0_1 ⊢
      have HN := Lib.hid hN
      clear hN
      have g1 : decide ((n : Int) > 16) = false := decide_eq_false (by omega)
      have w1 : IntKind.i64.wrap ((n : Int) - 1) = (n : Int) - 1 := IntWalk.i64_in _ (by omega)
      go_enter Try.func34, Try.ntmps34
      go_wp2
      go_loopw [5] (fun v5 W => RwRel w a0_0 A0_1 l0_1 n c0_1 v5 W) (fun v5 _ => (intOf v5 + 1).toNat)
      case atStart =>
        refine ⟨n, rfl, Nat.le_refl _, ⟨?_, ?_, ?_, ?_⟩⟩
        · exact below_alloc (below_alloc (below_alloc (Below.refl _ _) _) _) _
        · have h2 : (w.alloc (.cells #[.bool a0_0, .slice A0_1 n c0_1] 38)).heap[w.heap.size]? = some (.cells #[.bool a0_0, .slice A0_1 n c0_1] 38 (0, 0)) := by
            show (w.heap.push _)[w.heap.size]? = _
            simp
          exact ((below_alloc (below_alloc (Below.refl (w.alloc (.cells #[.bool a0_0, .slice A0_1 n c0_1] 38)).heap.size (w.alloc (.cells #[.bool a0_0, .slice A0_1 n c0_1] 38))) _) _).block w.heap.size (by simp)).trans h2
        · exact (Box5.new' _ _ false 0 0 0 0 (by simp)).alloc _
        · have k : ∀ q, lmN l0_1 n q = 0 := fun q => by rw [HN.out]; exact lmN_end _ _
          rw [k, k, k, k]
          exact Box5.new' _ _ a0_0 0 0 0 0 (by simp)
      case round =>
        obtain ⟨k, rfl, hk, hX⟩ := hrel
        cases k with
        | zero =>
          obtain ⟨j0, j1, j2, j3, j4⟩ := hX.xr.cells
          obtain ⟨m0, m1, m2, m3, m4⟩ := hX.xw.cells
          have f0 := hX.xr.fr 0
          have f1 := hX.xr.fr 1
          have f2 := hX.xr.fr 2
          have f3 := hX.xr.fr 3
          have f4 := hX.xr.fr 4
          obtain ⟨q0, hq0⟩ : ∃ q, q = lmN l0_1 0 0 := ⟨_, rfl⟩
          obtain ⟨q1, hq1⟩ : ∃ q, q = lmN l0_1 0 1 := ⟨_, rfl⟩
          obtain ⟨q2, hq2⟩ : ∃ q, q = lmN l0_1 0 2 := ⟨_, rfl⟩
          obtain ⟨q3, hq3⟩ : ∃ q, q = lmN l0_1 0 3 := ⟨_, rfl⟩
          rw [← hq0, ← hq1, ← hq2, ← hq3] at hX
          rw [← hq0] at m1
          rw [← hq1] at m2
          rw [← hq2] at m3
          rw [← hq3] at m4
          have HQ0 := Lib.hid hq0
          have HQ1 := Lib.hid hq1
          have HQ2 := Lib.hid hq2
          have HQ3 := Lib.hid hq3
          clear hq0 hq1 hq2 hq3
          go_wp2
          have hfin := hX.xr.setAll a0_0 q0 q1 q2 q3
          refine bodyPost_ret (v := .tuple #[.agg #[.bool a0_0, .int .u64 q0, .int .u64 q1, .int .u64 q2, .int .u64 q3], .bool true]) (results_ct (fn := Try.f34) (p := 2) (u := 3) (ty := 27) rfl _ _ (w.heap.size + 1) 27 _ (0, 0) _ rfl hfin Try.underlying27 rfl (by kernel_rfl)) rfl ⟨?_, ?_⟩
          · rw [HQ0.out, HQ1.out, HQ2.out, HQ3.out]
          · exact bset (bset (bset (bset (bset hX.hb _ _ _ (by omega)) _ _ _ (by omega)) _ _ _ (by omega)) _ _ _ (by omega)) _ _ _ (by omega)
        | succ j =>
          have hn1 : (((j + 1 : Nat) : Int) - 1) = (j : Int) := by omega
          rw [hn1]
          have hge : decide ((j : Int) ≥ 0) = true := decide_eq_true (by omega)
          obtain ⟨ad, rfl, hcell⟩ := Kd.at_int HR.out (j : Int) (by omega) (by rw [← HN.out]; omega)
          have hadlt : (ad.add j).block < w.heap.size := by
            rcases Nat.lt_or_ge (ad.add j).block w.heap.size with h | h
            · exact h
            · have hcell' : w.cell? (ad.add j) = _ := hcell
              simp [World.cell?, Array.getElem?_eq_none h] at hcell'
          rw [dgt_rd HD.out j (by rw [← HN.out]; omega), show ((j : Int)).toNat = j from rfl] at hcell
          have hc2 : wr.cell? (ad.add j) = some (.int .i64 (dgt l0_1 j : Nat)) := by
            rw [← hcell]
            exact hX.hb.cell (p := ad.add j) hadlt
          have nc := blk_cell hX.xn (i := 1)
          obtain ⟨d, hd⟩ : ∃ d, d = dgt l0_1 j := ⟨_, rfl⟩
          have hdlt := dgt_lt HD.out j
          rw [← hd] at hc2 hdlt
          have hb4 : j / 4 < 4 := by omega
          have cw := hX.xw.at (j / 4) hb4
          have fw := hX.xw.fr (1 + j / 4)
          obtain ⟨q, hq⟩ : ∃ q, q = [lmN l0_1 (j + 1) 0, lmN l0_1 (j + 1) 1, lmN l0_1 (j + 1) 2, lmN l0_1 (j + 1) 3].getD (j / 4) 0 := ⟨_, rfl⟩
          rw [← hq] at cw
          have hqe : q = lmN l0_1 (j + 1) (j / 4) := by
            rw [hq]
            obtain h | h | h | h : j / 4 = 0 ∨ j / 4 = 1 ∨ j / 4 = 2 ∨ j / 4 = 3 := by omega
            all_goals rw [h]; rfl
          have hst : lmN l0_1 j (j / 4) = q * 65536 + d := by rw [lmN_step, ← hqe, ← hd]
          have hlt := lmN_lt (dgt_lt HD.out) j (j / 4)
          rw [hst] at hlt
          unfold Lm at hlt
          have W1 : IntKind.u64.wrap ((q : Int) * 65536) = ((q * 65536 : Nat) : Int) := by rw [u64_wrap]; omega
          have W2 : IntKind.u64.wrap (d : Int) = (d : Int) := by rw [u64_wrap]; omega
          have W3 : IntKind.u64.wrap (((q * 65536 : Nat) : Int) + (d : Int)) = ((q * 65536 + d : Nat) : Int) := by rw [u64_wrap]; omega
          have HST := Lib.hid hst
          clear hqe hst hq hd hcell
          have nc' : wr.cell? { block := w.heap.size, off := 1 } = some (.slice (some ad) n c0_1) := nc
          clear nc
          go_wp2
          go_region
          go_wp2
          refine ⟨⟨j, rfl, by omega, ?_⟩, by simp [intOf]⟩
          have e : (q : Int) * 65536 + (d : Int) = ((lmN l0_1 j (j / 4) : Nat) : Int) := by rw [HST.out]; omega
          rw [e]
          exact (hX.set (by omega)).dr
    · split at h
      · rename_i hn hl
        simp only [Option.some.injEq, Prod.mk.injEq] at h
        obtain ⟨rfl, rfl, rfl, rfl, rfl, rfl⟩ := h
        have g1 : decide ((l0_1.length : Int) > 16) = true := decide_eq_true (by omega)
        go_enter Try.func34, Try.ntmps34
        go_wp2
        exact bodyPost_ret (v := .tuple #[.agg #[.bool false, .int .u64 0, .int .u64 0, .int .u64 0, .int .u64 0], .bool false]) (results_ct (fn := Try.f34) (p := 2) (u := 3) (ty := 27) rfl _ _ (w.heap.size + 1) 27 _ (0, 0) _ rfl ((Box5.new' _ _ false 0 0 0 0 (by simp)).alloc _) Try.underlying27 rfl (by kernel_rfl)) rfl ⟨rfl, below_alloc (below_alloc (below_alloc (Below.refl _ _) _) _) _⟩
      · cases h
  · cases h
end Go.Proofs.Ytmpbbodafenonaa

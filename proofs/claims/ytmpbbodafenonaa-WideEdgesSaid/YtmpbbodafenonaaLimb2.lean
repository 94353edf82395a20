/- The walk of wide's divide. -/
import Derived.Test.YtmpbbodafenonaaLimb1
import Derived.Test.YtmpbbodafenonaaLimbMath
set_option linter.unusedVariables false
set_option linter.unusedSimpArgs false
namespace Go.Proofs.Ytmpbbodafenonaa
open Go Go.Proofs Go.RowKit Go.Proofs.YtmpbbodafenonaaW.PrintWords

/-- A block that holds four limbs. -/
def Box4 (W : World) (B : Nat) (a b c d : Int) : Prop := W.heap[B]? = some (.cells #[.int .u64 a, .int .u64 b, .int .u64 c, .int .u64 d] 25 (0, 0))
theorem Box4.lt {W : World} {B : Nat} {a b c d : Int} (h : Box4 W B a b c d) : B < W.heap.size := (Array.getElem?_eq_some_iff.1 h).1
theorem Box4.below {W W' : World} {B n : Nat} {a b c d : Int} (h : Box4 W B a b c d) (hb : Below n W W') (hn : B < n) : Box4 W' B a b c d := (hb.block B hn).trans h
theorem Box4.same {W W' : World} {B : Nat} {a b c d : Int} (h : Box4 W B a b c d) (hb : W'.heap = W.heap) : Box4 W' B a b c d := by unfold Box4; rw [hb]; exact h
theorem Box4.fr {W : World} {B : Nat} {a b c d : Int} (h : Box4 W B a b c d) (i : Nat) : W.frozen? ⟨B, i, none⟩ = false := by simp [World.frozen?, show W.heap[B]? = _ from h]
theorem Box4.cells {W : World} {B : Nat} {a b c d : Int} (h : Box4 W B a b c d) : W.cell? ⟨B, 0, none⟩ = some (.int .u64 a) ∧ W.cell? ⟨B, 1, none⟩ = some (.int .u64 b) ∧ W.cell? ⟨B, 2, none⟩ = some (.int .u64 c) ∧ W.cell? ⟨B, 3, none⟩ = some (.int .u64 d) := by
  simp [World.cell?, show W.heap[B]? = _ from h]
theorem Box4.at {W : World} {B : Nat} {a b c d : Int} (h : Box4 W B a b c d) (i : Nat) (hi : i < 4) : W.cell? ⟨B, i, none⟩ = some (.int .u64 ([a, b, c, d].getD i 0)) := by
  have h4 := h.cells
  match i, hi with
  | 0, _ => exact h4.1
  | 1, _ => exact h4.2.1
  | 2, _ => exact h4.2.2.1
  | 3, _ => exact h4.2.2.2
theorem Box4.set {W : World} {B : Nat} {a b c d : Int} (h : Box4 W B a b c d) (i : Nat) (x : Int) : (W.setCell ⟨B, i, none⟩ (.int .u64 x)).heap[B]? = some (.cells (#[Value.int .u64 a, .int .u64 b, .int .u64 c, .int .u64 d].setIfInBounds i (.int .u64 x)) 25 (0, 0)) := blk_set h i _
theorem Box4.far {W : World} {B B' i : Nat} {a b c d : Int} (h : Box4 W B a b c d) (hn : B ≠ B') (x : Value) : Box4 (W.setCell ⟨B', i, none⟩ x) B a b c d := blk_far h (by simpa using hn) x


theorem bset {n : Nat} {w W : World} (h : Below n w W) (B i : Nat) (x : Value) (hn : n ≤ B) : Below n w (W.setCell ⟨B, i, none⟩ x) :=
  h.trans ⟨rfl, rfl, rfl, by simp [World.setCell], fun k hk => Below.heap_setCell _ _ _ k (by show k ≠ B; omega)⟩
theorem bcell {W w1 : World} (hb : Below W.heap.size W w1) : (∀ b o, b < W.heap.size → w1.cell? ⟨b, o, none⟩ = W.cell? ⟨b, o, none⟩) ∧ (∀ b o, b < W.heap.size → w1.frozen? ⟨b, o, none⟩ = W.frozen? ⟨b, o, none⟩) :=
  ⟨fun b o h => hb.cell (p := ⟨b, o, none⟩) h, fun b o h => hb.frozen (p := ⟨b, o, none⟩) h⟩
theorem size_val {x0 x1 x2 x3 y0 y1 y2 y3 : Int} (hx0 : U x0) (hx1 : U x1) (hx2 : U x2) (hx3 : U x3) (hy0 : U y0) (hy1 : U y1) (hy2 : U y2) (hy3 : U y3) : sizeL x0 x1 x2 x3 y0 y1 y2 y3 = cmpI (val4 x0 x1 x2 x3) (val4 y0 y1 y2 y3) := by
  unfold U at *
  unfold sizeL cmpI val4
  repeat' split
  all_goals first | rfl | omega
theorem size_any {x0 x1 x2 x3 y0 y1 y2 y3 : Int} (hx0 : U x0) (hx1 : U x1) (hx2 : U x2) (hx3 : U x3) (hy0 : U y0) (hy1 : U y1) (hy2 : U y2) (hy3 : U y3) (w : World) :
    Calls Try.prog 78 #[.agg #[.int .u64 x0, .int .u64 x1, .int .u64 x2, .int .u64 x3], .agg #[.int .u64 y0, .int .u64 y1, .int .u64 y2, .int .u64 y3]] w fun e w' => e = .returned (.int .i64 (cmpI (val4 x0 x1 x2 x3) (val4 y0 y1 y2 y3))) ∧ Below w.heap.size w w' := by
  rw [← size_val hx0 hx1 hx2 hx3 hy0 hy1 hy2 hy3]
  exact size_walk x0 x1 x2 x3 y0 y1 y2 y3 w
theorem U_nat {x : Int} (h : U x) : ∃ n : Nat, x = n ∧ Lm n := by
  obtain ⟨n, rfl⟩ := Int.eq_ofNat_of_zero_le h.1
  exact ⟨n, rfl, by unfold U at h; unfold Lm; omega⟩
theorem Lm_U {n : Nat} (h : Lm n) : U (n : Int) := by unfold Lm at h; unfold U; omega
theorem plus_val {x0 x1 x2 x3 y0 y1 y2 y3 s0 s1 s2 s3 c0 c1 c2 c3 : Nat} (e0 : addS x0 y0 0 = s0 ∧ addC x0 y0 0 = c0) (e1 : addS x1 y1 c0 = s1 ∧ addC x1 y1 c0 = c1) (e2 : addS x2 y2 c1 = s2 ∧ addC x2 y2 c1 = c2) (e3 : addS x3 y3 c2 = s3 ∧ addC x3 y3 c2 = c3) :
    val4 s0 s1 s2 s3 + top4 * c3 = val4 x0 x1 x2 x3 + val4 y0 y1 y2 y3 := by
  unfold addS addC at *
  unfold val4 top4
  omega
theorem less_val {x0 x1 x2 x3 y0 y1 y2 y3 s0 s1 s2 s3 c0 c1 c2 c3 : Nat} (hx0 : Lm x0) (hx1 : Lm x1) (hx2 : Lm x2) (hx3 : Lm x3) (hy0 : Lm y0) (hy1 : Lm y1) (hy2 : Lm y2) (hy3 : Lm y3) (e0 : subS x0 y0 0 = s0 ∧ subC x0 y0 0 = c0) (e1 : subS x1 y1 c0 = s1 ∧ subC x1 y1 c0 = c1) (e2 : subS x2 y2 c1 = s2 ∧ subC x2 y2 c1 = c2) (e3 : subS x3 y3 c2 = s3 ∧ subC x3 y3 c2 = c3) :
    val4 s0 s1 s2 s3 = val4 x0 x1 x2 x3 - val4 y0 y1 y2 y3 + top4 * c3 ∧ c3 ≤ 1 := by
  have k : ∀ {x y c s d : Nat}, Lm x → Lm y → c ≤ 1 → (subS x y c = s ∧ subC x y c = d) → (s : Int) = x - y - c + 18446744073709551616 * d ∧ d ≤ 1 := by
    intro x y c s d hx hy hc ⟨h1, h2⟩
    unfold subS at h1
    unfold subC at h2
    unfold Lm at hx hy
    split at h2 <;> omega
  obtain ⟨f0, g0⟩ := k hx0 hy0 (by omega) e0
  obtain ⟨f1, g1⟩ := k hx1 hy1 g0 e1
  obtain ⟨f2, g2⟩ := k hx2 hy2 g1 e2
  obtain ⟨f3, g3⟩ := k hx3 hy3 g2 e3
  clear k e0 e1 e2 e3
  unfold val4 top4
  omega
theorem plus_any {x0 x1 x2 x3 y0 y1 y2 y3 : Int} (hx0 : U x0) (hx1 : U x1) (hx2 : U x2) (hx3 : U x3) (hy0 : U y0) (hy1 : U y1) (hy2 : U y2) (hy3 : U y3) (w : World) :
    Calls Try.prog 71 #[.agg #[.int .u64 x0, .int .u64 x1, .int .u64 x2, .int .u64 x3], .agg #[.int .u64 y0, .int .u64 y1, .int .u64 y2, .int .u64 y3]] w fun e w' =>
      ∃ s0 s1 s2 s3 : Int, e = .returned (.tuple #[.agg #[.int .u64 s0, .int .u64 s1, .int .u64 s2, .int .u64 s3], .bool (decide (val4 x0 x1 x2 x3 + val4 y0 y1 y2 y3 < top4))]) ∧ U s0 ∧ U s1 ∧ U s2 ∧ U s3 ∧ val4 s0 s1 s2 s3 = (val4 x0 x1 x2 x3 + val4 y0 y1 y2 y3) % top4 ∧ Below w.heap.size w w' := by
  obtain ⟨x0, rfl, kx0⟩ := U_nat hx0
  obtain ⟨x1, rfl, kx1⟩ := U_nat hx1
  obtain ⟨x2, rfl, kx2⟩ := U_nat hx2
  obtain ⟨x3, rfl, kx3⟩ := U_nat hx3
  obtain ⟨y0, rfl, ky0⟩ := U_nat hy0
  obtain ⟨y1, rfl, ky1⟩ := U_nat hy1
  obtain ⟨y2, rfl, ky2⟩ := U_nat hy2
  obtain ⟨y3, rfl, ky3⟩ := U_nat hy3
  have d0 := addC_le kx0 ky0 (Nat.zero_le 1)
  have d1 := addC_le kx1 ky1 d0
  have d2 := addC_le kx2 ky2 d1
  have d3 := addC_le kx3 ky3 d2
  have hv := plus_val (x0 := x0) (y0 := y0) (x1 := x1) (y1 := y1) (x2 := x2) (y2 := y2) (x3 := x3) (y3 := y3) ⟨rfl, rfl⟩ ⟨rfl, rfl⟩ ⟨rfl, rfl⟩ ⟨rfl, rfl⟩
  have u0 := Lm_U (addS_lt x0 y0 0)
  have u1 := Lm_U (addS_lt x1 y1 (addC x0 y0 0))
  have u2 := Lm_U (addS_lt x2 y2 (addC x1 y1 (addC x0 y0 0)))
  have u3 := Lm_U (addS_lt x3 y3 (addC x2 y2 (addC x1 y1 (addC x0 y0 0))))
  refine (plus_walk x0 x1 x2 x3 y0 y1 y2 y3 _ _ _ _ _ _ _ _ w (fun w => add_run (c := 0) kx0 ky0 (Nat.zero_le 1) w) (fun w => add_run kx1 ky1 d0 w) (fun w => add_run kx2 ky2 d1 w) (fun w => add_run kx3 ky3 d2 w)).mono ?_
  rintro e w' ⟨rfl, hb⟩
  have hbd := val4_bound u0 u1 u2 u3
  generalize addC x3 y3 (addC x2 y2 (addC x1 y1 (addC x0 y0 0))) = c3 at *
  refine ⟨_, _, _, _, ?_, u0, u1, u2, u3, ?_, hb⟩
  · rw [show decide (val4 (x0 : Int) x1 x2 x3 + val4 (y0 : Int) y1 y2 y3 < top4) = ((c3 : Int) == 0) from ?_]
    rw [Bool.eq_iff_iff]
    simp only [decide_eq_true_eq, beq_iff_eq]
    unfold top4 at *
    omega
  · rw [← hv]
    unfold top4 at *
    omega
theorem less_any {x0 x1 x2 x3 y0 y1 y2 y3 : Int} (hx0 : U x0) (hx1 : U x1) (hx2 : U x2) (hx3 : U x3) (hy0 : U y0) (hy1 : U y1) (hy2 : U y2) (hy3 : U y3) (w : World) :
    Calls Try.prog 72 #[.agg #[.int .u64 x0, .int .u64 x1, .int .u64 x2, .int .u64 x3], .agg #[.int .u64 y0, .int .u64 y1, .int .u64 y2, .int .u64 y3]] w fun e w' =>
      ∃ s0 s1 s2 s3 : Int, e = .returned (.agg #[.int .u64 s0, .int .u64 s1, .int .u64 s2, .int .u64 s3]) ∧ U s0 ∧ U s1 ∧ U s2 ∧ U s3 ∧ val4 s0 s1 s2 s3 = (val4 x0 x1 x2 x3 - val4 y0 y1 y2 y3) % top4 ∧ Below w.heap.size w w' := by
  obtain ⟨x0, rfl, kx0⟩ := U_nat hx0
  obtain ⟨x1, rfl, kx1⟩ := U_nat hx1
  obtain ⟨x2, rfl, kx2⟩ := U_nat hx2
  obtain ⟨x3, rfl, kx3⟩ := U_nat hx3
  obtain ⟨y0, rfl, ky0⟩ := U_nat hy0
  obtain ⟨y1, rfl, ky1⟩ := U_nat hy1
  obtain ⟨y2, rfl, ky2⟩ := U_nat hy2
  obtain ⟨y3, rfl, ky3⟩ := U_nat hy3
  have hv := less_val kx0 kx1 kx2 kx3 ky0 ky1 ky2 ky3 ⟨rfl, rfl⟩ ⟨rfl, rfl⟩ ⟨rfl, rfl⟩ ⟨rfl, rfl⟩
  have u0 := Lm_U (subS_lt x0 y0 0)
  have u1 := Lm_U (subS_lt x1 y1 (subC x0 y0 0))
  have u2 := Lm_U (subS_lt x2 y2 (subC x1 y1 (subC x0 y0 0)))
  have u3 := Lm_U (subS_lt x3 y3 (subC x2 y2 (subC x1 y1 (subC x0 y0 0))))
  refine (less_walk x0 x1 x2 x3 y0 y1 y2 y3 _ _ _ _ _ _ _ _ w (fun w => sub_run (c := 0) (Nat.zero_le 1) w) (fun w => sub_run (subC_le _ _ _) w) (fun w => sub_run (subC_le _ _ _) w) (fun w => sub_run (subC_le _ _ _) w)).mono ?_
  rintro e w' ⟨rfl, hb⟩
  have hbd := val4_bound u0 u1 u2 u3
  generalize subC x3 y3 (subC x2 y2 (subC x1 y1 (subC x0 y0 0))) = c3 at *
  refine ⟨_, _, _, _, rfl, u0, u1, u2, u3, ?_, hb⟩
  obtain ⟨hv, _⟩ := hv
  unfold top4 at *
  omega
end Go.Proofs.Ytmpbbodafenonaa

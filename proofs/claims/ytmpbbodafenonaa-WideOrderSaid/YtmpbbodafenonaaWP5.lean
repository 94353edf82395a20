/- Plain words on the wide package's products of many, and on the document's. -/
import Derived.Test.YtmpbbodafenonaaWP6
import Derived.Test.YtmpbbodafenonaaMT0
import Derived.Test.YtmpbbodafenonaaMT4
set_option linter.unusedVariables false
set_option linter.unusedSimpArgs false
namespace Go.Proofs.Ytmpbbodafenonaa
open Go Go.RowKit Go.Proofs.Ytmpbbodafenonaa.MT Go.Proofs.YtmpbbodafenonaaW.PrintWords Go.Proofs.YtmpbbodafenonaaW.PrintLast
theorem mul_spl (m n : Bool) {u v : Int} (hu0 : 0 ≤ u) (hu1 : u < top4) (hv0 : 0 ≤ v) (hv1 : v < top4) :
    wide_mul.f m (spl0 u) (spl1 u) (spl2 u) (spl3 u) n (spl0 v) (spl1 v) (spl2 v) (spl3 v) = some ((!(m == n)) && !decide ((u * v) % top4 = 0), spl0 ((u * v) % top4), spl1 ((u * v) % top4), spl2 ((u * v) % top4), spl3 ((u * v) % top4), decide (u * v < top4)) := by
  show wide_mul_f _ _ _ _ _ _ _ _ _ _ = _
  unfold wide_mul_f
  rw [if_pos ⟨u4_spl u, u4_spl v⟩, val4_spl hu0 hu1, val4_spl hv0 hv1]
theorem sv_mul (z : Int) (n : Bool) {v : Int} (hv0 : 0 ≤ v) : ((z * sv n v).natAbs : Int) = z.natAbs * v ∧ decide (z * sv n v < 0) = ((!(decide (z < 0) == n)) && !decide ((z.natAbs : Int) * v = 0)) := by
  obtain ⟨t, ht⟩ : ∃ t : Int, t = z.natAbs * v := ⟨_, rfl⟩
  have ht0 : 0 ≤ t := by rw [ht]; exact Int.mul_nonneg (by omega) hv0
  have key : z * sv n v = if (decide (z < 0) == n) = true then t else -t := by
    by_cases hz : z < 0
    · have e : (z.natAbs : Int) = -z := by omega
      rw [ht, e, decide_eq_true hz]
      cases n <;> simp [sv, Int.neg_mul, Int.mul_neg]
    · have e : (z.natAbs : Int) = z := by omega
      rw [ht, e, decide_eq_false hz]
      cases n <;> simp [sv, Int.neg_mul, Int.mul_neg]
  rw [← ht, key]
  cases h : (decide (z < 0) == n)
  · simp only [Bool.false_eq_true, if_false]
    refine ⟨by omega, ?_⟩
    by_cases h0 : t = 0
    · subst h0; rfl
    · rw [decide_eq_true (by omega), decide_eq_false h0]; rfl
  · simp only [if_true]
    refine ⟨by omega, ?_⟩
    rw [decide_eq_false (by omega)]; rfl
/-- A number times one of the program's. -/
theorem mul_step (z : Int) (n : Bool) {v : Int} (hz : (z.natAbs : Int) < top4) (hv0 : 0 ≤ v) (hv1 : v < top4) :
    (((z * sv n v).natAbs : Int) < top4 → wide_mul.f (decide (z < 0)) (spl0 z.natAbs) (spl1 z.natAbs) (spl2 z.natAbs) (spl3 z.natAbs) n (spl0 v) (spl1 v) (spl2 v) (spl3 v) = some (decide (z * sv n v < 0), spl0 (z * sv n v).natAbs, spl1 (z * sv n v).natAbs, spl2 (z * sv n v).natAbs, spl3 (z * sv n v).natAbs, true)) ∧
    (¬ ((z * sv n v).natAbs : Int) < top4 → ∃ r1 r2 r3 r4 r5, wide_mul.f (decide (z < 0)) (spl0 z.natAbs) (spl1 z.natAbs) (spl2 z.natAbs) (spl3 z.natAbs) n (spl0 v) (spl1 v) (spl2 v) (spl3 v) = some (r1, r2, r3, r4, r5, false)) := by
  obtain ⟨e1, e2⟩ := sv_mul z n hv0
  have hp := Int.mul_nonneg (show (0 : Int) ≤ z.natAbs by omega) hv0
  rw [mul_spl _ n (show (0 : Int) ≤ z.natAbs by omega) hz hv0 hv1, e1]
  constructor
  · intro h
    rw [Int.emod_eq_of_lt hp h, e2, decide_eq_true h]
  · intro h
    exact ⟨_, _, _, _, _, by rw [decide_eq_false h]⟩
/-- The program's products. -/
theorem wmul_loop (l : List S27) (hl : l.length ≤ 1000) (hok : ∀ x ∈ l, OkS x) : ∀ (d n : Nat), d = l.length - n → n ≤ l.length → ∀ z : Int, (n = 0 → z = 1) → (z.natAbs : Int) < top4 →
    Ev (fun k => wide_Mul.l0 k l (l.length : Int) (n : Int) (decide (z < 0)) (spl0 z.natAbs) (spl1 z.natAbs) (spl2 z.natAbs) (spl3 z.natAbs)) (resW (goOn (· * ·) ((l.drop n).map val27) z)) := by
  intro d
  induction d with
  | zero =>
    intro n hd hn z h0 hz
    have e : n = l.length := by omega
    subst e
    refine Ev.step (f := fun _ => some (resW (some z))) (fun k => ?_) ?_
    · simp only [wide_Mul.l0]
      rw [if_neg (by omega)]
      rfl
    · rw [List.drop_length]; exact Ev.now _
  | succ d ih =>
    intro n hd hn z h0 hz
    have hlt : n < l.length := by omega
    obtain ⟨v, v0, v1, x0, x1, x2, x3, hv⟩ := okS (hok _ (rd_mem l n hlt))
    rw [rd_drop l n hlt, List.map_cons]
    obtain ⟨m1, m2⟩ := mul_step z (rd_T27 l (n : Int)).f0 hz v0 v1
    unfold goOn
    rw [hv]
    by_cases hf : ((z * sv (rd_T27 l (n : Int)).f0 v).natAbs : Int) < top4
    · rw [if_pos hf]
      refine Ev.step (f := fun k => wide_Mul.l0 k l (l.length : Int) ((n + 1 : Nat) : Int) (decide (z * sv (rd_T27 l (n : Int)).f0 v < 0)) (spl0 (z * sv (rd_T27 l (n : Int)).f0 v).natAbs) (spl1 (z * sv (rd_T27 l (n : Int)).f0 v).natAbs) (spl2 (z * sv (rd_T27 l (n : Int)).f0 v).natAbs) (spl3 (z * sv (rd_T27 l (n : Int)).f0 v).natAbs)) (fun k => ?_) (ih (n + 1) (by omega) hlt _ (fun h => by omega) hf)
      simp only [wide_Mul.l0]
      rw [if_pos (by omega), if_pos (by omega), if_pos (by omega), x0, x1, x2, x3, m1 hf]
      simp only [Option.bind_some, if_true]
      rw [w64 (x := (n : Int) + 1) (by omega) (by omega)]
      by_cases hn0 : n = 0
      · rw [if_pos (by omega), of_spl _ v0 v1]
        simp only [Option.bind_some]
        have hz1 := h0 hn0
        have e1 : z * sv (rd_T27 l (n : Int)).f0 v = sv (rd_T27 l (n : Int)).f0 v := by rw [hz1, Int.one_mul]
        rw [e1]
        have e2 : ((sv (rd_T27 l (n : Int)).f0 v).natAbs : Int) = v := by unfold sv; split <;> omega
        have e3 : decide (sv (rd_T27 l (n : Int)).f0 v < 0) = ((rd_T27 l (n : Int)).f0 && !decide (v = 0)) := by
          unfold sv
          cases (rd_T27 l (n : Int)).f0
          · simp; omega
          · by_cases hv0 : v = 0
            · simp [hv0]
            · simp [hv0]; omega
        rw [e2, e3]
        rfl
      · rw [if_neg (by omega)]
        rfl
    · rw [if_neg hf]
      obtain ⟨r1, r2, r3, r4, r5, hr⟩ := m2 hf
      refine Ev.step (f := fun _ => some (resW none)) (fun k => ?_) (Ev.now _)
      simp only [wide_Mul.l0]
      rw [if_pos (by omega), if_pos (by omega), if_pos (by omega), x0, x1, x2, x3, hr]
      simp only [Option.bind_some, Bool.false_eq_true, if_false]
      by_cases hn0 : n = 0
      · rw [if_pos (by omega), of_spl _ v0 v1]
        rfl
      · rw [if_neg (by omega)]
        rfl
theorem mul_ev (l : List S27) (hl : l.length ≤ 1000) (hok : ∀ x ∈ l, OkS x) : Ev (fun k => wide_Mul.f k l) (resW (goOn (· * ·) (l.map val27) 1)) := by
  have h := wmul_loop l hl hok l.length 0 (by omega) (by omega) 1 (fun _ => rfl) (by decide)
  refine Ev.congr (fun k => ?_) h
  unfold wide_Mul.f
  rw [Of_nonneg (by decide) (by decide)]
  rfl
end Go.Proofs.Ytmpbbodafenonaa

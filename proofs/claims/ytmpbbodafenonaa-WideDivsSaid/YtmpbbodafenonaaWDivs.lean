/- Plain words on the wide package's DivMod. -/
import Derived.Test.YtmpbbodafenonaaWP2
import Derived.Test.YtmpbbodafenonaaDivNo
import Derived.Test.YtmpbbodafenonaaMT2
import Derived.Test.YtmpbbodafenonaaMT5
set_option linter.unusedVariables false
set_option linter.unusedSimpArgs false
namespace Go.Proofs.Ytmpbbodafenonaa
open Go Go.RowKit Go.Proofs.Ytmpbbodafenonaa.MT Go.Proofs.YtmpbbodafenonaaW.PrintWords Go.Proofs.YtmpbbodafenonaaW.PrintLast
theorem sv_of (s : Bool) (q : Int) : sv (s && !decide (q = 0)) q = sv s q := by
  unfold sv
  by_cases h : q = 0
  · subst h; cases s <;> rfl
  · cases s <;> simp [h]
theorem sv_flip (s : Bool) (q v : Int) : sv (!s) q * sv s v = -(q * v) ∧ sv s q * sv s v = q * v := by
  unfold sv
  cases s <;> simp [Int.neg_mul, Int.mul_neg]
/-- The quotient times the divisor, and what is left. -/
theorem divmod_ev (m n : Bool) {u v : Int} (hu0 : 0 ≤ u) (hu1 : u < top4) (hv0 : 0 < v) (hv1 : v < top4) : ∃ (s : Bool) (q r : Int), 0 ≤ q ∧ q < top4 ∧ 0 ≤ r ∧ r < v ∧ sv s q * sv n v + r = sv m u ∧
    Ev (fun k => wide_DivMod.f k m (spl0 u) (spl1 u) (spl2 u) (spl3 u) n (spl0 v) (spl1 v) (spl2 v) (spl3 v)) (s, spl0 q, spl1 q, spl2 q, spl3 q, false, spl0 r, spl1 r, spl2 r, spl3 r, 0) := by
  have hr0 := Int.emod_nonneg u (show v ≠ 0 by omega)
  have hr1 := Int.emod_lt_of_pos u hv0
  have hq0 : 0 ≤ u / v := Int.ediv_nonneg hu0 (by omega)
  have hq1 : u / v < top4 := Int.lt_of_le_of_lt (Int.ediv_le_self _ hu0) hu1
  have hdm := Int.mul_ediv_add_emod u v
  have hfit := div_fits hu0 hu1 hv0
  obtain ⟨q, hq⟩ : ∃ q, q = u / v := ⟨_, rfl⟩
  obtain ⟨r, hr⟩ : ∃ r, r = u % v := ⟨_, rfl⟩
  have hdiv : wide_divide.f (spl0 u) (spl1 u) (spl2 u) (spl3 u) (spl0 v) (spl1 v) (spl2 v) (spl3 v) = some (spl0 q, spl1 q, spl2 q, spl3 q, spl0 r, spl1 r, spl2 r, spl3 r) := by
    show wide_divide_f _ _ _ _ _ _ _ _ = _
    unfold wide_divide_f
    rw [val4_spl hu0 hu1, val4_spl (by omega) hv1, if_pos ⟨u4_spl u, u4_spl v, hv0⟩, hq, hr]
  rw [← hq] at hq0 hq1 hdm hfit
  rw [← hr] at hr0 hr1 hdm hfit
  have hstart : ∀ (R : Bool × Int × Int × Int × Int × Bool × Int × Int × Int × Int × Int), Ev (fun k => if m = true then (wide_DivMod.j0 k (!decide (r = 0)) m (spl0 u) (spl1 u) (spl2 u) (spl3 u) n (spl0 v) (spl1 v) (spl2 v) (spl3 v) (spl0 q) (spl1 q) (spl2 q) (spl3 q) (spl0 r) (spl1 r) (spl2 r) (spl3 r)) else (wide_DivMod.j0 k false m (spl0 u) (spl1 u) (spl2 u) (spl3 u) n (spl0 v) (spl1 v) (spl2 v) (spl3 v) (spl0 q) (spl1 q) (spl2 q) (spl3 q) (spl0 r) (spl1 r) (spl2 r) (spl3 r))) R →
      Ev (fun k => wide_DivMod.f k m (spl0 u) (spl1 u) (spl2 u) (spl3 u) n (spl0 v) (spl1 v) (spl2 v) (spl3 v)) R := by
    intro R h
    refine Ev.congr (fun k => ?_) h
    unfold wide_DivMod.f
    rw [none_spl (by omega) hv1]
    simp only [Option.bind_some]
    rw [if_neg (by simp; omega), hdiv]
    simp only [Option.bind_some]
    rw [none_spl hr0 (by omega)]
    rfl
  have hno : ∀ (x : Bool), x = false → Ev (fun k => wide_DivMod.j0 k x m (spl0 u) (spl1 u) (spl2 u) (spl3 u) n (spl0 v) (spl1 v) (spl2 v) (spl3 v) (spl0 q) (spl1 q) (spl2 q) (spl3 q) (spl0 r) (spl1 r) (spl2 r) (spl3 r)) ((!(m == n)) && !decide (q = 0), spl0 q, spl1 q, spl2 q, spl3 q, false, spl0 r, spl1 r, spl2 r, spl3 r, 0) := by
    rintro x rfl
    refine Ev.step (f := fun _ => some ((!(m == n)) && !decide (q = 0), spl0 q, spl1 q, spl2 q, spl3 q, false, spl0 r, spl1 r, spl2 r, spl3 r, 0)) (fun k => ?_) (Ev.now _)
    simp only [wide_DivMod.j0]
    rw [if_neg (by decide), of_spl _ hq0 hq1, of_spl _ hr0 (by omega)]
    rfl
  by_cases hc : m = true ∧ r ≠ 0
  · obtain ⟨rfl, hrn⟩ := hc
    have hf := hfit hrn
    refine ⟨(!(true == n)) && !decide (q + 1 = 0), q + 1, v - r, by omega, hf, by omega, by omega, ?_, hstart _ ?_⟩
    · rw [sv_of]
      have h1 := (sv_flip n (q + 1) v).1
      have h2 : (!(true == n)) = !n := by cases n <;> rfl
      rw [h2, h1]
      show _ = -u
      rw [← hdm, Int.add_mul, Int.mul_comm q v]
      omega
    · refine Ev.congr (fun k => if_pos rfl) ?_
      rw [decide_eq_false hrn]
      refine Ev.step (f := fun _ => some ((!(true == n)) && !decide (q + 1 = 0), spl0 (q + 1), spl1 (q + 1), spl2 (q + 1), spl3 (q + 1), false, spl0 (v - r), spl1 (v - r), spl2 (v - r), spl3 (v - r), 0)) (fun k => ?_) (Ev.now _)
      simp only [wide_DivMod.j0]
      rw [if_pos (by decide)]
      have hp : wide_plus.f (spl0 q) (spl1 q) (spl2 q) (spl3 q) 1 0 0 0 = some (spl0 (q + 1), spl1 (q + 1), spl2 (q + 1), spl3 (q + 1), true) := by
        show wide_plus_f _ _ _ _ _ _ _ _ = _
        unfold wide_plus_f
        rw [if_pos ⟨u4_spl _, by decide⟩, val4_spl hq0 hq1, show val4 1 0 0 0 = 1 from rfl, Int.emod_eq_of_lt (by omega) hf, decide_eq_true hf]
      have hl : wide_less.f (spl0 v) (spl1 v) (spl2 v) (spl3 v) (spl0 r) (spl1 r) (spl2 r) (spl3 r) = some (spl0 (v - r), spl1 (v - r), spl2 (v - r), spl3 (v - r)) := by
        show wide_less_f _ _ _ _ _ _ _ _ = _
        unfold wide_less_f
        rw [if_pos ⟨u4_spl v, u4_spl r⟩, val4_spl (by omega) hv1, val4_spl hr0 (by omega), Int.emod_eq_of_lt (by omega) (by omega)]
      rw [hp]
      simp only [Option.bind_some, if_true]
      rw [hl]
      simp only [Option.bind_some]
      rw [of_spl _ (by omega) hf, of_spl _ (by omega) (by omega)]
      rfl
  · refine ⟨(!(m == n)) && !decide (q = 0), q, r, hq0, hq1, hr0, hr1, ?_, hstart _ ?_⟩
    · rw [sv_of]
      cases m
      · have h2 : (!(false == n)) = n := by cases n <;> rfl
        rw [h2, (sv_flip n q v).2]
        show q * v + r = u
        rw [Int.mul_comm]
        exact hdm
      · have h2 : (!(true == n)) = !n := by cases n <;> rfl
        have hz : r = 0 := Classical.byContradiction fun h => hc ⟨rfl, h⟩
        rw [h2, (sv_flip n q v).1]
        show -(q * v) + r = -u
        rw [Int.mul_comm q v]
        omega
    · cases m
      · exact Ev.congr (fun k => if_neg (by decide)) (hno false rfl)
      · have hz : r = 0 := Classical.byContradiction fun h => hc ⟨rfl, h⟩
        exact Ev.congr (fun k => if_pos rfl) (hno (!decide (r = 0)) (by rw [decide_eq_true hz]; rfl))
end Go.Proofs.Ytmpbbodafenonaa

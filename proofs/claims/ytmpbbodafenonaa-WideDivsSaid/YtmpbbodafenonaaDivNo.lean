/- The wide package's DivMod never tells that its quotient lies beyond. -/
import Derived.Test.YtmpbbodafenonaaMT2
import Derived.Test.YtmpbbodafenonaaMT5
import Derived.Test.YtmpbbodafenonaaMT7
set_option linter.unusedVariables false
set_option linter.unusedSimpArgs false
namespace Go.Proofs.Ytmpbbodafenonaa.MT
open Go Go.RowKit Go.Proofs.YtmpbbodafenonaaW.PrintWords Go.Proofs.YtmpbbodafenonaaW.PrintLast
theorem bind_of {α β : Type} {x : Option α} {f : α → Option β} {r : β} (h : x.bind f = some r) : ∃ a, x = some a ∧ f a = some r := Option.bind_eq_some_iff.1 h
/-- The numbers that a division takes. -/
theorem divide_U {a b c d e f g h : Int} {r : Int × Int × Int × Int × Int × Int × Int × Int} (k : wide_divide.f a b c d e f g h = some r) :
    0 < val4 e f g h ∧ r = (spl0 (val4 a b c d / val4 e f g h), spl1 (val4 a b c d / val4 e f g h), spl2 (val4 a b c d / val4 e f g h), spl3 (val4 a b c d / val4 e f g h), spl0 (val4 a b c d % val4 e f g h), spl1 (val4 a b c d % val4 e f g h), spl2 (val4 a b c d % val4 e f g h), spl3 (val4 a b c d % val4 e f g h)) ∧ 0 ≤ val4 a b c d ∧ val4 a b c d < top4 ∧ val4 e f g h < top4 := by
  have k2 : wide_divide_f a b c d e f g h = some r := k
  unfold wide_divide_f at k2
  split at k2
  · rename_i hc
    have b1 := u4_iff.1 hc.1
    have b2 := u4_iff.1 hc.2.1
    have c1 := val4_bound b1.1 b1.2.1 b1.2.2.1 b1.2.2.2
    have c2 := val4_bound b2.1 b2.2.1 b2.2.2.1 b2.2.2.2
    exact ⟨hc.2.2, (Option.some.inj k2).symm, c1.1, c1.2, c2.2⟩
  · cases k2
theorem div_fits {u v : Int} (h0 : 0 ≤ u) (h1 : u < top4) (hv : 0 < v) (hr : u % v ≠ 0) : u / v + 1 < top4 := by
  have hv2 : 2 ≤ v := by
    rcases Int.lt_or_le v 2 with h | h
    · have : v = 1 := by omega
      subst this
      exact absurd (Int.emod_one u) hr
    · exact h
  have h2 := Int.mul_ediv_add_emod u v
  have h3 := Int.emod_nonneg u (show v ≠ 0 by omega)
  have h4 : 0 ≤ u / v := Int.ediv_nonneg h0 (by omega)
  have h5 := Int.mul_le_mul_of_nonneg_right hv2 h4
  omega
theorem DivMod_no10 {k : Nat} {m : Bool} {a b c d : Int} {n : Bool} {e f g h : Int} {r1 : Bool} {r2 r3 r4 r5 : Int} {r6 : Bool} {r7 r8 r9 r10 r11 : Int} (hd : wide_DivMod.f k m a b c d n e f g h = some (r1, r2, r3, r4, r5, r6, r7, r8, r9, r10, r11)) : ¬ r11 = 10 := by
  intro he
  subst he
  unfold wide_DivMod.f at hd
  obtain ⟨t, ht, hd⟩ := bind_of hd
  by_cases h1 : t = true
  · rw [if_pos h1] at hd
    simp at hd
  · rw [if_neg h1] at hd
    obtain ⟨q, hq, hd⟩ := bind_of hd
    obtain ⟨hv, rfl, u0, u1, v1⟩ := divide_U hq
    have hr0 := Int.emod_nonneg (val4 a b c d) (show val4 e f g h ≠ 0 by omega)
    have hr1 := Int.emod_lt_of_pos (val4 a b c d) hv
    have hq0 : 0 ≤ val4 a b c d / val4 e f g h := Int.ediv_nonneg u0 (by omega)
    have hq1 : val4 a b c d / val4 e f g h < top4 := Int.lt_of_le_of_lt (Int.ediv_le_self _ u0) u1
    have hj : ∀ (kk : Nat) (x : Bool), (x = true → val4 a b c d % val4 e f g h ≠ 0) → ¬ wide_DivMod.j0 kk x m a b c d n e f g h (spl0 (val4 a b c d / val4 e f g h)) (spl1 (val4 a b c d / val4 e f g h)) (spl2 (val4 a b c d / val4 e f g h)) (spl3 (val4 a b c d / val4 e f g h)) (spl0 (val4 a b c d % val4 e f g h)) (spl1 (val4 a b c d % val4 e f g h)) (spl2 (val4 a b c d % val4 e f g h)) (spl3 (val4 a b c d % val4 e f g h)) = some (r1, r2, r3, r4, r5, r6, r7, r8, r9, r10, 10) := by
      intro kk x hx hj
      cases kk with
      | zero => simp [wide_DivMod.j0] at hj
      | succ kk =>
        simp only [wide_DivMod.j0] at hj
        cases x
        · rw [if_neg (by decide)] at hj
          obtain ⟨y, hy, hj⟩ := bind_of hj
          obtain ⟨z, hz, hj⟩ := bind_of hj
          simp at hj
        · rw [if_pos rfl] at hj
          obtain ⟨y, hy, hj⟩ := bind_of hj
          have hp : wide_plus.f (spl0 (val4 a b c d / val4 e f g h)) (spl1 (val4 a b c d / val4 e f g h)) (spl2 (val4 a b c d / val4 e f g h)) (spl3 (val4 a b c d / val4 e f g h)) 1 0 0 0 = some (spl0 ((val4 a b c d / val4 e f g h + 1) % top4), spl1 ((val4 a b c d / val4 e f g h + 1) % top4), spl2 ((val4 a b c d / val4 e f g h + 1) % top4), spl3 ((val4 a b c d / val4 e f g h + 1) % top4), decide (val4 a b c d / val4 e f g h + 1 < top4)) := by
            show wide_plus_f _ _ _ _ _ _ _ _ = _
            unfold wide_plus_f
            rw [if_pos ⟨u4_spl _, by decide⟩, val4_spl hq0 hq1]
            rfl
          rw [hp] at hy
          have hy := (Option.some.inj hy).symm
          subst hy
          rw [if_pos (decide_eq_true (div_fits u0 u1 hv (hx rfl)))] at hj
          obtain ⟨y, hy, hj⟩ := bind_of hj
          obtain ⟨z, hz, hj⟩ := bind_of hj
          obtain ⟨w, hw, hj⟩ := bind_of hj
          simp at hj
    cases m
    · rw [if_neg (by decide)] at hd
      exact hj k false (fun h => by cases h) hd
    · rw [if_pos rfl] at hd
      obtain ⟨y, hy, hd⟩ := bind_of hd
      have hn := none_spl hr0 (Int.lt_trans hr1 v1)
      rw [hn] at hy
      have hy := (Option.some.inj hy).symm
      subst hy
      refine hj k _ (fun h0 => ?_) hd
      simpa using h0
end Go.Proofs.Ytmpbbodafenonaa.MT

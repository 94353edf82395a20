/- The law TokenBack of the given program, as a plain statement on words and numbers, is proved at every input; no condition. -/
import Derived.Test.YtajfaieiabnknaaPNumber
import Derived.Test.YtajfaieiabnknaaPText
import Derived.Test.YtajfaieiabnknaaMT6
namespace Go.Proofs.Ytajfaieiabnknaa.Pure
open Go Go.RowKit Go.Proofs.Ytajfaieiabnknaa.MT Go.Proofs.YtajfaieiabnknaaW.PrintWords Go.Proofs.YtajfaieiabnknaaW.PrintLast

theorem isD_false {l : List Int} {c : Int} (h : c ∈ l) (hc : ¬ (48 ≤ c ∧ c ≤ 57)) : isD l = false := isD_mem h hc
theorem TokenBack : parquetlaw02_TokenBack.Pure := by
  intro n most hn hm
  have hn : -9223372036854775808 ≤ n ∧ n ≤ 9223372036854775807 := by simpa [Lit.wf, IntKind.min, IntKind.max, IntKind.signed, IntKind.bits] using hn
  have hm : -9223372036854775808 ≤ most ∧ most ≤ 9223372036854775807 := by simpa [Lit.wf, IntKind.min, IntKind.max, IntKind.signed, IntKind.bits] using hm
  have p20 : (10 : Int) ^ 20 = 100000000000000000000 := by decide
  obtain ⟨q, hq, hQ⟩ := small_ev n hn.1 hn.2
  obtain ⟨D, s, hs, hb, hD, hv, hne, h48⟩ := text_ev hQ (by decide) 20 (by omega) (by omega) (by decide)
  have hlenD : D.length ≤ 20 := by
    by_cases h : D.head? = some 48
    · rw [h48 h]; decide
    · have h1 := val_big hD h (List.length_pos_iff.2 hne)
      rcases Nat.lt_or_ge 20 D.length with h2 | h2
      · exfalso
        have h3 : (10 : Int) ^ 20 ≤ 10 ^ (D.length - 1) := by
          have : (10 : Nat) ^ 20 ≤ 10 ^ (D.length - 1) := Nat.pow_le_pow_right (by decide) (by omega)
          exact_mod_cast this
        omega
      · exact h2
  have hsz : s.size ≤ 21 := by
    rw [← bytesOf_length, hb]
    split
    · rw [List.length_cons]; omega
    · omega
  have hdg : ∀ c, D.head? = some c → 48 ≤ c ∧ c ≤ 57 := by
    intro c hc
    cases D with
    | nil => simp at hc
    | cons a t =>
      simp at hc
      subst hc
      simp [isD] at hD
      exact hD.1
  have hh45 : n < 0 ∨ (bytesOf s).head? ≠ some 45 := by
    by_cases h : n < 0
    · exact Or.inl h
    · right
      rw [hb, if_neg h]
      intro h2
      have := hdg 45 h2
      omega
  have hds : digsOf (bytesOf s) = D := by
    unfold digsOf
    rw [hb]
    by_cases h : n < 0
    · rw [if_pos h]
      simp
    · rw [if_neg h, if_neg]
      intro h2
      have := hdg 45 h2
      omega
  have hno : ¬ (digsOf (bytesOf s) = [] ∨ ((digsOf (bytesOf s)).head? = some 48 ∧ bytesOf s ≠ [48]) ∨ isD (digsOf (bytesOf s)) = false) := by
    rw [hds]
    rintro (h | ⟨h1, h2⟩ | h)
    · exact hne h
    · apply h2
      have h3 := h48 h1
      have h4 : n.natAbs = 0 := by
        rw [h3] at hv
        have : valD [48] = 0 := by decide
        omega
      rw [hb, if_neg (by omega), h3]
    · rw [hD] at h; cases h
  have hnum : token_Number.f s most = some (if most < 0 ∨ most < n.natAbs then (0, 10) else (n, 0)) := by
    unfold token_Number.f
    rw [if_pos ⟨by omega, hm.2, hm.1⟩]
    by_cases hf : farD most D = true
    · rw [numS_far hno (by rw [hds]; exact hf)]
      have : most < 0 ∨ most < n.natAbs := by
        simp [farD] at hf
        rw [← hv]
        exact hf
      rw [if_pos this]
    · rw [numS_ok hno (by rw [hds]; simpa using hf), hds, hv]
      have : ¬ (most < 0 ∨ most < n.natAbs) := by
        simp [farD] at hf
        rw [← hv]
        omega
      rw [if_neg this]
      by_cases h : n < 0
      · rw [if_pos (by rw [hb, if_pos h]; rfl)]
        simp
        omega
      · rw [if_neg (by rcases hh45 with h2 | h2; exact absurd h2 h; exact h2)]
        simp
        omega
  have hbad : ∀ (t : ByteArray) (l : List Int), bytesOf t = l → l ≠ [] → t.size ≤ 10 → (digsOf (l ++ bytesOf s) = [] ∨ ((digsOf (l ++ bytesOf s)).head? = some 48 ∧ (l ++ bytesOf s) ≠ [48]) ∨ isD (digsOf (l ++ bytesOf s)) = false) → token_Number.f (t ++ s) most = some (0, 11) := by
    intro t l ht hl hsz2 h
    unfold token_Number.f
    rw [if_pos ⟨by rw [ByteArray.size_append]; omega, hm.2, hm.1⟩]
    have := numS_bad (most := most) h
    rw [bytes_append, ht, this]
  have hsn : bytesOf s ≠ [] := by
    rw [hb]
    split
    · simp
    · exact hne
  have b1 := hbad ⟨#[48]⟩ [48] rfl (by simp) (by decide) (.inr (.inl ⟨rfl, by
    intro h
    apply hsn
    simpa using h⟩))
  have b2 := hbad ⟨#[45, 45]⟩ [45, 45] rfl (by simp) (by decide) (.inr (.inr (isD_false (c := 45) (by simp [digsOf]) (by omega))))
  have b3 := hbad ⟨#[43]⟩ [43] rfl (by simp) (by decide) (.inr (.inr (isD_false (c := 43) (by simp [digsOf]) (by omega))))
  have hj1 : Ev (fun k => parquetlaw02_TokenBack.j1 k most s false) true := by
    refine Ev.step (f := fun _ => some true) (fun k => ?_) (Ev.now _)
    simp only [parquetlaw02_TokenBack.j1]
    rw [if_neg (by decide), if_pos (by omega), b1]
    simp only [Option.bind_some]
    rw [if_pos (by omega), b2]
    simp only [Option.bind_some]
    rw [b3]
    simp [parquetlaw02_known.f]
  have hin : ∀ c : Bool, (c = true ↔ ¬ (most < 0 ∨ most < n.natAbs)) → Ev (fun k => parquetlaw02_TokenBack.j0 k n most s (if most < 0 ∨ most < n.natAbs then ((0 : Int), (10 : Int)) else (n, 0)).1 (if most < 0 ∨ most < n.natAbs then ((0 : Int), (10 : Int)) else (n, 0)).2 c) true := by
    intro c hc
    refine Ev.step (f := fun k => parquetlaw02_TokenBack.j1 k most s false) (fun k => ?_) hj1
    simp only [parquetlaw02_TokenBack.j0]
    by_cases h : most < 0 ∨ most < n.natAbs
    · have hcf : c = false := by
        cases c with
        | false => rfl
        | true => exact absurd h (hc.1 rfl)
      rw [if_pos h, hcf]
      simp
    · have hct : c = true := hc.2 h
      rw [if_neg h, hct]
      simp
  have hall : Ev (fun k => parquetlaw02_TokenBack.f k n most) true := by
    refine Ev.bind hq (Ev.bind hs ?_)
    refine Ev.congr (f := fun k => if n ≤ most then (if n ≥ (wrap64 (-most)) then (parquetlaw02_TokenBack.j0 k n most s (if most < 0 ∨ most < n.natAbs then ((0 : Int), (10 : Int)) else (n, 0)).1 (if most < 0 ∨ most < n.natAbs then ((0 : Int), (10 : Int)) else (n, 0)).2 (decide (most ≥ 0))) else (parquetlaw02_TokenBack.j0 k n most s (if most < 0 ∨ most < n.natAbs then ((0 : Int), (10 : Int)) else (n, 0)).1 (if most < 0 ∨ most < n.natAbs then ((0 : Int), (10 : Int)) else (n, 0)).2 false)) else (parquetlaw02_TokenBack.j0 k n most s (if most < 0 ∨ most < n.natAbs then ((0 : Int), (10 : Int)) else (n, 0)).1 (if most < 0 ∨ most < n.natAbs then ((0 : Int), (10 : Int)) else (n, 0)).2 false)) (fun k => by rw [hnum]; rfl) ?_
    have hw : most ≤ -9223372036854775808 ∨ wrap64 (-most) = -most := by
      by_cases h : most ≤ -9223372036854775808
      · exact Or.inl h
      · exact Or.inr (w64 (by omega) (by omega))
    by_cases h1 : n ≤ most
    · by_cases h2 : n ≥ wrap64 (-most)
      · refine Ev.congr (fun k => by rw [if_pos h1, if_pos h2]) (hin _ ?_)
        rw [decide_eq_true_eq]
        rcases hw with h | h
        · omega
        · rw [h] at h2; omega
      · refine Ev.congr (fun k => by rw [if_pos h1, if_neg h2]) (hin _ ?_)
        simp only [Bool.false_eq_true, false_iff]
        rcases hw with h | h
        · omega
        · rw [h] at h2; omega
    · refine Ev.congr (fun k => by rw [if_neg h1]) (hin _ ?_)
      simp only [Bool.false_eq_true, false_iff]
      omega
  exact hall.rounds
end Go.Proofs.Ytajfaieiabnknaa.Pure

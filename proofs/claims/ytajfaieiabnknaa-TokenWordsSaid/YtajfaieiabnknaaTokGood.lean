/- Plain words on words: each stands in the bytes at its place, has no blank, does not begin with a sharp, and has blanks about it. -/
import Derived.Test.YtajfaieiabnknaaTokSpec
set_option linter.unusedVariables false
set_option linter.unusedSimpArgs false
namespace Go.Proofs.Ytajfaieiabnknaa
open Go

/-- A word as it should be. -/
structure WOK (xs : List Int) (q : Nat) (acc : List Int) : Prop where
  pos : 0 < acc.length
  fits : q + acc.length ≤ xs.length
  mid : (xs.take (q + acc.length)).drop q = acc
  head : acc.getD 0 0 ≠ 35
  plain : ∀ c ∈ acc, blk c = false
  behind : q + acc.length < xs.length → blk (xs.getD (q + acc.length) 0) = true
  ahead : 0 < q → blk (xs.getD (q - 1) 0) = true

/-- Words that rise from a place on. -/
def Good (xs : List Int) : Nat → List (Nat × List Int) → Prop
  | _, [] => True
  | last, (q, acc) :: t => last ≤ q ∧ WOK xs q acc ∧ Good xs (q + acc.length) t

theorem Good.mono {xs : List Int} {a b : Nat} {l : List (Nat × List Int)} (h : Good xs b l) (hab : a ≤ b) : Good xs a l := by
  cases l with
  | nil => trivial
  | cons x t => exact ⟨Nat.le_trans hab h.1, h.2.1, h.2.2⟩

theorem getD_drop0 {xs : List Int} {p : Nat} {c : Int} {t : List Int} (h : xs.drop p = c :: t) : p < xs.length ∧ xs.getD p 0 = c ∧ xs.drop (p + 1) = t := by
  have hp : p < xs.length := by
    rcases Nat.lt_or_ge p xs.length with h1 | h1
    · exact h1
    · rw [List.drop_of_length_le h1] at h; cases h
  rw [drop_cons hp] at h
  injection h with h1 h2
  exact ⟨hp, h1, h2⟩

theorem mid_length {xs : List Int} {q p : Nat} (hp : p ≤ xs.length) : ((xs.take p).drop q).length = p - q := by
  rw [List.length_drop, List.length_take]; omega

theorem scan_good (xs : List Int) : ∀ (l : List Int) (p : Nat), xs.drop p = l → p ≤ xs.length →
    ((p = 0 ∨ blk (xs.getD (p - 1) 0) = true) → Good xs p (scan p .out l)) ∧
    (Good xs p (scan p .com l)) ∧
    (∀ q acc, q < p → acc = (xs.take p).drop q → (∀ c ∈ acc, blk c = false) → acc.getD 0 0 ≠ 35 → (0 < q → blk (xs.getD (q - 1) 0) = true) → Good xs q (scan p (.word q acc) l)) := by
  intro l
  induction l with
  | nil =>
    intro p hl hp
    have hpe : p = xs.length := by
      rcases Nat.lt_or_ge p xs.length with h1 | h1
      · rw [drop_cons h1] at hl; cases hl
      · omega
    refine ⟨fun _ => trivial, trivial, fun q acc hq ha hb hh hz => ?_⟩
    have hal : acc.length = p - q := by rw [ha]; exact mid_length hp
    refine ⟨Nat.le_refl _, ⟨by omega, by omega, ?_, hh, hb, fun h => by omega, hz⟩, trivial⟩
    rw [show q + acc.length = p from by omega]
    exact ha.symm
  | cons c t ih =>
    intro p hl hp
    obtain ⟨hlt, hc, ht⟩ := getD_drop0 hl
    obtain ⟨i1, i2, i3⟩ := ih (p + 1) ht (by omega)
    have hc' : xs.getD (p + 1 - 1) 0 = c := by simpa using hc
    refine ⟨fun h0 => ?_, ?_, fun q acc hq ha hb hh hz => ?_⟩
    · simp only [scan]
      split
      · rename_i h
        exact (i1 (.inr (by rw [hc']; exact h))).mono (by omega)
      · rename_i h
        split
        · exact i2.mono (by omega)
        · rename_i h35
          have h1 : blk c = false := by simpa using h
          refine i3 p [c] (by omega) ?_ ?_ ?_ ?_
          · rw [mid_snoc (Nat.le_refl p) hlt, hc]; simp
          · intro d hd; rw [List.mem_singleton.1 hd]; exact h1
          · simpa using h35
          · intro hp0
            rcases h0 with h0 | h0
            · omega
            · exact h0
    · simp only [scan]
      split
      · rename_i h
        exact (i1 (.inr (by rw [hc', h]; rfl))).mono (by omega)
      · exact i2.mono (by omega)
    · have hal : acc.length = p - q := by rw [ha]; exact mid_length hp
      have hmid : (xs.take (q + acc.length)).drop q = acc := by rw [show q + acc.length = p from by omega]; exact ha.symm
      simp only [scan]
      split
      · rename_i h
        refine ⟨Nat.le_refl _, ⟨by omega, by omega, hmid, hh, hb, fun _ => ?_, hz⟩, (i1 (.inr (by rw [hc']; exact h))).mono (by omega)⟩
        rw [show q + acc.length = p from by omega, hc]
        exact h
      · rename_i h
        have h1 : blk c = false := by simpa using h
        refine i3 q (acc ++ [c]) (by omega) ?_ ?_ ?_ hz
        · rw [mid_snoc (by omega) hlt, hc, ha]
        · intro d hd
          rcases List.mem_append.1 hd with hd | hd
          · exact hb d hd
          · rw [List.mem_singleton.1 hd]; exact h1
        · rw [List.getD_eq_getElem?_getD, List.getElem?_append_left (by omega), ← List.getD_eq_getElem?_getD]
          exact hh

theorem toks_good (xs : List Int) : Good xs 0 (toks xs) := (scan_good xs xs 0 rfl (Nat.zero_le _)).1 (.inl rfl)
/-- The words from the k-th on. -/
theorem good_drop {xs : List Int} : ∀ (l : List (Nat × List Int)) (last k : Nat), Good xs last l → ∃ last', Good xs last' (l.drop k) := by
  intro l
  induction l with
  | nil => intro last k _; exact ⟨0, by simp [Good]⟩
  | cons x t ih =>
    intro last k h
    cases k with
    | zero => exact ⟨last, h⟩
    | succ k => exact ih _ k h.2.2
theorem good_at {xs : List Int} {k : Nat} (hk : k < (toks xs).length) : WOK xs ((toks xs)[k]).1 ((toks xs)[k]).2 := by
  obtain ⟨last, h⟩ := good_drop (toks xs) 0 k (toks_good xs)
  rw [List.drop_eq_getElem_cons hk] at h
  exact h.2.1
end Go.Proofs.Ytajfaieiabnknaa

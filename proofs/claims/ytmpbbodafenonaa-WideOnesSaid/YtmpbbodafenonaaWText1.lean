/- Plain words on decimal texts. -/
import Derived.Test.YtmpbbodafenonaaPText
import Derived.Test.YtmpbbodafenonaaMT22
set_option linter.unusedVariables false
set_option linter.unusedSimpArgs false
namespace Go.Proofs.Ytmpbbodafenonaa
open Go Go.RowKit Go.Proofs.Ytmpbbodafenonaa.MT Go.Proofs.YtmpbbodafenonaaW.PrintWords Go.Proofs.YtmpbbodafenonaaW.PrintLast

theorem isD_mem {l : List Int} {c : Int} (h : c ∈ l) (hc : ¬ (48 ≤ c ∧ c ≤ 57)) : isD l = false := by
 cases hd : isD l with
 | false => rfl
 | true =>
  unfold isD at hd
  rw [List.all_eq_true] at hd
  have := hd c h
  simp at this
  exact absurd this hc
theorem byte_at (s : ByteArray) (i : Nat) (h : i < s.size) : (bytesOf s)[i]? = some ((s[i]'h).toNat : Int) := by
 rw [List.getElem?_eq_getElem (by rw [bytesOf_length]; exact h)]
 simp [bytesOf]
 rfl
theorem bt_nat (s : ByteArray) (i : Nat) (h : i < s.size) : bt s (i : Int) = ((s[i]'h).toNat : Int) := by
 unfold bt
 rw [dif_pos (by simpa using h)]
 simp
theorem bt_byte (s : ByteArray) (i : Nat) (h : i < s.size) : (bytesOf s).getD i 0 = bt s (i : Int) := by
 rw [List.getD_eq_getElem?_getD, byte_at s i h, bt_nat s i h]; rfl
theorem val_ge_pow (t : List Int) (h : isD t = true) (n : Int) (hn : 1 ≤ n) : (10 : Int) ^ t.length ≤ t.foldl (fun n c => 10 * n + (c - 48)) n := by
 induction t generalizing n with
 | nil => simpa using hn
 | cons c t ih =>
  simp [isD] at h
  have h1 := ih (by simpa [isD] using h.2) (10 * n + (c - 48)) (by omega)
  have hp : (0 : Int) < 10 ^ t.length := Int.pow_pos (by decide)
  simp only [List.length_cons, List.foldl_cons]
  -- the fold grows by ten for each digit
  have h2 : ∀ (t : List Int), isD t = true → ∀ a b : Int, a ≤ b → t.foldl (fun n c => 10 * n + (c - 48)) a + 10 ^ t.length * (b - a) ≤ t.foldl (fun n c => 10 * n + (c - 48)) b := by
   intro t
   induction t with
   | nil => intro _ a b hab; simp; omega
   | cons c t ih2 =>
    intro ht a b hab
    simp [isD] at ht
    have := ih2 (by simpa [isD] using ht.2) (10 * a + (c - 48)) (10 * b + (c - 48)) (by omega)
    simp only [List.length_cons, List.foldl_cons, Int.pow_succ]
    rw [show (10 : Int) ^ t.length * 10 * (b - a) = 10 ^ t.length * (10 * b + (c - 48) - (10 * a + (c - 48))) by grind]
    exact this
  have h3 := h2 t (by simpa [isD] using h.2) 1 (10 * n + (c - 48)) (by omega)
  have h4 := ih (by simpa [isD] using h.2) 1 (by omega)
  have h5 := Int.mul_le_mul_of_nonneg_left (show (9 : Int) ≤ 10 * n + (c - 48) - 1 by omega) (Int.le_of_lt hp)
  rw [Int.pow_succ]
  omega
theorem val_big {l : List Int} (h : isD l = true) (h0 : l.head? ≠ some 48) (hl : 0 < l.length) : (10 : Int) ^ (l.length - 1) ≤ valD l := by
 cases l with
 | nil => simp at hl
 | cons c t =>
  simp [isD] at h
  have hc : c ≠ 48 := fun e => h0 (by rw [e]; rfl)
  have := val_ge_pow t (by simpa [isD] using h.2) (10 * 0 + (c - 48)) (by omega)
  simpa [valD] using this
theorem isD_at {l : List Int} (h : isD l = true) (i : Nat) (hi : i < l.length) : 48 ≤ l.getD i 0 ∧ l.getD i 0 ≤ 57 := by
 unfold isD at h
 rw [List.all_eq_true] at h
 rw [List.getD_eq_getElem?_getD, List.getElem?_eq_getElem hi]
 have := h _ (List.getElem_mem hi)
 simpa using this
theorem take_snoc' (l : List Int) (i : Nat) (hi : i < l.length) : l.take (i + 1) = l.take i ++ [l.getD i 0] := by
 rw [List.take_succ_eq_append_getElem hi, List.getD_eq_getElem?_getD, List.getElem?_eq_getElem hi]
 rfl
theorem isD_take {l : List Int} (h : isD l = true) (i : Nat) : isD (l.take i) = true := (isD_of_prefix (l := l.take i) (m := l.drop i) (by rw [List.take_append_drop]; exact h)).1
theorem fold_lt (t : List Int) (h : isD t = true) : ∀ n : Int, 0 ≤ n → t.foldl (fun n c => 10 * n + (c - 48)) n < 10 ^ t.length * (n + 1) := by
 induction t with
 | nil => intro n hn; simp; omega
 | cons c t ih =>
  intro n hn
  simp [isD] at h
  have h1 := ih (by simpa [isD] using h.2) (10 * n + (c - 48)) (by omega)
  have hp : (0 : Int) < 10 ^ t.length := Int.pow_pos (by decide)
  have h5 := Int.mul_le_mul_of_nonneg_left (show 10 * n + (c - 48) + 1 ≤ 10 * (n + 1) by omega) (Int.le_of_lt hp)
  simp only [List.length_cons, List.foldl_cons, Int.pow_succ]
  rw [Int.mul_assoc]
  omega
theorem valD_lt_pow {t : List Int} (h : isD t = true) : valD t < 10 ^ t.length := by
 have := fold_lt t h 0 (by omega)
 rw [Int.zero_add, Int.mul_one] at this
 exact this

theorem snoc_form (l : List Int) : l = [] ∨ ∃ t c, l = t ++ [c] := by
 cases h : l.reverse with
 | nil => exact .inl (by simpa using h)
 | cons c t => exact .inr ⟨t.reverse, c, by rw [← List.reverse_reverse l, h]; simp⟩
/-- Digits are told by their number, if no nought stands ahead. -/
theorem valD_uniq : ∀ (n : Nat) (a b : List Int), a.length ≤ n → isD a = true → isD b = true → a.head? ≠ some 48 → b.head? ≠ some 48 → valD a = valD b → a = b := by
 intro n
 induction n with
 | zero =>
  intro a b hl ha hb h1 h2 hv
  have ea : a = [] := List.eq_nil_of_length_eq_zero (by omega)
  subst ea
  rcases snoc_form b with h | ⟨t, c, h⟩
  ·exact h.symm
  ·exfalso
   have hbig := val_big hb h2 (by rw [h]; simp)
   have hp : (0 : Int) < 10 ^ (b.length - 1) := Int.pow_pos (by decide)
   have : valD [] = 0 := rfl
   omega
 | succ n ih =>
  intro a b hl ha hb h1 h2 hv
  have hz : valD [] = 0 := rfl
  rcases snoc_form a with h | ⟨t, x, rfl⟩
  ·subst h
   rcases snoc_form b with h | ⟨t, c, h⟩
   ·exact h.symm
   ·exfalso
    have hbig := val_big hb h2 (by rw [h]; simp)
    have hp : (0 : Int) < 10 ^ (b.length - 1) := Int.pow_pos (by decide)
    omega
  ·rcases snoc_form b with h | ⟨q, y, rfl⟩
   ·exfalso
    subst h
    have hbig := val_big ha h1 (by simp)
    have hp : (0 : Int) < 10 ^ ((t ++ [x]).length - 1) := Int.pow_pos (by decide)
    omega
   ·rw [valD_snoc, valD_snoc] at hv
    rw [isD_snoc] at ha hb
    simp at ha hb
    have hxy : x = y := by omega
    have hvt : valD t = valD q := by omega
    have ht : t.head? ≠ some 48 := by
     cases t with
     | nil => simp
     | cons a s => simpa using h1
    have hq : q.head? ≠ some 48 := by
     cases q with
     | nil => simp
     | cons a s => simpa using h2
    rw [ih t q (by simp at hl; omega) ha.1 hb.1 ht hq hvt, hxy]
/-- A number's decimal digits. -/
def CanD (D : List Int) (v : Int) : Prop := isD D = true ∧ valD D = v ∧ D ≠ [] ∧ (D.head? = some 48 → D = [48])
theorem can_pos {D : List Int} {v : Int} (h : CanD D v) (hv : v ≠ 0) : D.head? ≠ some 48 := fun e => by
 have := h.2.2.2 e
 rw [this] at h
 exact hv h.2.1.symm
theorem can_zero {D : List Int} (h : CanD D 0) : D = [48] := by
 refine h.2.2.2 (Classical.byContradiction fun e => ?_)
 have hb := val_big h.1 e (List.length_pos_iff.2 h.2.2.1)
 have hp : (0 : Int) < 10 ^ (D.length - 1) := Int.pow_pos (by decide)
 have := h.2.1
 omega
theorem can_uniq {D E : List Int} {v : Int} (h : CanD D v) (k : CanD E v) : D = E := by
 by_cases hv : v = 0
 ·subst hv; rw [can_zero h, can_zero k]
 ·exact valD_uniq D.length D E (Nat.le_refl _) h.1 k.1 (can_pos h hv) (can_pos k hv) (h.2.1.trans k.2.1.symm)
theorem isD_no45 {D : List Int} (h : isD D = true) : D.head? ≠ some 45 := by
 cases D with
 | nil => simp
 | cons a t =>
  intro e
  simp at e
  subst e
  simp [isD] at h
/-- The text of a number. -/
def txt (z : Int) (D : List Int) : List Int := if z < 0 then 45 :: D else D
theorem txt_digs {z : Int} {D : List Int} (h : isD D = true) : digsOf (txt z D) = D ∧ ((txt z D).head? = some 45 ↔ z < 0) := by
 unfold txt digsOf
 by_cases hz : z < 0
 ·rw [if_pos hz]; exact ⟨by simp, by simp [hz]⟩
 ·rw [if_neg hz]; exact ⟨by rw [if_neg (isD_no45 h)], ⟨fun e => absurd e (isD_no45 h), fun e => absurd e hz⟩⟩
end Go.Proofs.Ytmpbbodafenonaa

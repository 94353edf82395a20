/- Plain words on the number of a word: digits, and what may be. -/
import Derived.Laws.BytesArg
import Derived.Test.YtmpbbodafenonaaV
set_option linter.unusedVariables false
set_option linter.unusedSimpArgs false
namespace Go.Proofs.Ytmpbbodafenonaa
open Go Go.Proofs Go.RowKit Go.Proofs.YtmpbbodafenonaaW.PrintWords

/-- The value of decimal digits. -/
def valD (l : List Int) : Int := l.foldl (fun n c => 10 * n + (c - 48)) 0
theorem valD_snoc (l : List Int) (c : Int) : valD (l ++ [c]) = 10 * valD l + (c - 48) := by simp [valD]
/-- Only digits? -/
def isD (l : List Int) : Bool := l.all fun c => decide (48 ≤ c) && decide (c ≤ 57)
theorem isD_snoc (l : List Int) (c : Int) : isD (l ++ [c]) = (isD l && (decide (48 ≤ c) && decide (c ≤ 57))) := by simp [isD]
theorem valD_nonneg_aux (l : List Int) (h : isD l = true) : ∀ n, 0 ≤ n → 0 ≤ l.foldl (fun n c => 10 * n + (c - 48)) n := by
  induction l with
  | nil => intro n hn; exact hn
  | cons c t ih =>
    intro n hn
    simp [isD] at h
    exact ih (by simpa [isD] using h.2) _ (by show 0 ≤ 10 * n + (c - 48); omega)
theorem valD_nonneg {l : List Int} (h : isD l = true) : 0 ≤ valD l := valD_nonneg_aux l h 0 (by omega)
theorem isD_of_prefix {l m : List Int} (h : isD (l ++ m) = true) : isD l = true ∧ isD m = true := by simpa [isD] using h
theorem valD_mono_aux (m : List Int) (h : isD m = true) : ∀ n, 0 ≤ n → n ≤ m.foldl (fun n c => 10 * n + (c - 48)) n := by
  induction m with
  | nil => intro n _; exact Int.le_refl _
  | cons c t ih =>
    intro n hn
    simp [isD] at h
    have := ih (by simpa [isD] using h.2) (10 * n + (c - 48)) (by omega)
    simp only [List.foldl_cons]
    omega
theorem valD_mono {l m : List Int} (h : isD (l ++ m) = true) : valD l ≤ valD (l ++ m) := by
  obtain ⟨h1, h2⟩ := isD_of_prefix h
  rw [show valD (l ++ m) = m.foldl (fun n c => 10 * n + (c - 48)) (valD l) from by simp [valD]]
  exact valD_mono_aux m h2 _ (valD_nonneg h1)

/-- Beyond what may be? -/
def farD (most : Int) (l : List Int) : Bool := decide (most < 0) || decide (most < valD l)

/-- The digits of a word: what stands behind a sign. -/
def digsOf (l : List Int) : List Int := if l.head? = some 45 then l.tail else l
/-- A word's number, or why there is none. -/
def numS (l : List Int) (most : Int) : Int × Int :=
  if digsOf l = [] ∨ ((digsOf l).head? = some 48 ∧ l ≠ [48]) ∨ isD (digsOf l) = false then (0, 11)
  else if farD most (digsOf l) then (0, 10)
  else (if l.head? = some 45 then -valD (digsOf l) else valD (digsOf l), 0)

theorem tdiv_neg_or {a : Int} (h : a < 0) : a.tdiv 10 ≤ 0 := by
  rw [show a = -(-a) from by omega, Int.neg_tdiv]
  have := Int.tdiv_nonneg (a := -a) (b := 10) (by omega) (by omega)
  omega
/-- The program's own test for 'too great'. -/
theorem far_step {most n d : Int} (h0 : 0 ≤ most) (hn : 0 ≤ n) (hd : 0 ≤ d) : ((most - d).tdiv 10 < n ∨ most < d) ↔ most < 10 * n + d := by
  rcases Int.lt_or_le (most - d) 0 with h | h
  · have := tdiv_neg_or h
    constructor
    · intro; omega
    · intro; exact .inr (by omega)
  · rw [Int.tdiv_eq_ediv_of_nonneg h]
    omega
theorem bytesOf_take_succ (s : ByteArray) (k : Nat) (h : k < s.size) : (bytesOf s).take (k + 1) = (bytesOf s).take k ++ [((s[k]'h).toNat : Int)] := by
  have h' : k < (bytesOf s).length := by rw [bytesOf_length]; exact h
  rw [List.take_succ_eq_append_getElem h']
  congr 2
  simp [bytesOf]
  rfl
theorem isD_take_byte {s : ByteArray} {k : Nat} (h : k < s.size) (hb : ¬ (48 ≤ (s[k]'h).toNat ∧ (s[k]'h).toNat ≤ 57)) : isD (bytesOf s) = false := by
  cases hd : isD (bytesOf s) with
  | false => rfl
  | true =>
    have h1 : isD ((bytesOf s).take (k + 1) ++ (bytesOf s).drop (k + 1)) = true := by rw [List.take_append_drop]; exact hd
    have h2 := (isD_of_prefix h1).1
    rw [bytesOf_take_succ s k h, isD_snoc] at h2
    simp at h2
    omega
theorem bytesOf_head (s : ByteArray) (h : 0 < s.size) : (bytesOf s).head? = some ((s[0]'h).toNat : Int) := by
  rw [List.head?_eq_getElem?, List.getElem?_eq_getElem (by rw [bytesOf_length]; exact h)]
  simp [bytesOf]
  rfl
theorem bytesOf_tail (s : ByteArray) : bytesOf (s.extract 1 s.size) = (bytesOf s).tail := by
  simp [bytesOf]
  refine List.take_of_length_le ?_
  have h1 : s.data.toList.length = s.size := by rw [Array.length_toList]; rfl
  simp only [List.length_tail, List.length_map, h1]
  exact Nat.le_refl _
theorem not_nil_toList (s : ByteArray) (h : 0 < s.size) : s.toList.isEmpty = false := by
  rw [ByteArray.toList_eq]
  have h1 : s.data.toList.length = s.size := by rw [Array.length_toList]; rfl
  cases hs : s.data.toList with
  | nil => rw [hs] at h1; simp at h1; omega
  | cons a t => rfl

end Go.Proofs.Ytmpbbodafenonaa

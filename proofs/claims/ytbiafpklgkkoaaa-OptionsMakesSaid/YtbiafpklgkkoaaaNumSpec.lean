/- Plain words on the number of a word: digits, and what may be. -/
import Derived.Laws.BytesArg
set_option linter.unusedVariables false
set_option linter.unusedSimpArgs false
namespace Go.Proofs.Ytbiafpklgkkoaaa
open Go

/-- The value of decimal digits. -/
def valD (l : List Int) : Int := l.foldl (fun n c => 10 * n + (c - 48)) 0
theorem valD_snoc (l : List Int) (c : Int) : valD (l ++ [c]) = 10 * valD l + (c - 48) := by simp [valD]
/-- Only digits? -/
def isD (l : List Int) : Bool := l.all fun c => decide (48 ≤ c) && decide (c ≤ 57)
theorem isD_snoc (l : List Int) (c : Int) : isD (l ++ [c]) = (isD l && (decide (48 ≤ c) && decide (c ≤ 57))) := by simp [isD]
theorem valD_nonneg_aux (l : List Int) (h : isD l = true) : ∀ n, 0 ≤ n → 0 ≤ l.foldl (fun n c => 10 * n + (c - 48)) n := by
  induction l with
  | nil => intro n hn; exact hn
  | cons c t ih =>
    intro n hn
    simp [isD] at h
    exact ih (by simpa [isD] using h.2) _ (by show 0 ≤ 10 * n + (c - 48); omega)
theorem valD_nonneg {l : List Int} (h : isD l = true) : 0 ≤ valD l := valD_nonneg_aux l h 0 (by omega)
theorem isD_of_prefix {l m : List Int} (h : isD (l ++ m) = true) : isD l = true ∧ isD m = true := by simpa [isD] using h
theorem valD_mono_aux (m : List Int) (h : isD m = true) : ∀ n, 0 ≤ n → n ≤ m.foldl (fun n c => 10 * n + (c - 48)) n := by
  induction m with
  | nil => intro n _; exact Int.le_refl _
  | cons c t ih =>
    intro n hn
    simp [isD] at h
    have := ih (by simpa [isD] using h.2) (10 * n + (c - 48)) (by omega)
    simp only [List.foldl_cons]
    omega
theorem valD_mono {l m : List Int} (h : isD (l ++ m) = true) : valD l ≤ valD (l ++ m) := by
  obtain ⟨h1, h2⟩ := isD_of_prefix h
  rw [show valD (l ++ m) = m.foldl (fun n c => 10 * n + (c - 48)) (valD l) from by simp [valD]]
  exact valD_mono_aux m h2 _ (valD_nonneg h1)

/-- Beyond what may be? -/
def farD (most : Int) (l : List Int) : Bool := decide (most < 0) || decide (most < valD l)

/-- The digits of a word: what stands behind a sign. -/
def digsOf (l : List Int) : List Int := if l.head? = some 45 then l.tail else l
/-- A word's number, or why there is none. -/
def numS (l : List Int) (most : Int) : Int × Int :=
  if digsOf l = [] ∨ ((digsOf l).head? = some 48 ∧ l ≠ [48]) ∨ isD (digsOf l) = false then (0, 11)
  else if farD most (digsOf l) then (0, 10)
  else (if l.head? = some 45 then -valD (digsOf l) else valD (digsOf l), 0)

theorem tdiv_neg_or {a : Int} (h : a < 0) : a.tdiv 10 ≤ 0 := by
  rw [show a = -(-a) from by omega, Int.neg_tdiv]
  have := Int.tdiv_nonneg (a := -a) (b := 10) (by omega) (by omega)
  omega
/-- The program's own test for 'too great'. -/
theorem far_step {most n d : Int} (h0 : 0 ≤ most) (hn : 0 ≤ n) (hd : 0 ≤ d) : ((most - d).tdiv 10 < n ∨ most < d) ↔ most < 10 * n + d := by
  rcases Int.lt_or_le (most - d) 0 with h | h
  · have := tdiv_neg_or h
    constructor
    · intro; omega
    · intro; exact .inr (by omega)
  · rw [Int.tdiv_eq_ediv_of_nonneg h]
    omega
end Go.Proofs.Ytbiafpklgkkoaaa

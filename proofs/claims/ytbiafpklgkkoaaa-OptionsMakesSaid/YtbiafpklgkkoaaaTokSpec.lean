/- Plain words on the cutting of bytes into words: no program in sight. -/
import Derived.Laws.BytesArg
set_option linter.unusedVariables false
set_option linter.unusedSimpArgs false
namespace Go.Proofs.Ytbiafpklgkkoaaa
open Go

/-- A blank byte. -/
def blk (c : Int) : Bool := c == 32 || c == 9 || c == 13 || c == 10

/-- Where the cutter stands: outside, in a comment, in a word that began at q and has the bytes acc. -/
inductive Md where
  | out
  | com
  | word (q : Nat) (acc : List Int)

/-- The words of the bytes l that begin at place p. -/
def scan : Nat → Md → List Int → List (Nat × List Int)
  | _, .out, [] => []
  | _, .com, [] => []
  | _, .word q acc, [] => [(q, acc)]
  | p, .out, c :: t => if blk c then scan (p + 1) .out t else if c = 35 then scan (p + 1) .com t else scan (p + 1) (.word p [c]) t
  | p, .com, c :: t => if c = 10 then scan (p + 1) .out t else scan (p + 1) .com t
  | p, .word q acc, c :: t => if blk c then (q, acc) :: scan (p + 1) .out t else scan (p + 1) (.word q (acc ++ [c])) t

/-- All words of bytes. -/
def toks (l : List Int) : List (Nat × List Int) := scan 0 .out l

theorem scan_out_blk {p : Nat} {c : Int} {t : List Int} (h : blk c = true) : scan p .out (c :: t) = scan (p + 1) .out t := by simp [scan, h]
theorem scan_out_sharp {p : Nat} {t : List Int} : scan p .out (35 :: t) = scan p .com (35 :: t) := by simp [scan, blk]
theorem scan_com_step {p : Nat} {c : Int} {t : List Int} (h : c ≠ 10) : scan p .com (c :: t) = scan (p + 1) .com t := by simp [scan, h]
theorem scan_com_end {p : Nat} {t : List Int} : scan p .com (10 :: t) = scan p .out (10 :: t) := by simp [scan, blk]
theorem scan_word_begin {p : Nat} {c : Int} {t : List Int} (h : blk c = false) (h' : c ≠ 35) : scan p .out (c :: t) = scan p (.word p []) (c :: t) := by simp [scan, h, h']
theorem scan_word_step {p q : Nat} {acc : List Int} {c : Int} {t : List Int} (h : blk c = false) : scan p (.word q acc) (c :: t) = scan (p + 1) (.word q (acc ++ [c])) t := by simp [scan, h]
theorem scan_word_end {p q : Nat} {acc : List Int} {l : List Int} (h : ∀ c t, l = c :: t → blk c = true) : scan p (.word q acc) l = (q, acc) :: scan p .out l := by
  cases l with
  | nil => simp [scan]
  | cons c t =>
    have h1 := h c t rfl
    simp [scan, h1]

/-- There are no more words than bytes. -/
theorem scan_length (l : List Int) : ∀ (p : Nat) (m : Md), (scan p m l).length ≤ l.length + (match m with | .word _ _ => 1 | _ => 0) := by
  induction l with
  | nil => intro p m; cases m <;> simp [scan]
  | cons c t ih =>
    intro p m
    cases m with
    | out =>
      simp only [scan]
      split
      · have := ih (p + 1) .out; simp at this ⊢; omega
      · split
        · have := ih (p + 1) .com; simp at this ⊢; omega
        · have := ih (p + 1) (.word p [c]); simp at this ⊢; omega
    | com =>
      simp only [scan]
      split
      · have := ih (p + 1) .out; simp at this ⊢; omega
      · have := ih (p + 1) .com; simp at this ⊢; omega
    | word q acc =>
      simp only [scan]
      split
      · have := ih (p + 1) .out; simp at this ⊢; omega
      · have := ih (p + 1) (.word q (acc ++ [c])); simp at this ⊢; omega
theorem toks_length (l : List Int) : (toks l).length ≤ l.length := by have := scan_length l 0 .out; simpa [toks] using this

/-- The bytes from place i on. -/
theorem drop_cons {xs : List Int} {i : Nat} (h : i < xs.length) : xs.drop i = xs.getD i 0 :: xs.drop (i + 1) := by
  rw [List.drop_eq_getElem_cons h]
  simp [List.getD_eq_getElem?_getD, List.getElem?_eq_getElem h]
theorem mid_snoc {xs : List Int} {p i : Nat} (hp : p ≤ i) (h : i < xs.length) : (xs.take (i + 1)).drop p = (xs.take i).drop p ++ [xs.getD i 0] := by
  rw [List.take_succ_eq_append_getElem h, List.drop_append_of_le_length (by rw [List.length_take]; omega)]
  simp [List.getD_eq_getElem?_getD, List.getElem?_eq_getElem h]
end Go.Proofs.Ytbiafpklgkkoaaa

/- Plain words on whole numbers told by digits to the base 65536, the lowest first. -/
import Derived.Laws.BytesArg
set_option linter.unusedVariables false
set_option linter.unusedSimpArgs false
namespace Go.Proofs.Ytbiafpklgkkoaaa
open Go

/-- The number of digits. -/
def val : List Int → Int
  | [] => 0
  | d :: t => d + 65536 * val t
/-- Each is a digit. -/
def Dig (ds : List Int) : Prop := ∀ d ∈ ds, 0 ≤ d ∧ d ≤ 65535
theorem Dig.nil : Dig [] := fun d h => by cases h
theorem Dig.cons {d : Int} {t : List Int} (h : 0 ≤ d ∧ d ≤ 65535) (ht : Dig t) : Dig (d :: t) := fun x hx => by
  rcases List.mem_cons.1 hx with rfl | hx
  · exact h
  · exact ht x hx
theorem Dig.head {d : Int} {t : List Int} (h : Dig (d :: t)) : 0 ≤ d ∧ d ≤ 65535 := h d (by simp)
theorem Dig.tail {d : Int} {t : List Int} (h : Dig (d :: t)) : Dig t := fun x hx => h x (by simp [hx])
theorem Dig.append {a b : List Int} (ha : Dig a) (hb : Dig b) : Dig (a ++ b) := fun x hx => (List.mem_append.1 hx).elim (ha x) (hb x)
theorem Dig.take {a : List Int} (ha : Dig a) (n : Nat) : Dig (a.take n) := fun x hx => ha x (List.mem_of_mem_take hx)
theorem Dig.snoc {a : List Int} {d : Int} (ha : Dig a) (h : 0 ≤ d ∧ d ≤ 65535) : Dig (a ++ [d]) := ha.append (Dig.cons h Dig.nil)
theorem Dig.at_ {a : List Int} (ha : Dig a) (i : Nat) : 0 ≤ a.getD i 0 ∧ a.getD i 0 ≤ 65535 := by
  rw [List.getD_eq_getElem?_getD]
  rcases Nat.lt_or_ge i a.length with h | h
  · rw [List.getElem?_eq_getElem h]
    exact ha _ (List.getElem_mem h)
  · rw [List.getElem?_eq_none h]
    exact ⟨Int.le_refl _, by decide⟩
theorem Dig.set {a : List Int} (ha : Dig a) (i : Nat) {d : Int} (h : 0 ≤ d ∧ d ≤ 65535) : Dig (a.set i d) := fun x hx => by
  rcases List.mem_or_eq_of_mem_set hx with hx | rfl
  · exact ha x hx
  · exact h

theorem val_nonneg {ds : List Int} (h : Dig ds) : 0 ≤ val ds := by
  induction ds with
  | nil => exact Int.le_refl _
  | cons d t ih =>
    have := ih h.tail
    have := h.head
    simp only [val]
    omega
theorem val_append (a b : List Int) : val (a ++ b) = val a + 65536 ^ a.length * val b := by
  induction a with
  | nil => simp [val]
  | cons d t ih =>
    simp only [List.cons_append, val, ih, List.length_cons, Int.pow_succ]
    rw [Int.mul_add, ← Int.mul_assoc, Int.mul_comm (65536 ^ t.length) 65536]
    omega
theorem val_snoc (a : List Int) (d : Int) : val (a ++ [d]) = val a + 65536 ^ a.length * d := by
  rw [val_append]; simp [val]
theorem pow_pos (n : Nat) : (0 : Int) < 65536 ^ n := Int.pow_pos (by decide)
theorem val_lt {ds : List Int} (h : Dig ds) : val ds < 65536 ^ ds.length := by
  induction ds with
  | nil => simp [val]
  | cons d t ih =>
    have h1 := ih h.tail
    have h2 := h.head
    simp only [val, List.length_cons, Int.pow_succ]
    omega
/-- No noughts behind. -/
def NoZero (ds : List Int) : Prop := ∀ i, i + 1 = ds.length → ds.getD i 0 ≠ 0
theorem val_ge {ds : List Int} (h : Dig ds) (hz : NoZero ds) (h0 : ds ≠ []) : (65536 : Int) ^ (ds.length - 1) ≤ val ds := by
  have hl : 0 < ds.length := List.length_pos_iff.2 h0
  have h1 : ds = ds.take (ds.length - 1) ++ [ds.getD (ds.length - 1) 0] := by
    conv => lhs; rw [← List.take_append_drop (ds.length - 1) ds]
    congr 1
    rw [List.drop_eq_getElem_cons (by omega)]
    rw [List.drop_of_length_le (by omega)]
    simp [List.getD_eq_getElem?_getD, List.getElem?_eq_getElem (show ds.length - 1 < ds.length by omega)]
  have h2 := hz (ds.length - 1) (by omega)
  have h3 := (h.at_ (ds.length - 1)).1
  have h4 := val_nonneg (h.take (ds.length - 1))
  have hlt : (ds.take (ds.length - 1)).length = ds.length - 1 := by rw [List.length_take]; omega
  have hv : val ds = val (ds.take (ds.length - 1)) + 65536 ^ (ds.length - 1) * ds.getD (ds.length - 1) 0 := by
    have h7 := congrArg val h1
    rw [val_snoc, hlt] at h7
    exact h7
  rw [hv]
  generalize ds.getD (ds.length - 1) 0 = x at h2 h3 hv
  have h6 := Int.mul_le_mul_of_nonneg_left (show (1 : Int) ≤ x by omega) (Int.le_of_lt (pow_pos (ds.length - 1)))
  rw [Int.mul_one] at h6
  omega
theorem pow_le {a b : Nat} (h : a ≤ b) : (65536 : Int) ^ a ≤ 65536 ^ b := by
  obtain ⟨c, rfl⟩ := Nat.exists_eq_add_of_le h
  rw [Int.pow_add]
  have h1 := Int.mul_le_mul_of_nonneg_left (show (1 : Int) ≤ 65536 ^ c from pow_pos c) (Int.le_of_lt (pow_pos a))
  rw [Int.mul_one] at h1
  exact h1
theorem pow_lt_of {a b : Nat} (h : (65536 : Int) ^ a < 65536 ^ b) : a < b := by
  rcases Nat.lt_or_ge a b with h1 | h1
  · exact h1
  · have := pow_le h1
    omega
/-- The number tells how many digits there are, at most. -/
theorem len_le {ds : List Int} (h : Dig ds) (hz : NoZero ds) {k : Nat} (hk : val ds < 65536 ^ k) : ds.length ≤ k := by
  cases ds with
  | nil => exact Nat.zero_le _
  | cons d t =>
    have h1 := val_ge h hz (by simp)
    have h2 := pow_lt_of (Int.lt_of_le_of_lt h1 hk)
    simp at h2 ⊢
    omega
theorem val_zero {ds : List Int} (h : Dig ds) (hz : NoZero ds) (h0 : val ds = 0) : ds = [] := by
  cases ds with
  | nil => rfl
  | cons d t =>
    have h1 := val_ge h hz (by simp)
    have h2 := pow_pos ((d :: t).length - 1)
    omega
theorem val_pos {ds : List Int} (h : Dig ds) (hz : NoZero ds) (h0 : ds ≠ []) : 0 < val ds := by
  have h1 := val_ge h hz h0
  have h2 := pow_pos (ds.length - 1)
  omega
/-- Noughts behind change nothing. -/
theorem val_take_zero (ds : List Int) (n : Nat) (h : ∀ i, n ≤ i → ds.getD i 0 = 0) : val (ds.take n) = val ds := by
  induction ds generalizing n with
  | nil => simp
  | cons d t ih =>
    cases n with
    | zero =>
      have h0 := h 0 (Nat.le_refl _)
      have h1 := ih 0 (fun i _ => by have := h (i + 1) (by omega); simpa using this)
      simp only [List.take_zero] at h1 ⊢
      simp at h0
      simp only [val] at h1 ⊢
      omega
    | succ n =>
      have h1 := ih n (fun i hi => by have := h (i + 1) (by omega); simpa using this)
      simp only [List.take_succ_cons, val, h1]
/-- The sign. -/
def sgn (z : Int) : Int := if z < 0 then -1 else if z = 0 then 0 else 1
end Go.Proofs.Ytbiafpklgkkoaaa

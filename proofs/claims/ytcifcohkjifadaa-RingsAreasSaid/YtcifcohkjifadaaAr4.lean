/- Areas in plain words: of a ring turned round, and of a ring from behind. -/
import Derived.Test.YtcifcohkjifadaaAr2
set_option linter.unusedVariables false
set_option linter.unusedSimpArgs false
namespace Go.Proofs.Ytcifcohkjifadaa
open Go Go.RowKit Go.Proofs.Ytcifcohkjifadaa.Fx Go.Proofs.YtcifcohkjifadaaW.PrintWords
/-- The sum along a way; along a closed one. -/
def opn : List (Int × Int) → Int
  | [] => 0
  | [_] => 0
  | a :: b :: t => crs a b + opn (b :: t)
def shoL : List (Int × Int) → Int
  | [] => 0
  | a :: t => opn (a :: t ++ [a])
theorem opn_two (a b : Int × Int) : ∀ l, opn (l ++ [a, b]) = opn (l ++ [a]) + crs a b
  | [] => by show crs a b + 0 = 0 + crs a b; omega
  | [c] => by show crs c a + (crs a b + 0) = crs c a + 0 + crs a b; omega
  | c :: d :: t => by
    have ih := opn_two a b (d :: t)
    show crs c d + opn (d :: t ++ [a, b]) = crs c d + opn (d :: t ++ [a]) + crs a b
    rw [ih]
    omega
theorem crs_swap (a b : Int × Int) : crs b a = -crs a b := by unfold crs; grind
theorem opn_rev : ∀ l, opn l.reverse = -opn l
  | [] => rfl
  | [_] => rfl
  | a :: b :: t => by
    have ih := opn_rev (b :: t)
    have e : (a :: b :: t).reverse = t.reverse ++ [b, a] := by simp
    have e2 : (b :: t).reverse = t.reverse ++ [b] := by simp
    rw [e, opn_two, ← e2, ih, crs_swap]
    show _ = -(crs a b + opn (b :: t))
    omega
theorem shoL_rot (a : Int × Int) : ∀ t, shoL (t ++ [a]) = shoL (a :: t)
  | [] => rfl
  | b :: t => by
    show opn (b :: t ++ [a] ++ [b]) = crs a b + opn (b :: t ++ [a])
    rw [List.append_assoc, show [a] ++ [b] = [a, b] from rfl, opn_two]
    omega
theorem shoL_rev (q : List (Int × Int)) : shoL q.reverse = -shoL q := by
  cases q with
  | nil => rfl
  | cons a t =>
    rw [List.reverse_cons, shoL_rot]
    show opn (a :: t.reverse ++ [a]) = -opn (a :: t ++ [a])
    rw [← opn_rev]
    simp
theorem shoL_turn (q : List (Int × Int)) : ∀ k, k ≤ q.length → shoL (q.drop k ++ q.take k) = shoL q
  | 0, _ => by simp
  | k + 1, h => by
    have ih := shoL_turn q k (by omega)
    have e1 : q.drop k = q[k] :: q.drop (k + 1) := List.drop_eq_getElem_cons (by omega)
    have e2 : q.take (k + 1) = q.take k ++ [q[k]] := take_succ' (List.getElem?_eq_getElem (by omega))
    rw [e2, ← List.append_assoc, shoL_rot, ← ih, e1]
    rfl
theorem shoe_opn {q : List (Int × Int)} : ∀ {k : Nat}, k < q.length → shoeTo q k = opn (q.take (k + 1))
  | 0, h => by
    match q, h with
    | a :: t, _ => rfl
  | k + 1, h => by
    have ih := shoe_opn (q := q) (k := k) (by omega)
    have e1 : q.take (k + 1) = q.take k ++ [q.getD k (0, 0)] := take_succ' (getD_of (by omega))
    have e2 : q.take (k + 1 + 1) = q.take (k + 1) ++ [q.getD (k + 1) (0, 0)] := take_succ' (getD_of h)
    rw [shoe_succ h, ih, e2, e1, List.append_assoc]
    exact (opn_two _ _ _).symm
theorem shoe_L (q : List (Int × Int)) : shoeTo q q.length = shoL q := by
  cases q with
  | nil => rfl
  | cons a t =>
    have h : t.length + 1 = (a :: t).length := rfl
    have e1 : (a :: t) = (a :: t).take t.length ++ [(a :: t).getD t.length (0, 0)] := by
      rw [← take_succ' (getD_of (show t.length < (a :: t).length by simp)), List.take_of_length_le (by simp)]
    rw [← h, shoe_last h, shoe_opn (by simp), List.take_of_length_le (by simp)]
    show opn (a :: t) + crs ((a :: t).getD t.length (0, 0)) a = opn (a :: t ++ [a])
    conv => rhs; rw [e1, List.append_assoc]
    rw [show [(a :: t).getD t.length (0, 0)] ++ [a] = [(a :: t).getD t.length (0, 0), a] from rfl, opn_two, ← e1]
theorem areaR_rev {p : List (Int × Int)} {ring : List Int} {z e : Int} (h : areaR p ring = (z, e)) : areaR p ring.reverse = (-z, e) := by
  unfold areaR at h ⊢
  rw [List.any_reverse]
  have e1 : ringPts p ring.reverse = (ringPts p ring).reverse := List.map_reverse
  have e2 : shoeTo (ringPts p ring.reverse) ring.reverse.length = -shoeTo (ringPts p ring) ring.length := by
    rw [e1, show ring.reverse.length = (ringPts p ring).reverse.length by simp [ringPts], show ring.length = (ringPts p ring).length by simp [ringPts], shoe_L, shoe_L, shoL_rev]
  rw [e2]
  split at h <;> cases h
  · rw [if_pos (by assumption)]; rfl
  · rw [if_neg (by assumption)]
theorem areaR_turn {p : List (Int × Int)} {ring : List Int} {z e : Int} {k : Nat} (hk : k ≤ ring.length) (h : areaR p ring = (z, e)) : areaR p (ring.drop k ++ ring.take k) = (z, e) := by
  rw [← h]
  unfold areaR
  have e0 : (ring.drop k ++ ring.take k).any (badPt p) = ring.any (badPt p) := by
    conv => rhs; rw [← List.take_append_drop k ring]
    rw [List.any_append, List.any_append, Bool.or_comm]
  have e1 : ringPts p (ring.drop k ++ ring.take k) = (ringPts p ring).drop k ++ (ringPts p ring).take k := by unfold ringPts; simp
  have e2 : shoeTo (ringPts p (ring.drop k ++ ring.take k)) (ring.drop k ++ ring.take k).length = shoeTo (ringPts p ring) ring.length := by
    rw [e1, show (ring.drop k ++ ring.take k).length = ((ringPts p ring).drop k ++ (ringPts p ring).take k).length by simp [ringPts], show ring.length = (ringPts p ring).length by simp [ringPts], shoe_L, shoe_L]
    exact shoL_turn _ _ (by rw [ringPts_len]; exact hk)
  rw [e0, e2]
theorem areaR_Bd {p : List (Int × Int)} {ring : List Int} {z e : Int} (hl : ring.length ≤ 1000) (h : areaR p ring = (z, e)) : Bd 200 z := by
  unfold areaR at h
  split at h <;> cases h
  · show Bd 200 0
    decide
  · rename_i hn
    have hok : ring.any (badPt p) = false := by simpa using hn
    exact shoe_Bd (fun k hk => fits_all hok (by rw [← ringPts_len p]; exact hk)) (by rw [ringPts_len]; exact hl) (by rw [ringPts_len]; exact Nat.le_refl _)
def bkL (l : List Int) (i : Nat) : List Int := (List.range i).map fun j => l.getD (l.length - 1 - j) 0
def tnL (l : List Int) (kk i : Nat) : List Int := (List.range i).map fun j => l.getD ((j + kk) % l.length) 0
theorem bk_len (l : List Int) (i : Nat) : (bkL l i).length = i := by simp [bkL]
theorem tn_len (l : List Int) (kk i : Nat) : (tnL l kk i).length = i := by simp [tnL]
theorem bk_succ (l : List Int) (i : Nat) : bkL l i ++ [l.getD (l.length - 1 - i) 0] = bkL l (i + 1) := by unfold bkL; rw [List.range_succ, List.map_append]; rfl
theorem tn_succ (l : List Int) (kk i : Nat) : tnL l kk i ++ [l.getD ((i + kk) % l.length) 0] = tnL l kk (i + 1) := by unfold tnL; rw [List.range_succ, List.map_append]; rfl
theorem bk_full (l : List Int) : bkL l l.length = l.reverse := by
  apply List.ext_getElem?
  intro j
  by_cases h : j < l.length
  · unfold bkL
    rw [List.getElem?_map, List.getElem?_range h, List.getElem?_reverse h, Option.map_some, getD_of (d := 0) (show l.length - 1 - j < l.length by omega)]
  · rw [List.getElem?_eq_none (by rw [bk_len]; omega), List.getElem?_eq_none (by rw [List.length_reverse]; omega)]
theorem tn_full {l : List Int} {kk : Nat} (hk : kk < l.length ∨ kk = 0) : tnL l kk l.length = l.drop kk ++ l.take kk := by
  apply List.ext_getElem?
  intro j
  by_cases h : j < l.length
  · unfold tnL
    rw [List.getElem?_map, List.getElem?_range h, Option.map_some]
    by_cases h2 : j < l.length - kk
    · rw [List.getElem?_append_left (by rw [List.length_drop]; exact h2), List.getElem?_drop, Nat.mod_eq_of_lt (by omega), Nat.add_comm kk j, getD_of (d := 0) (by omega)]
    · rw [List.getElem?_append_right (by rw [List.length_drop]; omega), List.length_drop, List.getElem?_take, if_pos (by omega), show (j + kk) % l.length = j - (l.length - kk) by
        rw [show j + kk = (j - (l.length - kk)) + l.length by omega, Nat.add_mod_right]; exact Nat.mod_eq_of_lt (by omega), getD_of (d := 0) (by omega)]
  · rw [List.getElem?_eq_none (by rw [tn_len]; omega), List.getElem?_eq_none (by rw [List.length_append, List.length_drop, List.length_take]; omega)]
theorem kk_any (a : Int) (n : Nat) : ∃ kk : Nat, (0 < n → (IntKind.u64.wrap a).tmod (n : Int) = (kk : Int)) ∧ (kk < n ∨ kk = 0) := by
  by_cases h : 0 < n
  · obtain ⟨kk, h1, h2⟩ := kk_ex a n h
    exact ⟨kk, fun _ => h1, .inl h2⟩
  · exact ⟨0, fun h' => absurd h' h, .inr rfl⟩
end Go.Proofs.Ytcifcohkjifadaa

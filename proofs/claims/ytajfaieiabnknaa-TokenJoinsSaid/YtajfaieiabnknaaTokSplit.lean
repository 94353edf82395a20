/- Plain words on words: what a comment laid between two words, and words joined by blanks, come to. -/
import Derived.Test.YtajfaieiabnknaaTokGood
set_option linter.unusedVariables false
set_option linter.unusedSimpArgs false
namespace Go.Proofs.Ytajfaieiabnknaa
open Go

/-- One byte more. -/
def stepB (p : Nat) (m : Md) (c : Int) : List (Nat × List Int) × Md :=
  match m with
  | .out => if blk c then ([], .out) else if c = 35 then ([], .com) else ([], .word p [c])
  | .com => if c = 10 then ([], .out) else ([], .com)
  | .word q acc => if blk c then ([(q, acc)], .out) else ([], .word q (acc ++ [c]))
theorem scan_step (p : Nat) (m : Md) (c : Int) (t : List Int) : scan p m (c :: t) = (stepB p m c).1 ++ scan (p + 1) (stepB p m c).2 t := by
  cases m with
  | out => simp only [scan, stepB]; split <;> (try split) <;> simp
  | com => simp only [scan, stepB]; split <;> simp
  | word q acc => simp only [scan, stepB]; split <;> simp
/-- Bytes, one behind the other. -/
def foldB : Nat → Md → List Int → List (Nat × List Int) × Md
  | _, m, [] => ([], m)
  | p, m, c :: t => ((stepB p m c).1 ++ (foldB (p + 1) (stepB p m c).2 t).1, (foldB (p + 1) (stepB p m c).2 t).2)
theorem scan_append (l r : List Int) : ∀ (p : Nat) (m : Md), scan p m (l ++ r) = (foldB p m l).1 ++ scan (p + l.length) (foldB p m l).2 r := by
  induction l with
  | nil => intro p m; simp [foldB]
  | cons c t ih =>
    intro p m
    rw [List.cons_append, scan_step, ih]
    simp only [foldB, List.length_cons, List.append_assoc]
    rw [show p + 1 + t.length = p + (t.length + 1) from by omega]
/-- The first word, when one has begun. -/
theorem scan_word_head (l : List Int) : ∀ (p q : Nat) (acc : List Int), ∃ w t, scan p (.word q acc) l = (q, w) :: t := by
  induction l with
  | nil => intro p q acc; exact ⟨acc, [], rfl⟩
  | cons c t ih =>
    intro p q acc
    simp only [scan]
    split
    · exact ⟨_, _, rfl⟩
    · exact ih _ _ _

/-- AT A WORD's BEGIN the cutter stands outside, and has told the words before it. -/
theorem scan_split (l : List Int) : ∀ (p : Nat) (m : Md) (k : Nat) (x : Nat × List Int), (scan p m l)[k]? = some x → (∀ q acc, m = .word q acc → 1 ≤ k) →
    ∃ l1 l2, l = l1 ++ l2 ∧ x.1 = p + l1.length ∧ foldB p m l1 = ((scan p m l).take k, .out) ∧ scan x.1 .out l2 = (scan p m l).drop k := by
  induction l with
  | nil =>
    intro p m k x hx hk
    cases m with
    | out => simp [scan] at hx
    | com => simp [scan] at hx
    | word q acc =>
      have := hk q acc rfl
      rw [scan, List.getElem?_eq_none (by simpa using this)] at hx
      cases hx
  | cons c t ih =>
    intro p m k x hx hk
    -- one byte on
    have next : ∀ (o : List (Nat × List Int)) (m' : Md) (k' : Nat), stepB p m c = (o, m') → k = o.length + k' → (∀ q acc, m' = .word q acc → 1 ≤ k') →
        ∃ l1 l2, c :: t = l1 ++ l2 ∧ x.1 = p + l1.length ∧ foldB p m l1 = ((scan p m (c :: t)).take k, .out) ∧ scan x.1 .out l2 = (scan p m (c :: t)).drop k := by
      intro o m' k' hs hk' hw
      have h1 := scan_step p m c t
      rw [hs] at h1
      simp only at h1
      rw [h1, hk', List.getElem?_append_right (by omega), Nat.add_sub_cancel_left] at hx
      obtain ⟨l1, l2, e1, e2, e3, e4⟩ := ih (p + 1) m' k' x hx hw
      refine ⟨c :: l1, l2, by rw [e1]; rfl, by rw [e2]; simp; omega, ?_, ?_⟩
      · simp only [foldB, hs, e3]
        rw [h1, hk', List.take_length_add_append]
      · rw [e4, h1, hk', List.drop_length_add_append]
    cases m with
    | out =>
      by_cases hb : blk c = true
      · exact next [] .out k (by simp [stepB, hb]) (by simp) (by intro q acc h; cases h)
      · by_cases h35 : c = 35
        · exact next [] .com k (by subst h35; simp [stepB, blk]) (by simp) (by intro q acc h; cases h)
        · cases k with
          | zero =>
            obtain ⟨w, t', hw⟩ := scan_word_head t (p + 1) p [c]
            have h1 : scan p .out (c :: t) = (p, w) :: t' := by rw [scan_step]; simp [stepB, hb, h35, hw]
            rw [h1] at hx
            have h2 : x = (p, w) := by simpa using hx.symm
            subst h2
            exact ⟨[], c :: t, rfl, by simp, by simp [foldB], by simp⟩
          | succ k => exact next [] (.word p [c]) (k + 1) (by simp [stepB, hb, h35]) (by simp) (by intro q acc h; omega)
    | com =>
      by_cases h10 : c = 10
      · exact next [] .out k (by simp [stepB, h10]) (by simp) (by intro q acc h; cases h)
      · exact next [] .com k (by simp [stepB, h10]) (by simp) (by intro q acc h; cases h)
    | word q acc =>
      have hk1 := hk q acc rfl
      by_cases hb : blk c = true
      · exact next [(q, acc)] .out (k - 1) (by simp [stepB, hb]) (by simp; omega) (by intro q acc h; cases h)
      · exact next [] (.word q (acc ++ [c])) k (by simp [stepB, hb]) (by simp) (by intro q acc h; exact hk1)

/-- Farther by d. -/
def shiftM (d : Nat) : Md → Md
  | .word q acc => .word (q + d) acc
  | m => m
theorem scan_shift (d : Nat) (l : List Int) : ∀ (p : Nat) (m : Md), scan (p + d) (shiftM d m) l = (scan p m l).map fun x => (x.1 + d, x.2) := by
  induction l with
  | nil => intro p m; cases m <;> simp [scan, shiftM]
  | cons c t ih =>
    intro p m
    rw [scan_step, scan_step, List.map_append]
    have h1 : (stepB (p + d) (shiftM d m) c).1 = ((stepB p m c).1).map fun x => (x.1 + d, x.2) := by
      cases m <;> simp only [stepB, shiftM] <;> (repeat' split) <;> simp
    have h2 : (stepB (p + d) (shiftM d m) c).2 = shiftM d (stepB p m c).2 := by
      cases m with
      | out =>
        by_cases hb : blk c = true
        · simp [stepB, shiftM, hb]
        · by_cases h35 : c = 35
          · subst h35; simp [stepB, shiftM, blk]
          · simp [stepB, shiftM, hb, h35]
      | com =>
        by_cases h10 : c = 10
        · simp [stepB, shiftM, h10]
        · simp [stepB, shiftM, h10]
      | word q acc =>
        by_cases hb : blk c = true
        · simp [stepB, shiftM, hb]
        · simp [stepB, shiftM, hb]
    rw [h1, h2, show p + d + 1 = p + 1 + d from by omega, ih]

/-- What a mode has begun. -/
def flushM : Md → List (Nat × List Int)
  | .word q acc => [(q, acc)]
  | _ => []
theorem scan_lf (p : Nat) (m : Md) (r : List Int) : scan p m (10 :: r) = flushM m ++ scan (p + 1) .out r := by
  cases m <;> simp [scan, flushM, blk]
theorem scan_nil (p : Nat) (m : Md) : scan p m [] = flushM m := by cases m <;> rfl
theorem scan_com_text (l r : List Int) (h : ∀ c ∈ l, c ≠ 10) : ∀ p, scan p .com (l ++ 10 :: r) = scan (p + l.length + 1) .out r := by
  induction l with
  | nil => intro p; simp [scan]
  | cons c t ih =>
    intro p
    rw [List.cons_append, scan_com_step (h c (by simp)), ih (fun d hd => h d (by simp [hd]))]
    simp only [List.length_cons]
    rw [show p + 1 + t.length + 1 = p + (t.length + 1) + 1 from by omega]

/-- The place where a comment is laid: ahead of the k-th word, or at the end. -/
def placeOf (b : List Int) (k : Nat) : Nat := if h : k < (toks b).length then ((toks b)[k]).1 else b.length
/-- What is laid there. -/
def laidIn (com : List Int) : List Int := [10, 35] ++ com.filter (fun c => decide (c ≠ 10)) ++ [10, 32, 9, 13]

theorem scan_laid (p : Nat) (m : Md) (com r : List Int) : scan p m (laidIn com ++ r) = flushM m ++ scan (p + (laidIn com).length) .out r := by
  have h1 : laidIn com ++ r = 10 :: 35 :: (com.filter (fun c => decide (c ≠ 10)) ++ 10 :: (32 :: 9 :: 13 :: r)) := by simp [laidIn]
  rw [h1, scan_lf]
  congr 1
  rw [scan_out_sharp, scan_com_step (by decide), scan_com_text _ _ (by intro c hc; simpa using (List.mem_filter.1 hc).2)]
  rw [scan_out_blk (by decide), scan_out_blk (by decide), scan_out_blk (by decide)]
  congr 1
  simp [laidIn]
  omega

/-- A COMMENT CHANGES NO WORD, but the places behind it. -/
theorem toks_laid (b com : List Int) (k : Nat) (hk : k ≤ (toks b).length) :
    toks (b.take (placeOf b k) ++ laidIn com ++ b.drop (placeOf b k)) = (toks b).take k ++ ((toks b).drop k).map fun x => (x.1 + (laidIn com).length, x.2) := by
  by_cases h : k < (toks b).length
  · obtain ⟨l1, l2, e1, e2, e3, e4⟩ := scan_split b 0 .out k ((toks b)[k]) (by rw [← toks]; exact List.getElem?_eq_getElem h) (by intro q acc h; cases h)
    have hp : placeOf b k = l1.length := by simp only [placeOf, h, dif_pos]; rw [e2]; omega
    have t1 : b.take l1.length = l1 := by rw [e1, List.take_left]
    have t2 : b.drop l1.length = l2 := by rw [e1, List.drop_left]
    rw [hp, t1, t2, List.append_assoc]
    show scan 0 .out (l1 ++ (laidIn com ++ l2)) = _
    rw [scan_append, e3]
    simp only [Nat.zero_add]
    rw [scan_laid]
    rw [show scan 0 .out b = toks b from rfl] at e4 ⊢
    rw [e2] at e4
    have h5 := scan_shift (laidIn com).length l2 l1.length .out
    simp only [shiftM] at h5
    rw [h5]
    rw [Nat.zero_add] at e4
    rw [e4]
    simp [flushM]
  · have hk' : k = (toks b).length := by omega
    have hp : placeOf b k = b.length := by simp only [placeOf, h, dif_neg, not_false_eq_true]
    rw [hp, List.take_length, List.drop_length, List.append_nil]
    show scan 0 .out (b ++ laidIn com) = _
    rw [scan_append]
    have h1 := scan_laid (0 + b.length) (foldB 0 .out b).2 com []
    rw [List.append_nil] at h1
    rw [h1]
    have h2 := scan_append b [] 0 .out
    rw [List.append_nil, scan_nil] at h2
    rw [show scan 0 .out b = toks b from rfl] at h2
    rw [hk', List.take_length, List.drop_length, h2]
    simp [scan]

/-- Words, each with a blank behind it. -/
def joined : List (List Int) → List Int
  | [] => []
  | [w] => w ++ [10]
  | w :: v :: t => w ++ 32 :: joined (v :: t)
/-- Their places. -/
def placed : Nat → List (List Int) → List (Nat × List Int)
  | _, [] => []
  | p, w :: t => (p, w) :: placed (p + w.length + 1) t
theorem scan_plain (w : List Int) (c : Int) (r : List Int) (hw : ∀ d ∈ w, blk d = false) (hc : blk c = true) : ∀ (p q : Nat) (acc : List Int), scan p (.word q acc) (w ++ c :: r) = (q, acc ++ w) :: scan (p + w.length + 1) .out r := by
  induction w with
  | nil => intro p q acc; simp [scan, hc]
  | cons d t ih =>
    intro p q acc
    rw [List.cons_append, scan_word_step (hw d (by simp)), ih (fun e he => hw e (by simp [he]))]
    simp only [List.length_cons, List.append_assoc, List.singleton_append]
    rw [show p + 1 + t.length + 1 = p + (t.length + 1) + 1 from by omega]
theorem scan_one (w : List Int) (c : Int) (r : List Int) (hw : ∀ d ∈ w, blk d = false) (h0 : w ≠ []) (h35 : w.getD 0 0 ≠ 35) (hc : blk c = true) (p : Nat) : scan p .out (w ++ c :: r) = (p, w) :: scan (p + w.length + 1) .out r := by
  cases w with
  | nil => exact absurd rfl h0
  | cons d t =>
    rw [List.cons_append, scan_word_begin (hw d (by simp)) (by simpa using h35), ← List.cons_append, scan_plain _ _ _ hw hc]
    rfl
theorem toks_joined (l : List (List Int)) (h : ∀ w ∈ l, (∀ d ∈ w, blk d = false) ∧ w ≠ [] ∧ w.getD 0 0 ≠ 35) : ∀ p, scan p .out (joined l) = placed p l := by
  induction l with
  | nil => intro p; simp [joined, placed, scan]
  | cons w t ih =>
    intro p
    obtain ⟨h1, h2, h3⟩ := h w (by simp)
    have ih' := ih (fun v hv => h v (by simp [hv]))
    cases t with
    | nil =>
      rw [joined, scan_one w 10 [] h1 h2 h3 (by decide)]
      simp [placed, scan]
    | cons v t =>
      rw [joined, scan_one w 32 _ h1 h2 h3 (by decide), ih']
      simp [placed]
end Go.Proofs.Ytajfaieiabnknaa

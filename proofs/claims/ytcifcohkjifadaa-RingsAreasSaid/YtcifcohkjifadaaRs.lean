/- Rings, in plain words: how many ends are at each place; and what the walks ask of these rows. -/
import Derived.IntWalk
set_option linter.unusedVariables false
set_option linter.unusedSimpArgs false
namespace Go.Proofs.Ytcifcohkjifadaa
/-- A segment that may not be. -/
def segBad (n : Int) (s : Int × Int) : Bool := decide (s.1 < 0) || decide (s.1 ≥ n) || decide (s.2 < 0) || decide (s.2 ≥ n) || (s.1 == s.2)
/-- A segment's ends at a place. -/
def endsAt (i : Nat) (s : Int × Int) : Int := (if s.1 = i then 1 else 0) + (if s.2 = i then 1 else 0)
def cntE (l : List (Int × Int)) (i : Nat) : Int := (l.map (endsAt i)).sum
def degs (n : Nat) (l : List (Int × Int)) : List Int := (List.range n).map (cntE l)
def argBad (n : Int) (l : List (Int × Int)) : Bool := decide (n < 0) || decide (n > 1048576) || l.any (segBad n)
def degR (n : Int) (l : List (Int × Int)) : List Int × Int := if argBad n l then ([], 2) else (degs n.toNat l, 0)
theorem degs_len (n : Nat) (l : List (Int × Int)) : (degs n l).length = n := by simp [degs]
theorem degs_at {n : Nat} {l : List (Int × Int)} {i : Nat} (h : i < n) : (degs n l)[i]? = some (cntE l i) := by simp [degs, h]
theorem degs_nil (n : Nat) : degs n [] = List.replicate n 0 := by
  apply List.ext_getElem?
  intro j
  by_cases h : j < n <;> simp [degs, cntE, h]
theorem endsAt_bd (i : Nat) (s : Int × Int) : 0 ≤ endsAt i s ∧ endsAt i s ≤ 2 := by unfold endsAt; split <;> split <;> omega
theorem cntE_bd (i : Nat) : ∀ l : List (Int × Int), 0 ≤ cntE l i ∧ cntE l i ≤ 2 * l.length
  | [] => by simp [cntE]
  | s :: l => by
    have h1 := cntE_bd i l
    have h2 := endsAt_bd i s
    unfold cntE at h1 ⊢
    simp only [List.map_cons, List.sum_cons, List.length_cons]
    omega
theorem cntE_app (l m : List (Int × Int)) (i : Nat) : cntE (l ++ m) i = cntE l i + cntE m i := by simp [cntE, List.sum_append]
theorem take_succ' {α : Type} {l : List α} {k : Nat} {x : α} (h : l[k]? = some x) : l.take (k + 1) = l.take k ++ [x] := by
  rw [List.take_add_one, h]; rfl
theorem cntE_succ {l : List (Int × Int)} {k : Nat} {s : Int × Int} (h : l[k]? = some s) (i : Nat) : cntE (l.take (k + 1)) i = cntE (l.take k) i + endsAt i s := by
  rw [take_succ' h, cntE_app]; simp [cntE]
theorem cnt_small {l : List (Int × Int)} (hl : l.length ≤ 100000) (k i : Nat) : 0 ≤ cntE (l.take k) i ∧ cntE (l.take k) i ≤ 200000 := by
  have h1 := cntE_bd i (l.take k)
  have h2 : (l.take k).length ≤ l.length := by simp; omega
  omega
theorem degs_succ {β : Type} (f : Int → β) {n k a b : Nat} {l : List (Int × Int)} (h : l[k]? = some ((a : Int), (b : Int))) (hab : a ≠ b) (ha : a < n) (hb : b < n) :
    (((degs n (l.take k)).map f).set a (f (cntE (l.take k) a + 1))).set b (f (cntE (l.take k) b + 1)) = (degs n (l.take (k + 1))).map f := by
  apply List.ext_getElem?
  intro j
  by_cases hj : j < n
  · rw [List.getElem?_set, List.getElem?_set, List.getElem?_map, List.getElem?_map, degs_at hj, degs_at hj, cntE_succ h]
    simp only [List.length_set, List.length_map, degs_len, Option.map_some]
    by_cases h1 : b = j
    · subst h1
      rw [if_pos rfl, if_pos hb]
      unfold endsAt
      rw [if_neg (by simp; omega), if_pos rfl, Int.zero_add]
    · rw [if_neg h1]
      by_cases h2 : a = j
      · subst h2
        rw [if_pos rfl, if_pos ha]
        unfold endsAt
        rw [if_pos rfl, if_neg (by simp; omega), Int.add_zero]
      · rw [if_neg h2]
        unfold endsAt
        rw [if_neg (by simp; omega), if_neg (by simp; omega)]
        simp
  · rw [List.getElem?_eq_none (by simp [degs_len]; omega), List.getElem?_eq_none (by simp [degs_len]; omega)]
theorem deg_ways (n : Int) : n < 0 ∨ (¬ n < 0 ∧ n > 1048576) ∨ ∃ m : Nat, n = m ∧ m ≤ 1048576 := by
  by_cases h : n < 0
  · exact .inl h
  · by_cases h2 : n > 1048576
    · exact .inr (.inl ⟨h, h2⟩)
    · exact .inr (.inr ⟨n.toNat, by omega, by omega⟩)
theorem seg_ways (n : Nat) (A B : Int) : A < 0 ∨ (¬ A < 0 ∧ A ≥ n) ∨ (¬ A < 0 ∧ ¬ A ≥ n ∧ B < 0) ∨ (¬ A < 0 ∧ ¬ A ≥ n ∧ ¬ B < 0 ∧ B ≥ n) ∨ (¬ A < 0 ∧ ¬ A ≥ n ∧ ¬ B < 0 ∧ ¬ B ≥ n ∧ A = B) ∨ ∃ a b : Nat, A = a ∧ B = b ∧ a < n ∧ b < n ∧ a ≠ b := by
  by_cases h1 : A < 0
  · exact .inl h1
  by_cases h2 : A ≥ n
  · exact .inr (.inl ⟨h1, h2⟩)
  by_cases h3 : B < 0
  · exact .inr (.inr (.inl ⟨h1, h2, h3⟩))
  by_cases h4 : B ≥ n
  · exact .inr (.inr (.inr (.inl ⟨h1, h2, h3, h4⟩)))
  by_cases h5 : A = B
  · exact .inr (.inr (.inr (.inr (.inl ⟨h1, h2, h3, h4, h5⟩))))
  · exact .inr (.inr (.inr (.inr (.inr ⟨A.toNat, B.toNat, by omega, by omega, by omega, by omega, by omega⟩))))
theorem degR_neg {n : Int} {l : List (Int × Int)} (h : n < 0 ∨ n > 1048576) : degR n l = ([], 2) := by
  unfold degR argBad
  rw [if_pos]
  rcases h with h | h <;> simp [h]
theorem degR_bad {n : Int} {l : List (Int × Int)} {k : Nat} {A B : Int} (h : l[k]? = some (A, B)) (hb : segBad n (A, B) = true) : degR n l = ([], 2) := by
  unfold degR argBad
  rw [if_pos]
  have : l.any (segBad n) = true := List.any_eq_true.2 ⟨_, List.mem_of_getElem? h, hb⟩
  simp [this]
theorem degR_ok {n : Nat} {l : List (Int × Int)} (hn : n ≤ 1048576) (h : l.any (segBad n) = false) : degR n l = (degs n l, 0) := by
  unfold degR argBad
  rw [h, if_neg (by simp; omega)]
  rfl
theorem bad_succ {n : Nat} {l : List (Int × Int)} {k a b : Nat} (h0 : (l.take k).any (segBad n) = false) (h : l[k]? = some ((a : Int), (b : Int))) (hab : a ≠ b) (ha : a < n) (hb : b < n) : (l.take (k + 1)).any (segBad n) = false := by
  rw [take_succ' h, List.any_append, h0]
  simp [segBad]
  omega
/-- The first number from one on, of so many, of which something holds; -1: of none. -/
def firstFrom (p : Nat → Bool) : Nat → Nat → Int
  | _, 0 => -1
  | k, n + 1 => if p k then k else firstFrom p (k + 1) n
theorem first_at {p : Nat → Bool} : ∀ {n i k : Nat}, (∀ j, i ≤ j → j < k → p j = false) → p k = true → i ≤ k → k < i + n → firstFrom p i n = k
  | 0, i, k, _, _, h1, h2 => by omega
  | n + 1, i, k, h, hk, h1, h2 => by
    unfold firstFrom
    by_cases e : i = k
    · subst e; rw [if_pos hk]
    · rw [if_neg (by rw [h i (Nat.le_refl _) (by omega)]; decide)]
      exact first_at (fun j hj1 hj2 => h j (by omega) hj2) hk (by omega) (by omega)
theorem first_none {p : Nat → Bool} : ∀ {n i : Nat}, (∀ j, i ≤ j → j < i + n → p j = false) → firstFrom p i n = -1
  | 0, i, _ => rfl
  | n + 1, i, h => by
    unfold firstFrom
    rw [if_neg (by rw [h i (Nat.le_refl _) (by omega)]; decide)]
    exact first_none fun j hj1 hj2 => h j (by omega) (by omega)
theorem none_succ {p : Nat → Bool} {k : Nat} (h : ∀ j, 0 ≤ j → j < k → p j = false) (hk : p k = false) : ∀ j, 0 ≤ j → j < k + 1 → p j = false := fun j h0 hj => by
  by_cases e : j = k
  · rw [e]; exact hk
  · exact h j h0 (by omega)
/-- A segment's ends, the lesser one first. -/
def nrm (s : Int × Int) : Int × Int := (min s.1 s.2, max s.1 s.2)
def isTw (l : List (Int × Int)) (k : Nat) : Bool := match l[k]? with
  | some s => decide (nrm s ∈ ((l.take k).map nrm).reverse)
  | none => false
/-- The first segment that was there; -1: none. -/
def twF (l : List (Int × Int)) : Int := firstFrom (isTw l) 0 l.length
theorem isTw_at {l : List (Int × Int)} {k : Nat} {s : Int × Int} (h : l[k]? = some s) : isTw l k = decide (nrm s ∈ ((l.take k).map nrm).reverse) := by unfold isTw; rw [h]
theorem nrm_succ {l : List (Int × Int)} {k : Nat} {s : Int × Int} (h : l[k]? = some s) : nrm s :: ((l.take k).map nrm).reverse = ((l.take (k + 1)).map nrm).reverse := by rw [take_succ' h]; simp
theorem min_if (a b : Int) : (if b < a then b else a) = min a b := by split <;> omega
theorem max_if (a b : Int) : (if a < b then b else a) = max a b := by split <;> omega
def ringBad (z : Int) : Bool := z != 0 && z != 2
def badAt (d : List Int) (k : Nat) : Bool := match d[k]? with
  | some z => ringBad z
  | none => false
theorem badAt_at {d : List Int} {k : Nat} {z : Int} (h : d[k]? = some z) : badAt d k = ringBad z := by unfold badAt; rw [h]
/-- The first place where something is that is neither 0 nor 2; -1: none. -/
def idxF (d : List Int) : Int := firstFrom (badAt d) 0 d.length
/-- Two neighbours, in the order in which they came. -/
def putP (s : Int × Int) (v : Int) : Int × Int := if s.1 < 0 then (v, s.2) else (s.1, v)
def stepN (xs : List (Int × Int)) (s : Int × Int) : List (Int × Int) :=
  (xs.set s.1.toNat (putP (xs.getD s.1.toNat (0, 0)) s.2)).set s.2.toNat (putP (xs.getD s.2.toNat (0, 0)) s.1)
/-- The neighbours of all places. -/
def nbF (n : Nat) (l : List (Int × Int)) : List (Int × Int) := l.foldl stepN (List.replicate n (-1, -1))
theorem stepN_len (xs : List (Int × Int)) (s : Int × Int) : (stepN xs s).length = xs.length := by simp [stepN]
theorem foldN_len : ∀ (l xs : List (Int × Int)), (l.foldl stepN xs).length = xs.length
  | [], xs => rfl
  | s :: l, xs => by rw [List.foldl_cons, foldN_len l, stepN_len]
theorem nbF_len (n : Nat) (l : List (Int × Int)) : (nbF n l).length = n := by rw [nbF, foldN_len, List.length_replicate]
theorem getD_of {α : Type} {l : List α} {k : Nat} {d : α} (h : k < l.length) : l[k]? = some (l.getD k d) := by
  rw [List.getD_eq_getElem?_getD, List.getElem?_eq_getElem h]; rfl
theorem nbF_at {n : Nat} {l : List (Int × Int)} {i : Nat} (h : i < n) : (nbF n l)[i]? = some ((nbF n l).getD i (0, 0)) := getD_of (by rw [nbF_len]; exact h)
theorem nbF_succ {n k a b : Nat} {l : List (Int × Int)} (h : l[k]? = some ((a : Int), (b : Int))) :
    ((nbF n (l.take k)).set a (putP ((nbF n (l.take k)).getD a (0, 0)) b)).set b (putP ((nbF n (l.take k)).getD b (0, 0)) a) = nbF n (l.take (k + 1)) := by
  unfold nbF
  rw [take_succ' h, List.foldl_append]
  rfl
/-- The way round from a place: where one comes from, and where one is. -/
def seqR (nb : List (Int × Int)) (i : Int) : Nat → Int × Int
  | 0 => (i, min (nb.getD i.toNat (0, 0)).1 (nb.getD i.toNat (0, 0)).2)
  | j + 1 => ((seqR nb i j).2, if (nb.getD (seqR nb i j).2.toNat (0, 0)).1 = (seqR nb i j).1 then (nb.getD (seqR nb i j).2.toNat (0, 0)).2 else (nb.getD (seqR nb i j).2.toNat (0, 0)).1)
def ringTo (nb : List (Int × Int)) (i : Int) (j : Nat) : List Int := i :: (List.range j).map fun t => (seqR nb i t).2
/-- How far it is until one is back. -/
def lenR (nb : List (Int × Int)) (i : Int) : Nat := (firstFrom (fun t => (seqR nb i t).2 == i) 0 (nb.length + 1)).toNat
def ringAt (nb : List (Int × Int)) (i : Int) : List Int := ringTo nb i (lenR nb i)
/-- The loops from the first so many places. -/
def outF (nb : List (Int × Int)) (d : List Int) : Nat → List (List Int)
  | 0 => []
  | k + 1 => if d.getD k 0 = 0 ∨ (k : Int) ∈ (outF nb d k).flatten then outF nb d k else outF nb d k ++ [ringAt nb k]
def ringsR (n : Int) (l : List (Int × Int)) : List (List Int) × Int × Int :=
  if argBad n l then ([], 0, 2)
  else if twF l ≥ 0 then ([], twF l, 80)
  else if idxF (degs n.toNat l) ≥ 0 then ([], idxF (degs n.toNat l), 81)
  else (outF (nbF n.toNat l) (degs n.toNat l) n.toNat, 0, 0)
/-- One comes back. -/
def Back (n : Nat) (nb : List (Int × Int)) (i : Nat) : Prop := ∃ m, m ≤ n ∧ (seqR nb i m).2 = i ∧ ∀ t, t < m → (seqR nb i t).2 ≠ i ∧ ∃ c : Nat, (seqR nb i t).2 = c ∧ c < n
theorem Back.len {n : Nat} {nb : List (Int × Int)} {i : Nat} (hn : nb.length = n) (h : Back n nb i) : lenR nb i ≤ n ∧ (seqR nb i (lenR nb i)).2 = i ∧ ∀ t, t < lenR nb i → (seqR nb i t).2 ≠ i ∧ ∃ c : Nat, (seqR nb i t).2 = c ∧ c < n := by
  obtain ⟨m, h1, h2, h3⟩ := h
  have e : lenR nb i = m := by
    unfold lenR
    rw [first_at (k := m) (fun j _ hj => by simpa using (h3 j hj).1) (by simpa using h2) (Nat.zero_le _) (by omega)]
    rfl
  rw [e]
  exact ⟨h1, h2, h3⟩
theorem ring_ways (n : Int) (l : List (Int × Int)) : argBad n l = true ∨ ∃ m : Nat, n = m ∧ m ≤ 1048576 ∧ l.any (segBad m) = false ∧ (twF l ≥ 0 ∨ (¬ twF l ≥ 0 ∧ (idxF (degs m l) ≥ 0 ∨ ¬ idxF (degs m l) ≥ 0))) := by
  cases h : argBad n l with
  | true => exact .inl rfl
  | false =>
    right
    unfold argBad at h
    simp only [Bool.or_eq_false_iff, decide_eq_false_iff_not] at h
    refine ⟨n.toNat, by omega, by omega, ?_, ?_⟩
    · rw [show ((n.toNat : Nat) : Int) = n by omega]; exact h.2
    · by_cases h1 : twF l ≥ 0
      · exact .inl h1
      · exact .inr ⟨h1, Classical.em _⟩
theorem seg_ok {n : Nat} {l : List (Int × Int)} (h : l.any (segBad n) = false) {s : Int × Int} (hs : s ∈ l) : ∃ a b : Nat, s = ((a : Int), (b : Int)) ∧ a < n ∧ b < n ∧ a ≠ b := by
  have := List.any_eq_false.1 h s hs
  unfold segBad at this
  simp only [Bool.or_eq_true, decide_eq_true_eq, beq_iff_eq, not_or] at this
  obtain ⟨A, B⟩ := s
  simp only at this
  exact ⟨A.toNat, B.toNat, by simp only [Prod.mk.injEq]; omega, by omega, by omega, by omega⟩
theorem argBad_ok {m : Nat} {l : List (Int × Int)} (hm : m ≤ 1048576) (h : l.any (segBad m) = false) : argBad m l = false := by
  unfold argBad
  rw [h]
  simp
  omega
theorem rep_set {β : Type} {k m : Nat} (x y : β) (h : k < m) : (List.replicate k x ++ List.replicate (m - k) y).set k x = List.replicate (k + 1) x ++ List.replicate (m - (k + 1)) y := by
  apply List.ext_getElem?
  intro j
  rw [List.getElem?_set]
  simp only [List.length_append, List.length_replicate]
  by_cases h1 : k = j
  · subst h1
    rw [if_pos rfl, if_pos (by omega), List.getElem?_append_left (by simp), List.getElem?_replicate, if_pos (by omega)]
  · rw [if_neg h1]
    simp only [List.getElem?_append, List.length_replicate, List.getElem?_replicate]
    repeat' split
    all_goals first | rfl | (exfalso; omega)
/-- Which places are in some rows. -/
def seenL (n : Nat) (r : List Int) : List Bool := (List.range n).map fun v : Nat => decide ((v : Int) ∈ r)
theorem seenL_len (n : Nat) (r : List Int) : (seenL n r).length = n := by simp [seenL]
theorem seenL_at {n : Nat} {r : List Int} {i : Nat} (h : i < n) : (seenL n r)[i]? = some (decide ((i : Int) ∈ r)) := by simp [seenL, h]
theorem seenL_nil (n : Nat) : seenL n [] = List.replicate n false := by
  apply List.ext_getElem?
  intro j
  by_cases h : j < n <;> simp [seenL, h]
theorem seenL_set {β : Type} (f : Bool → β) {n c : Nat} {r : List Int} (h : c < n) : ((seenL n r).map f).set c (f true) = (seenL n (r ++ [(c : Int)])).map f := by
  apply List.ext_getElem?
  intro j
  rw [List.getElem?_set]
  simp only [List.length_map, seenL_len]
  by_cases hj : j < n
  · rw [List.getElem?_map, List.getElem?_map, seenL_at hj, seenL_at hj]
    by_cases h1 : c = j
    · subst h1; simp [h]
    · rw [if_neg h1]
      simp only [Option.map_some, List.mem_append, List.mem_singleton]
      congr 2
      simp
      omega
  · rw [if_neg (by omega), List.getElem?_eq_none (by simp [seenL_len]; omega), List.getElem?_eq_none (by simp [seenL_len]; omega)]
theorem outF_skip {nb : List (Int × Int)} {d : List Int} {k : Nat} (h : d.getD k 0 = 0 ∨ (k : Int) ∈ (outF nb d k).flatten) : outF nb d (k + 1) = outF nb d k := by
  show (if _ then _ else _) = _
  rw [if_pos h]
theorem outF_ring {nb : List (Int × Int)} {d : List Int} {k : Nat} (h : ¬ d.getD k 0 = 0) (h2 : ¬ (k : Int) ∈ (outF nb d k).flatten) : outF nb d (k + 1) = outF nb d k ++ [ringAt nb k] := by
  show (if _ then _ else _) = _
  rw [if_neg (by rintro (h' | h'); exact h h'; exact h2 h')]
theorem outF_len (nb : List (Int × Int)) (d : List Int) : ∀ k, (outF nb d k).length ≤ k
  | 0 => Nat.le_refl _
  | k + 1 => by
    have := outF_len nb d k
    show (if _ then _ else _ : List (List Int)).length ≤ _
    split
    · omega
    · simp; omega
theorem ringTo_len (nb : List (Int × Int)) (i : Int) (j : Nat) : (ringTo nb i j).length = j + 1 := by simp [ringTo]
theorem ringTo_succ {β : Type} (f : Int → β) (nb : List (Int × Int)) (i : Int) (j : Nat) : (ringTo nb i j).map f ++ [f (seqR nb i j).2] = (ringTo nb i (j + 1)).map f := by
  unfold ringTo
  rw [List.range_succ]
  simp
theorem ringTo_at {n : Nat} {nb : List (Int × Int)} {i : Nat} (hi : i < n) {m : Nat} (h : ∀ t, t < m → (seqR nb i t).2 ≠ i ∧ ∃ c : Nat, (seqR nb i t).2 = c ∧ c < n) : ∀ j, j < m + 1 → ∃ c : Nat, (ringTo nb i m)[j]? = some (c : Int) ∧ c < n
  | 0, _ => ⟨i, rfl, hi⟩
  | j + 1, hj => by
    obtain ⟨c, h1, h2⟩ := (h j (by omega)).2
    refine ⟨c, ?_, h2⟩
    unfold ringTo
    rw [List.getElem?_cons_succ, List.getElem?_map, List.getElem?_range (by omega), ← h1]
    rfl
theorem ringsR_bad {n : Int} {l : List (Int × Int)} (h : argBad n l = true) : ringsR n l = ([], 0, 2) := by unfold ringsR; rw [if_pos h]
theorem ringsR_tw {n : Int} {l : List (Int × Int)} (h : argBad n l = false) (hT : twF l ≥ 0) : ringsR n l = ([], twF l, 80) := by unfold ringsR; rw [h, if_neg (by decide), if_pos hT]
theorem ringsR_ix {m : Nat} {l : List (Int × Int)} (h : argBad m l = false) (hT : ¬ twF l ≥ 0) (hI : idxF (degs m l) ≥ 0) : ringsR m l = ([], idxF (degs m l), 81) := by
  unfold ringsR
  rw [Int.toNat_natCast, h, if_neg (by decide), if_neg hT, if_pos hI]
theorem ringsR_ok {m : Nat} {l : List (Int × Int)} (h : argBad m l = false) (hT : ¬ twF l ≥ 0) (hI : ¬ idxF (degs m l) ≥ 0) : ringsR m l = (outF (nbF m l) (degs m l) m, 0, 0) := by
  unfold ringsR
  rw [Int.toNat_natCast, h, if_neg (by decide), if_neg hT, if_neg hI]
theorem seg_bd {m : Nat} {l : List (Int × Int)} (hm : m ≤ 1048576) (hok : l.any (segBad m) = false) : ∀ s ∈ l, 0 ≤ s.1 ∧ s.1 ≤ 1048576 ∧ 0 ≤ s.2 ∧ s.2 ≤ 1048576 := fun s hs => by
  obtain ⟨a, b, rfl, h1, h2, _⟩ := seg_ok hok hs
  simp only
  omega
theorem degs_getD {m k : Nat} {l : List (Int × Int)} (h : k < m) : (degs m l).getD k 0 = cntE l k := by rw [List.getD_eq_getElem?_getD, degs_at h]; rfl
theorem three (p q : Prop) : p ∨ (¬ p ∧ q) ∨ (¬ p ∧ ¬ q) := by
  rcases Classical.em p with h | h
  · exact .inl h
  · rcases Classical.em q with h2 | h2
    · exact .inr (.inl ⟨h, h2⟩)
    · exact .inr (.inr ⟨h, h2⟩)
theorem ringAt_at {n : Nat} {nb : List (Int × Int)} {i : Nat} (hi : i < n) (h : ∀ t, t < lenR nb i → (seqR nb i t).2 ≠ i ∧ ∃ c : Nat, (seqR nb i t).2 = c ∧ c < n) {j : Nat} (hj : j < (ringAt nb i).length) : ∃ c : Nat, (ringAt nb i)[j]? = some (c : Int) ∧ c < n :=
  ringTo_at hi h j (by unfold ringAt at hj; rw [ringTo_len] at hj; exact hj)
/-! ### Rows against each other -/
theorem take_same {α : Type} {l m : List α} {k : Nat} {x y : α} (h : l.take k = m.take k) (h1 : l[k]? = some x) (h2 : m[k]? = some y) (e : x = y) : l.take (k + 1) = m.take (k + 1) := by
  rw [take_succ' h1, take_succ' h2, h, e]
theorem at_apart {α : Type} {l m : List α} {k : Nat} {x y : α} (h1 : l[k]? = some x) (h2 : m[k]? = some y) (e : x ≠ y) : l ≠ m := fun h => by
  subst h
  rw [h1] at h2
  cases h2
  exact e rfl
theorem take_whole {α : Type} {l m : List α} (hl : l.length = m.length) (h : l.take l.length = m.take l.length) : l = m := by
  rw [List.take_length, hl, List.take_length] at h
  exact h
/-! ### Segments of rings -/
def segTo (r : List Int) (j : Nat) : List (Int × Int) := (List.range j).map fun i => (r.getD i 0, r.getD ((i + 1) % r.length) 0)
def segsR (rs : List (List Int)) : List (Int × Int) := (rs.map fun r => segTo r r.length).flatten
theorem segTo_succ {r : List Int} {j : Nat} {x y : Int} (hx : r[j]? = some x) (hy : r[(j + 1) % r.length]? = some y) : segTo r j ++ [(x, y)] = segTo r (j + 1) := by
  unfold segTo
  rw [List.range_succ, List.map_append, List.map_cons, List.map_nil, List.getD_eq_getElem?_getD, List.getD_eq_getElem?_getD, hx, hy]
  rfl
theorem segsR_succ {rs : List (List Int)} {k : Nat} {r : List Int} (h : rs[k]? = some r) : segsR (rs.take k) ++ segTo r r.length = segsR (rs.take (k + 1)) := by
  unfold segsR
  rw [take_succ' h]
  simp
theorem segTo_len (r : List Int) (j : Nat) : (segTo r j).length = j := by simp [segTo]
theorem segsR_le (rs : List (List Int)) : ∀ k, (segsR (rs.take k)).length ≤ (segsR rs).length := fun k => by
  have h : segsR rs = segsR (rs.take k) ++ segsR (rs.drop k) := by
    unfold segsR
    rw [← List.flatten_append, ← List.map_append, List.take_append_drop]
  rw [h, List.length_append]
  omega
theorem segs_bound {rs : List (List Int)} {k j : Nat} {r : List Int} (h : rs[k]? = some r) (hj : j ≤ r.length) : (segsR (rs.take k)).length + j ≤ (segsR rs).length := by
  have h1 := segsR_le rs (k + 1)
  rw [← segsR_succ h, List.length_append, segTo_len] at h1
  omega
theorem tmod_nat (a b : Nat) : ((a : Int)).tmod (b : Int) = ((a % b : Nat) : Int) := by rw [Int.tmod_eq_emod_of_nonneg (by omega)]; rfl
/-! ### The document's words -/
theorem seg_ways2 (n : Nat) (A B : Int) : A = B ∨ (A ≠ B ∧ A < 0) ∨ (A ≠ B ∧ ¬ A < 0 ∧ A ≥ n) ∨ (A ≠ B ∧ ¬ A < 0 ∧ ¬ A ≥ n ∧ B < 0) ∨ (A ≠ B ∧ ¬ A < 0 ∧ ¬ A ≥ n ∧ ¬ B < 0 ∧ B ≥ n) ∨ ∃ a b : Nat, A = a ∧ B = b ∧ a < n ∧ b < n ∧ a ≠ b := by
  by_cases h5 : A = B
  · exact .inl h5
  by_cases h1 : A < 0
  · exact .inr (.inl ⟨h5, h1⟩)
  by_cases h2 : A ≥ n
  · exact .inr (.inr (.inl ⟨h5, h1, h2⟩))
  by_cases h3 : B < 0
  · exact .inr (.inr (.inr (.inl ⟨h5, h1, h2, h3⟩)))
  by_cases h4 : B ≥ n
  · exact .inr (.inr (.inr (.inr (.inl ⟨h5, h1, h2, h3, h4⟩))))
  · exact .inr (.inr (.inr (.inr (.inr ⟨A.toNat, B.toNat, by omega, by omega, by omega, by omega, by omega⟩))))
theorem like_ways (s t : Int × Int) : (s.1 = t.1 ∧ s.2 = t.2 ∧ nrm s = nrm t) ∨ (s.1 = t.1 ∧ s.2 ≠ t.2 ∧ s.1 = t.2 ∧ s.2 = t.1 ∧ nrm s = nrm t) ∨ (s.1 = t.1 ∧ s.2 ≠ t.2 ∧ s.1 = t.2 ∧ s.2 ≠ t.1 ∧ nrm s ≠ nrm t) ∨ (s.1 = t.1 ∧ s.2 ≠ t.2 ∧ s.1 ≠ t.2 ∧ nrm s ≠ nrm t) ∨
    (s.1 ≠ t.1 ∧ s.1 = t.2 ∧ s.2 = t.1 ∧ nrm s = nrm t) ∨ (s.1 ≠ t.1 ∧ s.1 = t.2 ∧ s.2 ≠ t.1 ∧ nrm s ≠ nrm t) ∨ (s.1 ≠ t.1 ∧ s.1 ≠ t.2 ∧ nrm s ≠ nrm t) := by
  unfold nrm
  simp only [Prod.mk.injEq, ne_eq]
  omega
def cand (at_ : Int) (s : Int × Int) : Int := if s.2 = at_ then s.1 else if s.1 = at_ then s.2 else -1
def cutK (row : List Int) (k : Int) : Int := if k ∈ row then -1 else k
def bestK (best k : Int) : Int := if k ≥ 0 ∧ (best < 0 ∨ k < best) then k else best
def besF (l : List (Int × Int)) (at_ : Int) (row : List Int) : Int := l.foldl (fun b s => bestK b (cutK row (cand at_ s))) (-1)
theorem besF_succ {l : List (Int × Int)} {k : Nat} {s : Int × Int} (h : l[k]? = some s) (at_ : Int) (row : List Int) : besF (l.take (k + 1)) at_ row = bestK (besF (l.take k) at_ row) (cutK row (cand at_ s)) := by
  unfold besF
  rw [take_succ' h, List.foldl_append]
  rfl
theorem cutK_hit {row : List Int} {j : Nat} {x c : Int} (h : row[j]? = some x) (e : x = cutK (row.take j) c) : cutK (row.take (j + 1)) c = -1 := by
  unfold cutK at *
  rw [take_succ' h]
  split at e
  · rename_i hm; rw [if_pos (List.mem_append_left _ hm)]
  · rw [if_pos (by rw [e]; simp)]
theorem cutK_miss {row : List Int} {j : Nat} {x c : Int} (h : row[j]? = some x) (e : x ≠ cutK (row.take j) c) : cutK (row.take (j + 1)) c = cutK (row.take j) c := by
  unfold cutK at *
  rw [take_succ' h]
  by_cases hm : c ∈ row.take j
  · rw [if_pos hm, if_pos (List.mem_append_left _ hm)]
  · rw [if_neg hm] at e ⊢
    rw [if_neg (by simp [hm]; exact fun h => e h.symm)]
theorem best_ways (b k : Int) : (¬ k ≥ 0 ∧ bestK b k = b) ∨ (k ≥ 0 ∧ b < 0 ∧ bestK b k = k) ∨ (k ≥ 0 ∧ ¬ b < 0 ∧ k < b ∧ bestK b k = k) ∨ (k ≥ 0 ∧ ¬ b < 0 ∧ ¬ k < b ∧ bestK b k = b) := by
  unfold bestK
  by_cases h1 : k ≥ 0 <;> by_cases h2 : b < 0 <;> by_cases h3 : k < b <;> simp [h1, h2, h3]
end Go.Proofs.Ytcifcohkjifadaa

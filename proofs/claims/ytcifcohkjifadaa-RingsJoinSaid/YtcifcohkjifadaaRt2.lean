/- Loops in plain words: the document's way goes the same way. -/
import Derived.Test.YtcifcohkjifadaaRt
set_option linter.unusedVariables false
set_option linter.unusedSimpArgs false
namespace Go.Proofs.Ytcifcohkjifadaa
theorem besF_nbs {x : Nat} {row : List Int} : ∀ {l : List (Int × Int)}, (∀ s ∈ l, s.1 ≠ s.2) → ∀ b : Int, l.foldl (fun b s => bestK b (cutK row (cand x s))) b = (nbs l x).foldl (fun b k => bestK b (cutK row k)) b
  | [], _, b => rfl
  | s :: l, h, b => by
    have ih := besF_nbs (x := x) (row := row) (l := l) (fun s hs => h s (List.mem_cons_of_mem _ hs))
    have hs := h s List.mem_cons_self
    rw [List.foldl_cons, ih]
    unfold nbs
    rw [List.filterMap_cons]
    by_cases h1 : s.1 = (x : Int)
    · have h2 : s.2 ≠ (x : Int) := fun e => hs (h1.trans e.symm)
      have e : cand x s = s.2 := by unfold cand; rw [if_neg h2, if_pos h1]
      rw [if_pos h1, e]
      rfl
    · by_cases h2 : s.2 = (x : Int)
      · have e : cand x s = s.1 := by unfold cand; rw [if_pos h2]
        rw [if_neg h1, if_pos h2, e]
        rfl
      · have e : cand x s = -1 := by unfold cand; rw [if_neg h2, if_neg h1]
        have e2 : bestK b (cutK row (-1)) = b := by unfold cutK; split <;> simp [bestK]
        rw [if_neg h1, if_neg h2, e, e2]
theorem mem_ringTo {m : Nat} {l : List (Int × Int)} (T : Two m l) {i : Nat} (hi : i < m) (h : cntE l i ≠ 0) {j : Nat} {x : Int} : x ∈ ringTo (nbF m l) i j ↔ ∃ t, t ≤ j ∧ x = ((at_ (pN (nbF m l)) (qN (nbF m l)) i t : Nat) : Int) := by
  unfold ringTo
  rw [List.mem_cons, List.mem_map]
  constructor
  · rintro (rfl | ⟨t, ht, rfl⟩)
    · exact ⟨0, Nat.zero_le _, rfl⟩
    · rw [T.seq hi h t]
      exact ⟨t + 1, by have := List.mem_range.1 ht; omega, rfl⟩
  · rintro ⟨t, ht, rfl⟩
    cases t with
    | zero => exact .inl rfl
    | succ t => exact .inr ⟨t, List.mem_range.2 (by omega), by rw [T.seq hi h t]⟩
theorem Two.lenK {m : Nat} {l : List (Int × Int)} (T : Two m l) {i : Nat} (hi : i < m) (h : cntE l i ≠ 0) : ∃ k, lenR (nbF m l) i = k ∧ k < m ∧ at_ (pN (nbF m l)) (qN (nbF m l)) i (k + 1) = i ∧ ∀ u, 1 ≤ u → u ≤ k → at_ (pN (nbF m l)) (qN (nbF m l)) i u ≠ i := by
  obtain ⟨k, h1, h2, h3⟩ := T.reg.back (i := i) ⟨hi, h⟩
  refine ⟨k, ?_, h1, h2, h3⟩
  unfold lenR
  have e1 : ∀ j, 0 ≤ j → j < k → (fun t => (seqR (nbF m l) (i : Int) t).2 == (i : Int)) j = false := fun j _ hj => by
    have := h3 (j + 1) (by omega) (by omega)
    show ((seqR (nbF m l) (i : Int) j).2 == (i : Int)) = false
    rw [T.seq hi h]
    simp only [beq_eq_false_iff_ne, ne_eq]
    omega
  have e2 : (fun t => (seqR (nbF m l) (i : Int) t).2 == (i : Int)) k = true := by
    show ((seqR (nbF m l) (i : Int) k).2 == (i : Int)) = true
    rw [T.seq hi h, h2]
    simp
  rw [first_at e1 e2 (Nat.zero_le _) (by rw [nbF_len]; omega)]
  rfl
theorem best_l {x : Int} (h : 0 ≤ x) : bestK (bestK (-1) (-1)) x = x := by unfold bestK; split <;> split <;> omega
theorem best_r {x : Int} (h : 0 ≤ x) : bestK (bestK (-1) x) (-1) = x := by unfold bestK; split <;> split <;> omega
theorem best_m {x y : Int} (hx : 0 ≤ x) (hy : 0 ≤ y) : bestK (bestK (-1) x) y = min x y := by unfold bestK; split <;> split <;> omega
theorem Two.bes {m : Nat} {l : List (Int × Int)} (T : Two m l) {i : Nat} (hi : i < m) (h : cntE l i ≠ 0) {j : Nat} (hj : j ≤ lenR (nbF m l) i) :
    besF l (seqR (nbF m l) i j).1 (ringTo (nbF m l) i j) = if j < lenR (nbF m l) i then (seqR (nbF m l) i j).2 else -1 := by
  obtain ⟨k, hk, k1, k2, k3⟩ := T.lenK hi h
  rw [hk] at hj ⊢
  have hV : i < m ∧ cntE l i ≠ 0 := ⟨hi, h⟩
  rw [T.seq hi h]
  obtain ⟨w1, w2⟩ := T.reg.way_ok (i := i) hV j
  obtain ⟨nb1, nb2, nb3⟩ := T.pq w1.1 w1.2
  have hap := T.reg.apart (i := i) hV k k3
  have e0 : besF l ((at_ (pN (nbF m l)) (qN (nbF m l)) i j : Nat) : Int) (ringTo (nbF m l) i j) = bestK (bestK (-1) (cutK (ringTo (nbF m l) i j) ((pN (nbF m l) (at_ (pN (nbF m l)) (qN (nbF m l)) i j) : Nat) : Int))) (cutK (ringTo (nbF m l) i j) ((qN (nbF m l) (at_ (pN (nbF m l)) (qN (nbF m l)) i j) : Nat) : Int)) := by
    unfold besF
    rw [besF_nbs T.S.ne, nb1]
    rfl
  simp only
  rw [e0]
  have hin : ∀ c : Nat, (∃ t, t ≤ j ∧ c = at_ (pN (nbF m l)) (qN (nbF m l)) i t) → cutK (ringTo (nbF m l) i j) (c : Int) = -1 := fun c hc => by
    obtain ⟨t, ht, rfl⟩ := hc
    unfold cutK
    rw [if_pos ((mem_ringTo T hi h).2 ⟨t, ht, rfl⟩)]
  have hout : ∀ c : Nat, (∀ t, t ≤ j → c ≠ at_ (pN (nbF m l)) (qN (nbF m l)) i t) → cutK (ringTo (nbF m l) i j) (c : Int) = c := fun c hc => by
    unfold cutK
    rw [if_neg (fun hm => by
      obtain ⟨t, ht, e⟩ := (mem_ringTo T hi h).1 hm
      exact hc t ht (by omega))]
  cases j with
  | zero =>
    have a1 : ∀ c : Nat, c ≠ i → ∀ t, t ≤ 0 → c ≠ at_ (pN (nbF m l)) (qN (nbF m l)) i t := fun c hc t ht => by
      obtain rfl : t = 0 := by omega
      exact hc
    rw [at_0, hout _ (a1 _ (T.reg.pi i hV)), hout _ (a1 _ (T.reg.qi i hV)), best_m (by omega) (by omega), if_pos, at_1]
    · omega
    · rcases Nat.eq_zero_or_pos k with h0 | h0
      · subst h0
        rw [at_1] at k2
        have := T.reg.pi i hV
        have := T.reg.qi i hV
        omega
      · exact h0
  | succ t =>
    obtain ⟨v1, v2⟩ := T.reg.way_ok (i := i) hV t
    have hb := T.reg.nb_sym v1 v2
    have hne := T.reg.way_ne2 (i := i) hV t
    have hprev : cutK (ringTo (nbF m l) i (t + 1)) ((at_ (pN (nbF m l)) (qN (nbF m l)) i t : Nat) : Int) = -1 := hin _ ⟨t, by omega, rfl⟩
    have hnext : cutK (ringTo (nbF m l) i (t + 1)) ((at_ (pN (nbF m l)) (qN (nbF m l)) i (t + 2) : Nat) : Int) = if t + 1 < k then ((at_ (pN (nbF m l)) (qN (nbF m l)) i (t + 2) : Nat) : Int) else -1 := by
      split
      · rename_i hlt
        exact hout _ (fun u hu => (hap u (t + 2) (by omega) (by omega)).symm)
      · rename_i hlt
        obtain rfl : k = t + 1 := by omega
        exact hin _ ⟨0, Nat.zero_le _, k2⟩
    rcases hb with hb | hb <;> rcases w2 with w2 | w2
    · exact absurd (w2.trans hb.symm) hne
    · rw [← hb, ← w2, hprev, hnext]
      split
      · exact best_l (by omega)
      · rfl
    · rw [← hb, ← w2, hprev, hnext]
      split
      · exact best_r (by omega)
      · rfl
    · exact absurd (w2.trans hb.symm) hne
theorem ringTo_last (nb : List (Int × Int)) (i : Int) (j : Nat) : (ringTo nb i j)[j]? = some (seqR nb i j).1 := by
  unfold ringTo
  cases j with
  | zero => rfl
  | succ j =>
    rw [List.getElem?_cons_succ, List.getElem?_map, List.getElem?_range (by omega)]
    rfl
theorem first_le (p : Nat → Bool) : ∀ n i, firstFrom p i n < i + n
  | 0, i => by unfold firstFrom; omega
  | n + 1, i => by
    unfold firstFrom
    split
    · omega
    · have := first_le p n (i + 1); omega
theorem lenR_le (nb : List (Int × Int)) (i : Int) : lenR nb i ≤ nb.length := by
  have := first_le (fun t => (seqR nb i t).2 == i) (nb.length + 1) 0
  unfold lenR
  omega
theorem outF_flat (nb : List (Int × Int)) (d : List Int) : ∀ k, (outF nb d k).flatten.length ≤ k * (nb.length + 1)
  | 0 => by simp [outF]
  | k + 1 => by
    have ih := outF_flat nb d k
    have h1 := lenR_le nb k
    have h2 : (ringAt nb (k : Int)).length = lenR nb k + 1 := ringTo_len _ _ _
    show (if _ then _ else _ : List (List Int)).flatten.length ≤ _
    rw [Nat.add_mul]
    split
    · omega
    · rw [List.flatten_append, List.length_append, List.flatten_cons, List.flatten_nil, List.append_nil, h2]; omega
theorem outF_flat_succ {nb : List (Int × Int)} {d : List Int} {k : Nat} (h : outF nb d (k + 1) = outF nb d k ++ [ringAt nb k]) : (outF nb d k).flatten ++ ringAt nb k = (outF nb d (k + 1)).flatten := by rw [h]; simp
theorem flat_mem_len {r : List Int} {rs : List (List Int)} (h : r ∈ rs) : r.length ≤ rs.flatten.length := by
  induction rs with
  | nil => cases h
  | cons a rs ih =>
    rw [List.flatten_cons, List.length_append]
    rcases List.mem_cons.1 h with rfl | h
    · omega
    · have := ih h; omega
theorem outF_each (nb : List (Int × Int)) (d : List Int) : ∀ k, ∀ r ∈ outF nb d k, r.length ≤ nb.length + 1
  | 0, r, h => by cases h
  | k + 1, r, h => by
    have h0 : outF nb d (k + 1) = if d.getD k 0 = 0 ∨ (k : Int) ∈ (outF nb d k).flatten then outF nb d k else outF nb d k ++ [ringAt nb k] := rfl
    rw [h0] at h
    split at h
    · exact outF_each nb d k r h
    · rcases List.mem_append.1 h with h | h
      · exact outF_each nb d k r h
      · rw [List.mem_singleton.1 h]
        have h1 := lenR_le nb k
        have h2 : (ringAt nb (k : Int)).length = lenR nb k + 1 := ringTo_len _ _ _
        omega
theorem ringsR_bd (n : Int) (l : List (Int × Int)) : (ringsR n l).1.length ≤ 1048576 ∧ ∀ r ∈ (ringsR n l).1, r.length ≤ 1048577 := by
  rcases ring_ways n l with hA | ⟨m, rfl, hm, hok, hT | ⟨hT, hI | hI⟩⟩
  · rw [ringsR_bad hA]; exact ⟨Nat.zero_le _, fun r h => by cases h⟩
  · rw [ringsR_tw (argBad_ok hm hok) hT]; exact ⟨Nat.zero_le _, fun r h => by cases h⟩
  · rw [ringsR_ix (argBad_ok hm hok) hT hI]; exact ⟨Nat.zero_le _, fun r h => by cases h⟩
  · rw [ringsR_ok (argBad_ok hm hok) hT hI]
    refine ⟨Nat.le_trans (outF_len _ _ m) hm, fun r h => ?_⟩
    have := outF_each _ _ m r h
    rw [nbF_len] at this
    omega
theorem degR_bd (n : Int) (l : List (Int × Int)) : (degR n l).1.length ≤ 1048576 := by
  cases h : argBad n l with
  | true => unfold degR; rw [if_pos h]; exact Nat.zero_le _
  | false =>
    unfold degR; rw [h, if_neg (by decide)]
    unfold argBad at h
    simp only [Bool.or_eq_false_iff, decide_eq_false_iff_not] at h
    rw [degs_len]; omega
end Go.Proofs.Ytcifcohkjifadaa

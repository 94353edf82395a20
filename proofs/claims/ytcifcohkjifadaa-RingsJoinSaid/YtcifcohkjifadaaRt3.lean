/- Loops in plain words: they hang on the segments' ends alone, not on their order, nor on which end comes first. -/
import Derived.Test.YtcifcohkjifadaaRt2
set_option linter.unusedVariables false
set_option linter.unusedSimpArgs false
namespace Go.Proofs.Ytcifcohkjifadaa
/-- The same segments, in whichever order, from whichever end. -/
def Sm (l l' : List (Int × Int)) : Prop := (l.map nrm).Perm (l'.map nrm)
theorem segBad_nrm (n : Int) (s : Int × Int) : segBad n (nrm s) = segBad n s := by
  unfold segBad nrm
  rw [Bool.eq_iff_iff]
  simp only [Bool.or_eq_true, decide_eq_true_eq, beq_iff_eq]
  omega
theorem endsAt_nrm (i : Nat) (s : Int × Int) : endsAt i (nrm s) = endsAt i s := by
  unfold endsAt nrm
  simp only
  rcases Int.le_total s.1 s.2 with h | h
  · rw [Int.min_eq_left h, Int.max_eq_right h]
  · rw [Int.min_eq_right h, Int.max_eq_left h, Int.add_comm]
theorem perm_sum {l l' : List Int} (h : l.Perm l') : l.sum = l'.sum := by
  induction h with
  | nil => rfl
  | cons x _ ih => rw [List.sum_cons, List.sum_cons, ih]
  | swap x y l => rw [List.sum_cons, List.sum_cons, List.sum_cons, List.sum_cons]; omega
  | trans _ _ ih1 ih2 => exact ih1.trans ih2
theorem Sm.symm {l l' : List (Int × Int)} (h : Sm l l') : Sm l' l := List.Perm.symm h
theorem Sm.cnt {l l' : List (Int × Int)} (h : Sm l l') (i : Nat) : cntE l i = cntE l' i := by
  have e : ∀ l : List (Int × Int), cntE l i = ((l.map nrm).map (endsAt i)).sum := fun l => by
    unfold cntE
    rw [List.map_map]
    congr 1
    exact List.map_congr_left fun s _ => (endsAt_nrm i s).symm
  rw [e, e]
  exact perm_sum (List.Perm.map _ h)
theorem Sm.mem {l l' : List (Int × Int)} (h : Sm l l') {x : Int × Int} : x ∈ l.map nrm ↔ x ∈ l'.map nrm := List.Perm.mem_iff h
theorem any_nrm (n : Int) (l : List (Int × Int)) : l.any (segBad n) = true ↔ ∃ x ∈ l.map nrm, segBad n x = true := by
  rw [List.any_eq_true]
  constructor
  · rintro ⟨s, hs, e⟩; exact ⟨nrm s, List.mem_map_of_mem hs, by rw [segBad_nrm]; exact e⟩
  · rintro ⟨x, hx, e⟩
    obtain ⟨s, hs, rfl⟩ := List.mem_map.1 hx
    exact ⟨s, hs, by rw [segBad_nrm] at e; exact e⟩
theorem Sm.any {l l' : List (Int × Int)} (h : Sm l l') (n : Int) : l.any (segBad n) = l'.any (segBad n) := by
  rw [Bool.eq_iff_iff, any_nrm, any_nrm]
  constructor
  · rintro ⟨x, hx, e⟩; exact ⟨x, h.mem.1 hx, e⟩
  · rintro ⟨x, hx, e⟩; exact ⟨x, h.mem.2 hx, e⟩
theorem Sm.arg {l l' : List (Int × Int)} (h : Sm l l') (n : Int) : argBad n l = argBad n l' := by unfold argBad; rw [h.any n]
theorem nodup_tw (l : List (Int × Int)) : ¬ twF l ≥ 0 ↔ (l.map nrm).Nodup := by
  rw [List.nodup_iff_pairwise_ne, List.pairwise_iff_getElem]
  constructor
  · intro hT i j hi hj hij e
    rw [List.getElem_map, List.getElem_map] at e
    simp only [List.length_map] at hi hj
    have h1 : isTw l j = true := by
      rw [isTw_at (List.getElem?_eq_getElem hj)]
      refine decide_eq_true ?_
      rw [List.mem_reverse, ← e]
      refine List.mem_map_of_mem ?_
      exact List.mem_of_getElem? (show (l.take j)[i]? = some l[i] by rw [List.getElem?_take, if_pos hij]; exact List.getElem?_eq_getElem hi)
    have := first_neg hT j (Nat.zero_le _) (by omega)
    rw [h1] at this; cases this
  · intro hp
    rw [show twF l = -1 from first_none fun j _ hj => ?_]
    · decide
    · have hj' : j < l.length := by omega
      rw [isTw_at (List.getElem?_eq_getElem hj')]
      refine decide_eq_false fun hm => ?_
      rw [List.mem_reverse] at hm
      obtain ⟨s, hs, e⟩ := List.mem_map.1 hm
      obtain ⟨i, hi, es⟩ := List.getElem_of_mem hs
      have hij : i < j := by simp at hi; omega
      refine hp i j (by simp; omega) (by simp; omega) hij ?_
      rw [List.getElem_map, List.getElem_map, ← e, ← es, List.getElem_take]
theorem Sm.tw {l l' : List (Int × Int)} (h : Sm l l') : twF l ≥ 0 ↔ twF l' ≥ 0 := by
  have h1 := nodup_tw l
  have h2 := nodup_tw l'
  have h3 : (l.map nrm).Nodup ↔ (l'.map nrm).Nodup := List.Perm.nodup_iff h
  constructor
  · intro h4
    rcases Classical.em (twF l' ≥ 0) with h5 | h5
    · exact h5
    · exact absurd h4 (h1.2 (h3.2 (h2.1 h5)))
  · intro h4
    rcases Classical.em (twF l ≥ 0) with h5 | h5
    · exact h5
    · exact absurd h4 (h2.2 (h3.1 (h1.1 h5)))
theorem Sm.degs {l l' : List (Int × Int)} (h : Sm l l') (m : Nat) : degs m l = degs m l' := by
  unfold Go.Proofs.Ytcifcohkjifadaa.degs
  exact List.map_congr_left fun i _ => h.cnt i
theorem nbs_nrm {l : List (Int × Int)} (hl : ∀ s ∈ l, s.1 ≠ s.2) {i : Nat} {x : Int} : x ∈ nbs l i ↔ (min (i : Int) x, max (i : Int) x) ∈ l.map nrm ∧ x ≠ i := by
  constructor
  · intro h
    obtain ⟨s, hs, e⟩ := mem_nbs h
    refine ⟨List.mem_map.2 ⟨s, hs, nrm_of e⟩, ?_⟩
    have := hl s hs
    rcases e with rfl | rfl <;> simp at this <;> omega
  · rintro ⟨h, hne⟩
    obtain ⟨s, hs, e⟩ := List.mem_map.1 h
    refine nbs_mem hs (hl s hs) ?_
    have := hl s hs
    obtain ⟨a, b⟩ := s
    unfold nrm at e
    simp only [Prod.mk.injEq] at e this ⊢
    omega
theorem Sm.nbs {l l' : List (Int × Int)} (h : Sm l l') (hl : ∀ s ∈ l, s.1 ≠ s.2) (hl' : ∀ s ∈ l', s.1 ≠ s.2) {i : Nat} {x : Int} : x ∈ nbs l i ↔ x ∈ nbs l' i := by
  rw [nbs_nrm hl, nbs_nrm hl', h.mem]
/-- The same neighbours, in one order or the other. -/
def SameNb (V : Nat → Prop) (p q p' q' : Nat → Nat) : Prop := ∀ c, V c → (p' c = p c ∧ q' c = q c) ∨ (p' c = q c ∧ q' c = p c)
theorem way_same {m : Nat} {V : Nat → Prop} {p q p' q' : Nat → Nat} (R : Reg m V p q) (hs : SameNb V p q p' q') {i : Nat} (hi : V i) : ∀ t, way p' q' i t = way p q i t
  | 0 => by
    show (i, min (p' i) (q' i)) = (i, min (p i) (q i))
    rcases hs i hi with ⟨e1, e2⟩ | ⟨e1, e2⟩
    · rw [e1, e2]
    · rw [e1, e2, Nat.min_comm]
  | t + 1 => by
    have ih := way_same R hs hi t
    show ((way p' q' i t).2, oth p' q' (way p' q' i t).2 (way p' q' i t).1) = ((way p q i t).2, oth p q (way p q i t).2 (way p q i t).1)
    rw [ih]
    obtain ⟨h1, h2⟩ := R.way_ok hi t
    have hV : V (way p q i t).2 := R.nb_V h1 h2
    have hn : Nb p q (way p q i t).2 (way p q i t).1 := R.nb_sym h1 h2
    congr 1
    unfold oth
    rcases hs _ hV with ⟨e1, e2⟩ | ⟨e1, e2⟩
    · rw [e1, e2]
    · rw [e1, e2]
      have hne := R.ne _ hV
      rcases hn with hn | hn
      · rw [hn, if_neg hne.symm, if_pos rfl]
      · rw [hn, if_pos rfl, if_neg hne]
theorem Sm.two {m : Nat} {l l' : List (Int × Int)} (h : Sm l l') (T : Two m l) : Two m l' := by
  have hb : l.any (segBad m) = false := by
    rw [List.any_eq_false]
    intro s hs
    obtain ⟨a, b, rfl, h1, h2, h3⟩ := T.S.ok s hs
    simp [segBad]
    omega
  have hT : ¬ twF l ≥ 0 := by
    rw [nodup_tw, List.nodup_iff_pairwise_ne, List.pairwise_iff_getElem]
    intro i j hi hj hij e
    rw [List.getElem_map, List.getElem_map] at e
    simp only [List.length_map] at hi hj
    exact T.S.once i j hij _ _ (List.getElem?_eq_getElem hi) (List.getElem?_eq_getElem hj) e
  exact ⟨segs_of (by rw [← h.any]; exact hb) (fun h' => hT (h.tw.2 h')), fun i hi => by rw [← h.cnt]; exact T.two i hi⟩
theorem Sm.nb {m : Nat} {l l' : List (Int × Int)} (h : Sm l l') (T : Two m l) : SameNb (fun i => i < m ∧ cntE l i ≠ 0) (pN (nbF m l)) (qN (nbF m l)) (pN (nbF m l')) (qN (nbF m l')) := fun c hc => by
  have T' := h.two T
  obtain ⟨a1, _, a3⟩ := T.pq hc.1 hc.2
  obtain ⟨b1, _, b3⟩ := T'.pq hc.1 (by rw [← h.cnt]; exact hc.2)
  have hm : ∀ x : Int, x ∈ Go.Proofs.Ytcifcohkjifadaa.nbs l' c → x ∈ Go.Proofs.Ytcifcohkjifadaa.nbs l c := fun x hx => (h.nbs T.S.ne T'.S.ne).2 hx
  have h1 := hm ((pN (nbF m l') c : Nat) : Int) (by rw [b1]; simp)
  have h2 := hm ((qN (nbF m l') c : Nat) : Int) (by rw [b1]; simp)
  rw [a1] at h1 h2
  simp only [List.mem_cons, List.not_mem_nil, or_false] at h1 h2
  omega
theorem Sm.seq {m : Nat} {l l' : List (Int × Int)} (h : Sm l l') (T : Two m l) {i : Nat} (hi : i < m) (hc : cntE l i ≠ 0) (t : Nat) : seqR (nbF m l') i t = seqR (nbF m l) i t := by
  have T' := h.two T
  rw [T'.seq hi (by rw [← h.cnt]; exact hc), T.seq hi hc]
  have hw := fun u => way_same T.reg (h.nb T) (i := i) ⟨hi, hc⟩ u
  unfold at_
  rw [hw t, hw (t + 1)]
theorem Sm.ring {m : Nat} {l l' : List (Int × Int)} (h : Sm l l') (T : Two m l) {i : Nat} (hi : i < m) (hc : cntE l i ≠ 0) : ringAt (nbF m l') i = ringAt (nbF m l) i := by
  have e : ∀ t, seqR (nbF m l') (i : Int) t = seqR (nbF m l) (i : Int) t := h.seq T hi hc
  have e1 : lenR (nbF m l') i = lenR (nbF m l) i := by
    unfold lenR
    rw [nbF_len, nbF_len, show (fun t => (seqR (nbF m l') (i : Int) t).2 == (i : Int)) = (fun t => (seqR (nbF m l) (i : Int) t).2 == (i : Int)) from funext fun t => by rw [e t]]
  unfold ringAt ringTo
  rw [e1, show (fun t => (seqR (nbF m l') (i : Int) t).2) = (fun t => (seqR (nbF m l) (i : Int) t).2) from funext fun t => by rw [e t]]
theorem Sm.out {m : Nat} {l l' : List (Int × Int)} (h : Sm l l') (T : Two m l) : ∀ k, k ≤ m → outF (nbF m l') (Go.Proofs.Ytcifcohkjifadaa.degs m l') k = outF (nbF m l) (Go.Proofs.Ytcifcohkjifadaa.degs m l) k
  | 0, _ => rfl
  | k + 1, hk => by
    have ih := h.out T k (by omega)
    have h0 : ∀ nb d, outF nb d (k + 1) = if d.getD k 0 = 0 ∨ (k : Int) ∈ (outF nb d k).flatten then outF nb d k else outF nb d k ++ [ringAt nb k] := fun _ _ => rfl
    rw [h0, h0, ih, ← h.degs m]
    by_cases hd : (Go.Proofs.Ytcifcohkjifadaa.degs m l).getD k 0 = 0
    · rw [if_pos (.inl hd), if_pos (.inl hd)]
    · rw [h.ring T (by omega) (by rw [degs_getD (by omega)] at hd; exact hd)]
theorem ringsR_sm {l l' : List (Int × Int)} (h : Sm l l') (n : Int) : (ringsR n l').2.2 = (ringsR n l).2.2 ∧ (ringsR n l').1 = (ringsR n l).1 := by
  rcases ring_ways n l with hA | ⟨m, rfl, hm, hok, hT | ⟨hT, hI | hI⟩⟩
  · rw [ringsR_bad hA, ringsR_bad (by rw [← h.arg]; exact hA)]; exact ⟨rfl, rfl⟩
  · have hA := argBad_ok hm hok
    rw [ringsR_tw hA hT, ringsR_tw (by rw [← h.arg]; exact hA) (h.tw.1 hT)]; exact ⟨rfl, rfl⟩
  · have hA := argBad_ok hm hok
    rw [ringsR_ix hA hT hI, ringsR_ix (by rw [← h.arg]; exact hA) (fun h' => hT (h.tw.2 h')) (by rw [← h.degs]; exact hI)]; exact ⟨rfl, rfl⟩
  · have hA := argBad_ok hm hok
    rw [ringsR_ok hA hT hI, ringsR_ok (by rw [← h.arg]; exact hA) (fun h' => hT (h.tw.2 h')) (by rw [← h.degs]; exact hI)]
    exact ⟨rfl, h.out (two_ok hok hT hI) m (Nat.le_refl _)⟩
/-! ### Turned round, from either end -/
theorem rot_perm {α : Type} (l : List α) (k : Nat) (d : α) : ((List.range l.length).map fun i => l.getD ((i + k) % l.length) d).Perm l := by
  have e : ∀ l : List α, (List.range l.length).map (fun i => l.getD i d) = l := fun l => by
    apply List.ext_getElem?
    intro j
    by_cases h : j < l.length
    · rw [List.getElem?_map, List.getElem?_range h, List.getElem?_eq_getElem h, Option.map_some, List.getD_eq_getElem?_getD, List.getElem?_eq_getElem h]; rfl
    · rw [List.getElem?_eq_none (by simp; omega), List.getElem?_eq_none (by omega)]
  rcases Nat.eq_zero_or_pos l.length with h0 | h0
  · rw [List.eq_nil_of_length_eq_zero h0]; exact List.Perm.refl _
  have hk : k % l.length < l.length := Nat.mod_lt _ h0
  have e2 : ((List.range l.length).map fun i => l.getD ((i + k) % l.length) d) = l.drop (k % l.length) ++ l.take (k % l.length) := by
    apply List.ext_getElem?
    intro j
    by_cases h : j < l.length
    · rw [List.getElem?_map, List.getElem?_range h, Option.map_some, List.getElem?_append, List.length_drop]
      rw [Nat.add_mod, Nat.mod_eq_of_lt h]
      by_cases h2 : j < l.length - k % l.length
      · rw [if_pos h2, List.getElem?_drop, Nat.mod_eq_of_lt (by omega), List.getD_eq_getElem?_getD, Nat.add_comm, List.getElem?_eq_getElem (by omega)]; rfl
      · rw [if_neg h2, List.getElem?_take, if_pos (by omega), Nat.mod_eq_sub_mod (by omega), Nat.mod_eq_of_lt (by omega), List.getD_eq_getElem?_getD, show j - (l.length - k % l.length) = j + k % l.length - l.length by omega, List.getElem?_eq_getElem (by omega)]; rfl
    · rw [List.getElem?_eq_none (by simp; omega), List.getElem?_eq_none (by simp; omega)]
  rw [e2]
  have := List.perm_append_comm (l₁ := l.drop (k % l.length)) (l₂ := l.take (k % l.length))
  rwa [List.take_append_drop] at this
theorem nrm_swap (s : Int × Int) : nrm (s.2, s.1) = nrm s := by unfold nrm; simp only [Prod.mk.injEq]; omega
end Go.Proofs.Ytcifcohkjifadaa

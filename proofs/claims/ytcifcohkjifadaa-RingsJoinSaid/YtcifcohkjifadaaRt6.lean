/- Loops in plain words: two rows of segments joined, the second one's places moved behind the first one's. -/
import Derived.Test.YtcifcohkjifadaaRt4
set_option linter.unusedVariables false
set_option linter.unusedSimpArgs false
namespace Go.Proofs.Ytcifcohkjifadaa
def shS (n : Int) (s : Int × Int) : Int × Int := (s.1 + n, s.2 + n)
theorem ends_of {m : Nat} {l : List (Int × Int)} (h : l.any (segBad m) = false) {s : Int × Int} (hs : s ∈ l) : ∃ x y : Nat, s = ((x : Int), (y : Int)) ∧ x < m ∧ y < m ∧ x ≠ y := by
  have h1 := List.any_eq_false.1 h s hs
  obtain ⟨p, q⟩ := s
  simp [segBad] at h1
  exact ⟨p.toNat, q.toNat, by simp only [Prod.mk.injEq]; omega, by omega, by omega, by omega⟩
theorem segBad_nat {K x y : Nat} (hx : x < K) (hy : y < K) (h : x ≠ y) : segBad (K : Int) ((x : Int), (y : Int)) = false := by
  simp [segBad]
  omega
theorem first_pos {p : Nat → Bool} : ∀ {n i : Nat}, firstFrom p i n ≥ 0 → ∃ k : Nat, firstFrom p i n = (k : Int) ∧ i ≤ k ∧ k < i + n ∧ p k = true ∧ ∀ j, i ≤ j → j < k → p j = false
  | 0, i, h => by unfold firstFrom at h; omega
  | n + 1, i, h => by
    unfold firstFrom at h ⊢
    cases hp : p i with
    | true =>
      rw [if_pos rfl]
      exact ⟨i, rfl, Nat.le_refl _, by omega, hp, fun j h1 h2 => by omega⟩
    | false =>
      rw [hp, if_neg (by decide)] at h
      rw [if_neg (by decide)]
      obtain ⟨k, h1, h2, h3, h4, h5⟩ := first_pos h
      refine ⟨k, h1, by omega, by omega, h4, fun j j1 j2 => ?_⟩
      by_cases e : j = i
      · rw [e]; exact hp
      · exact h5 j (by omega) j2
theorem cnt_zero {i : Nat} : ∀ {l : List (Int × Int)}, (∀ s ∈ l, s.1 ≠ (i : Int) ∧ s.2 ≠ (i : Int)) → cntE l i = 0 ∧ nbs l i = []
  | [], _ => ⟨rfl, rfl⟩
  | s :: l, h => by
    obtain ⟨h1, h2⟩ := h s (by simp)
    obtain ⟨e1, e2⟩ := cnt_zero (i := i) (l := l) fun u hu => h u (by simp [hu])
    constructor
    · show endsAt i s + cntE l i = 0
      rw [e1]
      unfold endsAt
      rw [if_neg h1, if_neg h2]
      rfl
    · unfold nbs at e2 ⊢
      rw [List.filterMap_cons, if_neg h1, if_neg h2]
      exact e2
theorem cnt_shift (N i : Nat) : ∀ l : List (Int × Int), cntE (l.map (shS N)) (i + N) = cntE l i ∧ nbs (l.map (shS N)) (i + N) = (nbs l i).map (· + (N : Int))
  | [] => ⟨rfl, rfl⟩
  | s :: l => by
    obtain ⟨e1, e2⟩ := cnt_shift N i l
    constructor
    · show endsAt (i + N) (shS N s) + cntE (l.map (shS N)) (i + N) = endsAt i s + cntE l i
      rw [e1]
      congr 1
      unfold endsAt shS
      simp only
      congr 1
      · by_cases h : s.1 = (i : Int)
        · rw [if_pos h, if_pos (by omega)]
        · rw [if_neg h, if_neg (by omega)]
      · by_cases h : s.2 = (i : Int)
        · rw [if_pos h, if_pos (by omega)]
        · rw [if_neg h, if_neg (by omega)]
    · unfold nbs at e2 ⊢
      rw [List.map_cons, List.filterMap_cons, List.filterMap_cons]
      have a1 : ((shS N s).1 = ((i + N : Nat) : Int)) ↔ s.1 = (i : Int) := by unfold shS; simp only; omega
      have a2 : ((shS N s).2 = ((i + N : Nat) : Int)) ↔ s.2 = (i : Int) := by unfold shS; simp only; omega
      by_cases h1 : s.1 = (i : Int)
      · rw [if_pos h1, if_pos (a1.2 h1)]
        simp only [List.map_cons]
        rw [e2]
        rfl
      · by_cases h2 : s.2 = (i : Int)
        · rw [if_neg h1, if_pos h2, if_neg (fun e => h1 (a1.1 e)), if_pos (a2.2 h2)]
          simp only [List.map_cons]
          rw [e2]
          rfl
        · rw [if_neg h1, if_neg h2, if_neg (fun e => h1 (a1.1 e)), if_neg (fun e => h2 (a2.1 e))]
          exact e2
theorem nrm_shift (n : Int) (s : Int × Int) : nrm (shS n s) = shS n (nrm s) := by unfold nrm shS; simp only [Prod.mk.injEq]; omega
theorem shS_inj {n : Int} {s t : Int × Int} (h : shS n s = shS n t) : s = t := by
  obtain ⟨a, b⟩ := s
  obtain ⟨c, d⟩ := t
  unfold shS at h
  simp only [Prod.mk.injEq] at h ⊢
  omega
section
variable {N M : Nat} {a b : List (Int × Int)}
/-- Both rows, the second one moved. -/
abbrev jn (N : Nat) (a b : List (Int × Int)) : List (Int × Int) := a ++ b.map (shS N)
theorem jn_any (ha : a.any (segBad N) = false) (hb : b.any (segBad M) = false) : (jn N a b).any (segBad ((N + M : Nat) : Int)) = false := by
  rw [List.any_eq_false]
  intro s hs
  rcases List.mem_append.1 hs with h | h
  · obtain ⟨x, y, rfl, h1, h2, h3⟩ := ends_of ha h
    rw [segBad_nat (by omega) (by omega) h3]
    decide
  · obtain ⟨u, hu, rfl⟩ := List.mem_map.1 h
    obtain ⟨x, y, rfl, h1, h2, h3⟩ := ends_of hb hu
    rw [show shS N ((x : Int), (y : Int)) = (((x + N : Nat) : Int), ((y + N : Nat) : Int)) by unfold shS; simp, segBad_nat (by omega) (by omega) (by omega)]
    decide
theorem jn_lo (hb : b.any (segBad M) = false) {i : Nat} (hi : i < N) : cntE (jn N a b) i = cntE a i ∧ nbs (jn N a b) i = nbs a i := by
  have h0 := cnt_zero (i := i) (l := b.map (shS N)) fun s hs => by
    obtain ⟨u, hu, rfl⟩ := List.mem_map.1 hs
    obtain ⟨x, y, rfl, h1, h2, h3⟩ := ends_of hb hu
    unfold shS
    simp only
    omega
  rw [cntE_app, nbs_app, h0.1, h0.2, List.append_nil]
  exact ⟨Int.add_zero _, rfl⟩
theorem jn_hi (ha : a.any (segBad N) = false) (i : Nat) : cntE (jn N a b) (i + N) = cntE b i ∧ nbs (jn N a b) (i + N) = (nbs b i).map (· + (N : Int)) := by
  have h0 := cnt_zero (i := i + N) (l := a) fun s hs => by
    obtain ⟨x, y, rfl, h1, h2, h3⟩ := ends_of ha hs
    simp only
    omega
  rw [cntE_app, nbs_app, h0.1, h0.2, List.nil_append, (cnt_shift N i b).1, (cnt_shift N i b).2]
  exact ⟨Int.zero_add _, rfl⟩
theorem jn_tw_lo {j : Nat} (hj : j < a.length) : isTw (jn N a b) j = isTw a j := by
  unfold isTw
  rw [List.getElem?_append_left hj, List.take_append_of_le_length (by omega)]
theorem jn_tw_hi (ha : a.any (segBad N) = false) (hb : b.any (segBad M) = false) {j : Nat} (hj : j < b.length) : isTw (jn N a b) (a.length + j) = isTw b j := by
  obtain ⟨s, hs⟩ : ∃ s, b[j]? = some s := ⟨_, List.getElem?_eq_getElem hj⟩
  have hs' : (jn N a b)[a.length + j]? = some (shS N s) := by
    rw [List.getElem?_append_right (by omega), Nat.add_sub_cancel_left, List.getElem?_map, hs]
    rfl
  rw [isTw_at hs, isTw_at hs']
  have ht : (jn N a b).take (a.length + j) = a ++ (b.take j).map (shS N) := by
    rw [List.take_length_add_append, List.map_take]
  rw [ht]
  refine decide_eq_decide.2 ?_
  rw [List.mem_reverse, List.mem_reverse, List.map_append, List.mem_append, nrm_shift]
  obtain ⟨x, y, rfl, h1, h2, h3⟩ := ends_of hb (List.mem_of_getElem? hs)
  constructor
  · rintro (h | h)
    · obtain ⟨u, hu, e⟩ := List.mem_map.1 h
      obtain ⟨x', y', rfl, g1, g2, g3⟩ := ends_of ha hu
      unfold nrm shS at e
      simp only [Prod.mk.injEq] at e
      omega
    · obtain ⟨u, hu, e⟩ := List.mem_map.1 h
      obtain ⟨u', hu', rfl⟩ := List.mem_map.1 hu
      rw [nrm_shift] at e
      exact shS_inj e ▸ List.mem_map_of_mem hu'
  · intro h
    right
    obtain ⟨u, hu, e⟩ := List.mem_map.1 h
    rw [List.map_map]
    refine List.mem_map.2 ⟨u, hu, ?_⟩
    show nrm (shS N u) = _
    rw [nrm_shift, e]
theorem jn_len : (jn N a b).length = a.length + b.length := by rw [List.length_append, List.length_map]
theorem jn_tw (ha : a.any (segBad N) = false) (hb : b.any (segBad M) = false) (hTa : ¬ twF a ≥ 0) (hT : twF b ≥ 0) : twF (jn N a b) = twF b + (a.length : Int) := by
  obtain ⟨k, h1, h2, h3, h4, h5⟩ := first_pos hT
  have hk : k < b.length := by omega
  have : twF (jn N a b) = ((a.length + k : Nat) : Int) := by
    refine first_at (fun j _ hj => ?_) ((jn_tw_hi ha hb hk).trans h4) (Nat.zero_le _) (by rw [jn_len]; omega)
    rcases Nat.lt_or_ge j a.length with h | h
    · rw [jn_tw_lo h]; exact first_neg hTa j (Nat.zero_le _) (by omega)
    · obtain ⟨i, rfl⟩ := Nat.exists_eq_add_of_le h
      rw [jn_tw_hi ha hb (by omega)]
      exact h5 i (Nat.zero_le _) (by omega)
  rw [this]
  unfold twF
  rw [h1]
  omega
theorem jn_tw_no (ha : a.any (segBad N) = false) (hb : b.any (segBad M) = false) (hTa : ¬ twF a ≥ 0) (hT : ¬ twF b ≥ 0) : ¬ twF (jn N a b) ≥ 0 := by
  have : twF (jn N a b) = -1 := first_none fun j _ hj => by
    rw [jn_len] at hj
    rcases Nat.lt_or_ge j a.length with h | h
    · rw [jn_tw_lo h]; exact first_neg hTa j (Nat.zero_le _) (by omega)
    · obtain ⟨i, rfl⟩ := Nat.exists_eq_add_of_le h
      rw [jn_tw_hi ha hb (by omega)]
      exact first_neg hT i (Nat.zero_le _) (by omega)
  rw [this]
  decide
theorem jn_bad_lo (hb : b.any (segBad M) = false) {j : Nat} (hj : j < N) : badAt (degs (N + M) (jn N a b)) j = badAt (degs N a) j := by
  rw [badAt_at (degs_at (by omega)), badAt_at (degs_at hj), (jn_lo hb hj).1]
theorem jn_bad_hi (ha : a.any (segBad N) = false) {j : Nat} (hj : j < M) : badAt (degs (N + M) (jn N a b)) (j + N) = badAt (degs M b) j := by
  rw [badAt_at (degs_at (by omega)), badAt_at (degs_at hj), (jn_hi ha j).1]
theorem jn_ix (ha : a.any (segBad N) = false) (hb : b.any (segBad M) = false) (hIa : ¬ idxF (degs N a) ≥ 0) (hI : idxF (degs M b) ≥ 0) : idxF (degs (N + M) (jn N a b)) = idxF (degs M b) + (N : Int) := by
  obtain ⟨k, h1, h2, h3, h4, h5⟩ := first_pos hI
  rw [degs_len] at h3
  have : idxF (degs (N + M) (jn N a b)) = ((k + N : Nat) : Int) := by
    refine first_at (fun j _ hj => ?_) ((jn_bad_hi ha (by omega)).trans h4) (Nat.zero_le _) (by rw [degs_len]; omega)
    rcases Nat.lt_or_ge j N with h | h
    · rw [jn_bad_lo hb h]; exact first_neg hIa j (Nat.zero_le _) (by rw [degs_len]; omega)
    · obtain ⟨i, rfl⟩ : ∃ i, j = i + N := ⟨j - N, by omega⟩
      rw [jn_bad_hi ha (by omega)]
      exact h5 i (Nat.zero_le _) (by omega)
  rw [this]
  unfold idxF
  rw [h1]
  omega
theorem jn_ix_no (ha : a.any (segBad N) = false) (hb : b.any (segBad M) = false) (hIa : ¬ idxF (degs N a) ≥ 0) (hI : ¬ idxF (degs M b) ≥ 0) : ¬ idxF (degs (N + M) (jn N a b)) ≥ 0 := by
  have : idxF (degs (N + M) (jn N a b)) = -1 := first_none fun j _ hj => by
    rw [degs_len] at hj
    rcases Nat.lt_or_ge j N with h | h
    · rw [jn_bad_lo hb h]; exact first_neg hIa j (Nat.zero_le _) (by rw [degs_len]; omega)
    · obtain ⟨i, rfl⟩ : ∃ i, j = i + N := ⟨j - N, by omega⟩
      rw [jn_bad_hi ha (by omega)]
      exact first_neg hI i (Nat.zero_le _) (by rw [degs_len]; omega)
  rw [this]
  decide
end
/-- A row of segments within another one, all its places moved. -/
structure Emb (m K d : Nat) (l c : List (Int × Int)) : Prop where
  T : Two m l
  Tc : Two K c
  le : m + d ≤ K
  cnt : ∀ i, i < m → cntE c (i + d) = cntE l i
  nb : ∀ i, i < m → nbs c (i + d) = (nbs l i).map (· + (d : Int))
section
variable {m K d : Nat} {l c : List (Int × Int)}
theorem Emb.pq (E : Emb m K d l c) {i : Nat} (hi : i < m) (h : cntE l i ≠ 0) : pN (nbF K c) (i + d) = pN (nbF m l) i + d ∧ qN (nbF K c) (i + d) = qN (nbF m l) i + d := by
  have h1 := (E.T.pq hi h).1
  have h2 := (E.Tc.pq (i := i + d) (by have := E.le; omega) (by rw [E.cnt i hi]; exact h)).1
  rw [E.nb i hi, h1] at h2
  simp only [List.map_cons, List.map_nil, List.cons.injEq, and_true] at h2
  omega
theorem Emb.way (E : Emb m K d l c) {i : Nat} (hi : i < m) (h : cntE l i ≠ 0) : ∀ t, Go.Proofs.Ytcifcohkjifadaa.way (pN (nbF K c)) (qN (nbF K c)) (i + d) t = ((Go.Proofs.Ytcifcohkjifadaa.way (pN (nbF m l)) (qN (nbF m l)) i t).1 + d, (Go.Proofs.Ytcifcohkjifadaa.way (pN (nbF m l)) (qN (nbF m l)) i t).2 + d)
  | 0 => by
    obtain ⟨e1, e2⟩ := E.pq hi h
    show (i + d, min (pN (nbF K c) (i + d)) (qN (nbF K c) (i + d))) = (i + d, min (pN (nbF m l) i) (qN (nbF m l) i) + d)
    rw [e1, e2]
    simp only [Prod.mk.injEq, true_and]
    omega
  | t + 1 => by
    have ih := E.way hi h t
    obtain ⟨h1, h2⟩ := E.T.reg.way_ok (i := i) ⟨hi, h⟩ (t + 1)
    have hV : at_ (pN (nbF m l)) (qN (nbF m l)) i (t + 1) = (Go.Proofs.Ytcifcohkjifadaa.way (pN (nbF m l)) (qN (nbF m l)) i t).2 := rfl
    rw [hV] at h1
    obtain ⟨e1, e2⟩ := E.pq h1.1 h1.2
    show ((Go.Proofs.Ytcifcohkjifadaa.way (pN (nbF K c)) (qN (nbF K c)) (i + d) t).2, oth _ _ (Go.Proofs.Ytcifcohkjifadaa.way (pN (nbF K c)) (qN (nbF K c)) (i + d) t).2 (Go.Proofs.Ytcifcohkjifadaa.way (pN (nbF K c)) (qN (nbF K c)) (i + d) t).1) = ((Go.Proofs.Ytcifcohkjifadaa.way (pN (nbF m l)) (qN (nbF m l)) i t).2 + d, oth _ _ (Go.Proofs.Ytcifcohkjifadaa.way (pN (nbF m l)) (qN (nbF m l)) i t).2 (Go.Proofs.Ytcifcohkjifadaa.way (pN (nbF m l)) (qN (nbF m l)) i t).1 + d)
    rw [ih]
    simp only [Prod.mk.injEq, true_and]
    unfold oth
    rw [e1, e2]
    by_cases hc : pN (nbF m l) (Go.Proofs.Ytcifcohkjifadaa.way (pN (nbF m l)) (qN (nbF m l)) i t).2 = (Go.Proofs.Ytcifcohkjifadaa.way (pN (nbF m l)) (qN (nbF m l)) i t).1
    · rw [if_pos hc, if_pos (by omega)]
    · rw [if_neg hc, if_neg (by omega)]
theorem Emb.pt (E : Emb m K d l c) {i : Nat} (hi : i < m) (h : cntE l i ≠ 0) (t : Nat) : Pt K c (i + d) t = Pt m l i t + d := by
  show (Go.Proofs.Ytcifcohkjifadaa.way _ _ _ t).1 = _
  rw [E.way hi h t]
  rfl
theorem Emb.ring (E : Emb m K d l c) {i : Nat} (hi : i < m) (h : cntE l i ≠ 0) : ringAt (nbF K c) ((i + d : Nat) : Int) = (ringAt (nbF m l) i).map (· + (d : Int)) := by
  have hi' : i + d < K := by have := E.le; omega
  have h' : cntE c (i + d) ≠ 0 := by rw [E.cnt i hi]; exact h
  have hlen : lenR (nbF K c) ((i + d : Nat) : Int) = lenR (nbF m l) i := by
    obtain ⟨k, a0, a1, a2, a3⟩ := E.T.lenK hi h
    obtain ⟨k', b0, b1, b2, b3⟩ := E.Tc.lenK hi' h'
    rw [a0, b0]
    have p1 := E.pt hi h (k + 1)
    have p2 := E.pt hi h (k' + 1)
    unfold Pt at p1 p2
    rcases Nat.lt_trichotomy k k' with hk | hk | hk
    · exact absurd (by omega) (b3 (k + 1) (by omega) (by omega))
    · exact hk.symm
    · exact absurd (by omega) (a3 (k' + 1) (by omega) (by omega))
  rw [E.Tc.ringAt hi' h', E.T.ringAt hi h, hlen, List.map_map]
  refine List.map_congr_left fun t _ => ?_
  show ((Pt K c (i + d) t : Nat) : Int) = ((Pt m l i t : Nat) : Int) + (d : Int)
  rw [E.pt hi h]
  omega
end
section
variable {N M : Nat} {a b : List (Int × Int)}
theorem jn_two (ha : a.any (segBad N) = false) (hb : b.any (segBad M) = false) (Ta : Two N a) (hTa : ¬ twF a ≥ 0) (Tb : Two M b) (hTb : ¬ twF b ≥ 0) : Two (N + M) (jn N a b) := by
  refine ⟨segs_of (jn_any ha hb) (jn_tw_no ha hb hTa hTb), fun i hi => ?_⟩
  rcases Nat.lt_or_ge i N with h | h
  · rw [(jn_lo hb h).1]; exact Ta.two i h
  · obtain ⟨j, rfl⟩ : ∃ j, i = j + N := ⟨i - N, by omega⟩
    rw [(jn_hi ha j).1]; exact Tb.two j (by omega)
theorem jn_out_lo (hb : b.any (segBad M) = false) (E : Emb N (N + M) 0 a (jn N a b)) : ∀ k, k ≤ N → outF (nbF (N + M) (jn N a b)) (degs (N + M) (jn N a b)) k = outF (nbF N a) (degs N a) k
  | 0, _ => rfl
  | k + 1, hk => by
    have ih := jn_out_lo hb E k (by omega)
    have h0 : ∀ nb d, outF nb d (k + 1) = if d.getD k 0 = 0 ∨ (k : Int) ∈ (outF nb d k).flatten then outF nb d k else outF nb d k ++ [ringAt nb k] := fun _ _ => rfl
    rw [h0, h0, ih, degs_getD (by omega), degs_getD (by omega), (jn_lo hb (show k < N by omega)).1]
    by_cases hd : cntE a k = 0
    · rw [if_pos (.inl hd), if_pos (.inl hd)]
    · have hr := E.ring (show k < N by omega) hd
      rw [Nat.add_zero] at hr
      rw [hr]
      simp
theorem jn_out_hi (ha : a.any (segBad N) = false) (hb : b.any (segBad M) = false) (Ta : Two N a) (E0 : Emb N (N + M) 0 a (jn N a b)) (E : Emb M (N + M) N b (jn N a b)) : ∀ k, k ≤ M →
    outF (nbF (N + M) (jn N a b)) (degs (N + M) (jn N a b)) (k + N) = outF (nbF N a) (degs N a) N ++ (outF (nbF M b) (degs M b) k).map (List.map (· + (N : Int)))
  | 0, _ => by
    rw [Nat.zero_add, jn_out_lo hb E0 N (Nat.le_refl _)]
    simp [outF]
  | k + 1, hk => by
    have ih := jn_out_hi ha hb Ta E0 E k (by omega)
    have h0 : ∀ nb d (k : Nat), outF nb d (k + 1) = if d.getD k 0 = 0 ∨ (k : Int) ∈ (outF nb d k).flatten then outF nb d k else outF nb d k ++ [ringAt nb k] := fun _ _ _ => rfl
    rw [show k + 1 + N = (k + N) + 1 by omega, h0, h0, ih, degs_getD (by omega), degs_getD (by omega), (jn_hi ha k).1]
    have hm : ((k + N : Nat) : Int) ∈ (outF (nbF N a) (degs N a) N ++ (outF (nbF M b) (degs M b) k).map (List.map (· + (N : Int)))).flatten ↔ (k : Int) ∈ (outF (nbF M b) (degs M b) k).flatten := by
      rw [List.flatten_append, List.mem_append, ← List.map_flatten, List.mem_map]
      constructor
      · rintro (h | ⟨x, h1, h2⟩)
        · obtain ⟨c, e, h1, _⟩ := (Ta.parts N (Nat.le_refl _)).mem _ h
          omega
        · obtain rfl : x = (k : Int) := by omega
          exact h1
      · exact fun h => .inr ⟨_, h, by omega⟩
    by_cases hd : cntE b k = 0
    · rw [if_pos (.inl hd), if_pos (.inl hd)]
    · by_cases hs : (k : Int) ∈ (outF (nbF M b) (degs M b) k).flatten
      · rw [if_pos (.inr (hm.2 hs)), if_pos (.inr hs)]
      · rw [if_neg (by rintro (h | h); exact hd h; exact hs (hm.1 h)), if_neg (by rintro (h | h); exact hd h; exact hs h), E.ring (by omega) hd, List.map_append, List.append_assoc]
        rfl
theorem jn_rings (hN : N + M ≤ 1048576) (ha : a.any (segBad N) = false) (hTa : ¬ twF a ≥ 0) (hIa : ¬ idxF (degs N a) ≥ 0) (hb : b.any (segBad M) = false) (hTb : ¬ twF b ≥ 0) (hIb : ¬ idxF (degs M b) ≥ 0) :
    ringsR ((N + M : Nat) : Int) (jn N a b) = ((ringsR N a).1 ++ (ringsR M b).1.map (List.map (· + (N : Int))), 0, 0) := by
  have Ta := two_ok ha hTa hIa
  have Tb := two_ok hb hTb hIb
  have T := jn_two ha hb Ta hTa Tb hTb
  have E0 : Emb N (N + M) 0 a (jn N a b) := ⟨Ta, T, by omega, fun i hi => by rw [Nat.add_zero, (jn_lo hb hi).1], fun i hi => by rw [Nat.add_zero, (jn_lo hb hi).2]; simp⟩
  have E1 : Emb M (N + M) N b (jn N a b) := ⟨Tb, T, by omega, fun i hi => (jn_hi ha i).1, fun i hi => (jn_hi ha i).2⟩
  have hout := jn_out_hi ha hb Ta E0 E1 M (Nat.le_refl _)
  rw [ringsR_ok (argBad_ok (by omega) (jn_any ha hb)) (jn_tw_no ha hb hTa hTb) (jn_ix_no ha hb hIa hIb), ringsR_ok (argBad_ok (by omega) ha) hTa hIa, ringsR_ok (argBad_ok (by omega) hb) hTb hIb, ← hout, Nat.add_comm M N]
theorem jn_err_tw (hN : N + M ≤ 1048576) (ha : a.any (segBad N) = false) (hTa : ¬ twF a ≥ 0) (hb : b.any (segBad M) = false) (hTb : twF b ≥ 0) : ringsR ((N + M : Nat) : Int) (jn N a b) = ([], twF b + (a.length : Int), 80) := by
  rw [ringsR_tw (argBad_ok (by omega) (jn_any ha hb)) (by rw [jn_tw ha hb hTa hTb]; omega), jn_tw ha hb hTa hTb]
theorem jn_err_ix (hN : N + M ≤ 1048576) (ha : a.any (segBad N) = false) (hTa : ¬ twF a ≥ 0) (hIa : ¬ idxF (degs N a) ≥ 0) (hb : b.any (segBad M) = false) (hTb : ¬ twF b ≥ 0) (hIb : idxF (degs M b) ≥ 0) : ringsR ((N + M : Nat) : Int) (jn N a b) = ([], idxF (degs M b) + (N : Int), 81) := by
  rw [ringsR_ix (argBad_ok (by omega) (jn_any ha hb)) (jn_tw_no ha hb hTa hTb) (by rw [jn_ix ha hb hIa hIb]; omega), jn_ix ha hb hIa hIb]
theorem jn_err_arg {s : Int × Int} (hs : s ∈ b) (h : s.1 = s.2) (n : Int) : ringsR n (jn N a b) = ([], 0, 2) := by
  refine ringsR_bad ?_
  unfold argBad
  have : (jn N a b).any (segBad n) = true := List.any_eq_true.2 ⟨shS N s, List.mem_append.2 (.inr (List.mem_map_of_mem hs)), by simp [segBad, shS, h]⟩
  rw [this]
  simp
end
end Go.Proofs.Ytcifcohkjifadaa

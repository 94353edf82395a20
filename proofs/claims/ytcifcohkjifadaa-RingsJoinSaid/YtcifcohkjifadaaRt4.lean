/- Loops in plain words: each place with two neighbours is in one loop, once; the loops' segments are those that were given. -/
import Derived.Test.YtcifcohkjifadaaRt3
set_option linter.unusedVariables false
set_option linter.unusedSimpArgs false
namespace Go.Proofs.Ytcifcohkjifadaa
section
variable {m : Nat} {l : List (Int × Int)}
/-- The places of the loop from i on. -/
abbrev Pt (m : Nat) (l : List (Int × Int)) (i t : Nat) : Nat := at_ (pN (nbF m l)) (qN (nbF m l)) i t
theorem Two.ringAt (T : Two m l) {i : Nat} (hi : i < m) (h : cntE l i ≠ 0) : Go.Proofs.Ytcifcohkjifadaa.ringAt (nbF m l) i = (List.range (lenR (nbF m l) i + 1)).map fun t => ((Pt m l i t : Nat) : Int) := by
  apply List.ext_getElem?
  intro j
  by_cases hj : j < lenR (nbF m l) i + 1
  · rw [List.getElem?_map, List.getElem?_range hj]
    unfold Go.Proofs.Ytcifcohkjifadaa.ringAt ringTo
    cases j with
    | zero => rfl
    | succ j =>
      rw [List.getElem?_cons_succ, List.getElem?_map, List.getElem?_range (by omega), Option.map_some, T.seq hi h j]
      rfl
  · rw [List.getElem?_eq_none (by unfold Go.Proofs.Ytcifcohkjifadaa.ringAt; rw [ringTo_len]; omega), List.getElem?_eq_none (by simp; omega)]
theorem Two.len2 (T : Two m l) {i : Nat} (hi : i < m) (h : cntE l i ≠ 0) : 2 ≤ lenR (nbF m l) i ∧ Pt m l i (lenR (nbF m l) i + 1) = i ∧ ∀ u v, u < v → v ≤ lenR (nbF m l) i → Pt m l i u ≠ Pt m l i v := by
  obtain ⟨k, hk, k1, k2, k3⟩ := T.lenK hi h
  have hV : i < m ∧ cntE l i ≠ 0 := ⟨hi, h⟩
  rw [hk]
  refine ⟨?_, k2, T.reg.apart (i := i) hV k k3⟩
  rcases Nat.lt_or_ge k 2 with h2 | h2
  · exfalso
    obtain ⟨w1, w2⟩ := T.reg.way_ok (i := i) hV 0
    have e : k = 0 ∨ k = 1 := by omega
    rcases e with rfl | rfl
    · exact T.reg.nb_ne w1 w2 k2
    · exact T.reg.way_ne2 (i := i) hV 0 k2
  · exact h2
/-- Who is next to a place of a loop. -/
theorem Two.next (T : Two m l) {i : Nat} (hi : i < m) (h : cntE l i ≠ 0) {t x : Nat} (ht : t ≤ lenR (nbF m l) i) (hx : Nb (pN (nbF m l)) (qN (nbF m l)) (Pt m l i t) x) :
    x = Pt m l i (t + 1) ∨ ∃ u, u ≤ lenR (nbF m l) i ∧ x = Pt m l i u ∧ Pt m l i t = Pt m l i (u + 1) := by
  have hV : i < m ∧ cntE l i ≠ 0 := ⟨hi, h⟩
  obtain ⟨n1, n2, n3⟩ := T.len2 hi h
  obtain ⟨w1, w2⟩ := T.reg.way_ok (i := i) hV t
  cases t with
  | zero =>
    obtain ⟨v1, v2⟩ := T.reg.way_ok (i := i) hV (lenR (nbF m l) i)
    have v3 := T.reg.nb_sym v1 v2
    rw [show at_ (pN (nbF m l)) (qN (nbF m l)) i (lenR (nbF m l) i + 1) = Pt m l i 0 from n2] at v3
    have hne : Pt m l i 1 ≠ Pt m l i (lenR (nbF m l) i) := n3 1 _ (by omega) (Nat.le_refl _)
    rcases T.reg.nb_two w1 w2 v3 hne hx with e | e
    · exact .inl e
    · exact .inr ⟨_, Nat.le_refl _, e, n2.symm⟩
  | succ s =>
    obtain ⟨v1, v2⟩ := T.reg.way_ok (i := i) hV s
    have v3 := T.reg.nb_sym v1 v2
    rcases T.reg.nb_two w1 w2 v3 (T.reg.way_ne2 (i := i) hV s) hx with e | e
    · exact .inl e
    · exact .inr ⟨s, by omega, e, rfl⟩
theorem Two.ring_in (T : Two m l) {i : Nat} (hi : i < m) (h : cntE l i ≠ 0) {x : Int} : x ∈ Go.Proofs.Ytcifcohkjifadaa.ringAt (nbF m l) i ↔ ∃ t, t ≤ lenR (nbF m l) i ∧ x = ((Pt m l i t : Nat) : Int) := by
  rw [T.ringAt hi h, List.mem_map]
  constructor
  · rintro ⟨t, ht, rfl⟩; exact ⟨t, by have := List.mem_range.1 ht; omega, rfl⟩
  · rintro ⟨t, ht, rfl⟩; exact ⟨t, List.mem_range.2 (by omega), rfl⟩
theorem Two.ring_closed (T : Two m l) {i : Nat} (hi : i < m) (h : cntE l i ≠ 0) {c x : Nat} (hc : ((c : Nat) : Int) ∈ Go.Proofs.Ytcifcohkjifadaa.ringAt (nbF m l) i) (hx : Nb (pN (nbF m l)) (qN (nbF m l)) c x) : ((x : Nat) : Int) ∈ Go.Proofs.Ytcifcohkjifadaa.ringAt (nbF m l) i := by
  obtain ⟨t, ht, e⟩ := (T.ring_in hi h).1 hc
  obtain rfl : c = Pt m l i t := by omega
  obtain ⟨n1, n2, n3⟩ := T.len2 hi h
  rw [T.ring_in hi h]
  rcases T.next hi h ht hx with e | ⟨u, hu, e, _⟩
  · by_cases hlt : t < lenR (nbF m l) i
    · exact ⟨t + 1, hlt, by rw [e]⟩
    · obtain rfl : t = lenR (nbF m l) i := by omega
      exact ⟨0, Nat.zero_le _, by rw [e, n2]; rfl⟩
  · exact ⟨u, hu, by rw [e]⟩
theorem Two.ring_nodup (T : Two m l) {i : Nat} (hi : i < m) (h : cntE l i ≠ 0) : (Go.Proofs.Ytcifcohkjifadaa.ringAt (nbF m l) i).Nodup := by
  obtain ⟨n1, n2, n3⟩ := T.len2 hi h
  rw [T.ringAt hi h, List.nodup_iff_pairwise_ne, List.pairwise_iff_getElem]
  intro a b ha hb hab e
  simp only [List.getElem_map, List.getElem_range, List.length_map, List.length_range] at ha hb e
  exact n3 a b hab (by omega) (by omega)
/-- The loops from the first so many places. -/
structure Parts (m : Nat) (l : List (Int × Int)) (R : List (List Int)) (k : Nat) : Prop where
  nodup : R.flatten.Nodup
  mem : ∀ x ∈ R.flatten, ∃ c : Nat, x = c ∧ c < m ∧ cntE l c ≠ 0
  closed : ∀ c x : Nat, (c : Int) ∈ R.flatten → Nb (pN (nbF m l)) (qN (nbF m l)) c x → (x : Int) ∈ R.flatten
  all : ∀ i, i < k → cntE l i ≠ 0 → (i : Int) ∈ R.flatten
  rings : ∀ r ∈ R, ∃ i, i < m ∧ cntE l i ≠ 0 ∧ r = Go.Proofs.Ytcifcohkjifadaa.ringAt (nbF m l) i
theorem Two.parts (T : Two m l) : ∀ k, k ≤ m → Parts m l (outF (nbF m l) (degs m l) k) k
  | 0, _ => ⟨List.nodup_nil, (fun x h => by cases h), (fun c x h => by cases h), (fun i h => by omega), (fun r h => by cases h)⟩
  | k + 1, hk => by
    have ih := T.parts k (by omega)
    have hd : (degs m l).getD k 0 = cntE l k := degs_getD (by omega)
    by_cases hs : (degs m l).getD k 0 = 0 ∨ (k : Int) ∈ (outF (nbF m l) (degs m l) k).flatten
    · rw [outF_skip hs]
      refine ⟨ih.nodup, ih.mem, ih.closed, fun i hi h => ?_, ih.rings⟩
      by_cases e : i = k
      · subst e
        rcases hs with hs | hs
        · exact absurd (hd ▸ hs) h
        · exact hs
      · exact ih.all i (by omega) h
    · have h1 : cntE l k ≠ 0 := fun e => hs (.inl (hd.trans e))
      have h2 : ¬ (k : Int) ∈ (outF (nbF m l) (degs m l) k).flatten := fun e => hs (.inr e)
      have hkm : k < m := by omega
      have hout := outF_ring (fun e => h1 (hd ▸ e)) h2
      rw [hout]
      have hfl : (outF (nbF m l) (degs m l) k ++ [Go.Proofs.Ytcifcohkjifadaa.ringAt (nbF m l) k]).flatten = (outF (nbF m l) (degs m l) k).flatten ++ Go.Proofs.Ytcifcohkjifadaa.ringAt (nbF m l) k := by simp
      have hdis : ∀ t, ¬ ((Pt m l k t : Nat) : Int) ∈ (outF (nbF m l) (degs m l) k).flatten := fun t => by
        induction t with
        | zero => exact h2
        | succ t iht =>
          intro hm
          obtain ⟨w1, w2⟩ := T.reg.way_ok (i := k) ⟨hkm, h1⟩ t
          exact iht (ih.closed _ _ hm (T.reg.nb_sym w1 w2))
      refine ⟨?_, fun x hx => ?_, fun c x hc hx => ?_, fun i hi h => ?_, fun r hr => ?_⟩
      · rw [hfl, List.nodup_append]
        refine ⟨ih.nodup, T.ring_nodup hkm h1, fun a ha b hb e => ?_⟩
        obtain ⟨t, _, rfl⟩ := (T.ring_in hkm h1).1 hb
        exact hdis t (e ▸ ha)
      · rw [hfl, List.mem_append] at hx
        rcases hx with hx | hx
        · exact ih.mem x hx
        · obtain ⟨t, _, rfl⟩ := (T.ring_in hkm h1).1 hx
          exact ⟨_, rfl, (T.reg.way_ok (i := k) ⟨hkm, h1⟩ t).1⟩
      · rw [hfl, List.mem_append] at hc ⊢
        rcases hc with hc | hc
        · exact .inl (ih.closed c x hc hx)
        · exact .inr (T.ring_closed hkm h1 hc hx)
      · rw [hfl, List.mem_append]
        by_cases e : i = k
        · subst e; exact .inr ((T.ring_in hkm h1).2 ⟨0, Nat.zero_le _, rfl⟩)
        · exact .inl (ih.all i (by omega) h)
      · rcases List.mem_append.1 hr with hr | hr
        · exact ih.rings r hr
        · exact ⟨k, hkm, h1, List.mem_singleton.1 hr⟩
theorem Two.ring_segs (T : Two m l) {i : Nat} (hi : i < m) (h : cntE l i ≠ 0) : segTo (Go.Proofs.Ytcifcohkjifadaa.ringAt (nbF m l) i) (Go.Proofs.Ytcifcohkjifadaa.ringAt (nbF m l) i).length = (List.range (lenR (nbF m l) i + 1)).map fun t => (((Pt m l i t : Nat) : Int), ((Pt m l i (t + 1) : Nat) : Int)) := by
  obtain ⟨n1, n2, n3⟩ := T.len2 hi h
  have hg : ∀ t, t < lenR (nbF m l) i + 1 → (Go.Proofs.Ytcifcohkjifadaa.ringAt (nbF m l) i).getD t 0 = ((Pt m l i t : Nat) : Int) := fun t ht => by
    rw [T.ringAt hi h, List.getD_eq_getElem?_getD, List.getElem?_map, List.getElem?_range ht]
    rfl
  have hl : (Go.Proofs.Ytcifcohkjifadaa.ringAt (nbF m l) i).length = lenR (nbF m l) i + 1 := ringTo_len _ _ _
  unfold segTo
  rw [hl]
  refine List.map_congr_left fun t ht => ?_
  have ht := List.mem_range.1 ht
  rw [hg t ht]
  by_cases e : t + 1 < lenR (nbF m l) i + 1
  · rw [Nat.mod_eq_of_lt e, hg _ e]
  · obtain rfl : t = lenR (nbF m l) i := by omega
    rw [Nat.mod_self, hg 0 (by omega), n2]
    rfl
theorem nrm_eq {a b c d : Int} : nrm (a, b) = nrm (c, d) ↔ (a = c ∧ b = d) ∨ (a = d ∧ b = c) := by
  unfold nrm
  simp only [Prod.mk.injEq]
  omega
theorem Two.ring_segs_nodup (T : Two m l) {i : Nat} (hi : i < m) (h : cntE l i ≠ 0) : ((segTo (Go.Proofs.Ytcifcohkjifadaa.ringAt (nbF m l) i) (Go.Proofs.Ytcifcohkjifadaa.ringAt (nbF m l) i).length).map nrm).Nodup := by
  obtain ⟨n1, n2, n3⟩ := T.len2 hi h
  rw [T.ring_segs hi h, List.nodup_iff_pairwise_ne, List.pairwise_iff_getElem]
  intro a b ha hb hab e
  simp only [List.getElem_map, List.getElem_range, List.length_map, List.length_range] at ha hb e
  rw [nrm_eq] at e
  have hab' := n3 a b hab (by omega)
  rcases e with ⟨e1, _⟩ | ⟨e1, e2⟩
  · omega
  · by_cases hbk : b = lenR (nbF m l) i
    · subst hbk
      rw [n2] at e1
      have ha0 : a = 0 := by
        rcases Nat.eq_zero_or_pos a with h0 | h0
        · exact h0
        · exact absurd (show Pt m l i 0 = Pt m l i a by show i = _; omega) (n3 0 a h0 (by omega))
      subst ha0
      exact absurd (show Pt m l i (0 + 1) = Pt m l i (lenR (nbF m l) i) by omega) (n3 _ _ (by omega) (Nat.le_refl _))
    · exact absurd (show Pt m l i a = Pt m l i (b + 1) by omega) (n3 _ _ (by omega) (by omega))
theorem mem_segsR {rs : List (List Int)} {x : Int × Int} : x ∈ segsR rs ↔ ∃ r ∈ rs, x ∈ segTo r r.length := by
  unfold segsR
  rw [List.mem_flatten]
  constructor
  · rintro ⟨q, hq, hx⟩
    obtain ⟨r, hr, rfl⟩ := List.mem_map.1 hq
    exact ⟨r, hr, hx⟩
  · rintro ⟨r, hr, hx⟩
    exact ⟨_, List.mem_map_of_mem hr, hx⟩
theorem Parts.sm {R : List (List Int)} (T : Two m l) (P : Parts m l R m) : Sm l (segsR R) := by
  have hT : (l.map nrm).Nodup := by
    rw [List.nodup_iff_pairwise_ne, List.pairwise_iff_getElem]
    intro i j hi hj hij e
    rw [List.getElem_map, List.getElem_map] at e
    simp only [List.length_map] at hi hj
    exact T.S.once i j hij _ _ (List.getElem?_eq_getElem hi) (List.getElem?_eq_getElem hj) e
  refine (List.perm_ext_iff_of_nodup hT ?_).2 fun x => ?_
  · have e : (segsR R).map nrm = (R.map fun r => (segTo r r.length).map nrm).flatten := by
      unfold segsR
      rw [List.map_flatten, List.map_map]
      rfl
    rw [e, List.nodup_iff_pairwise_ne, List.pairwise_flatten]
    refine ⟨fun q hq => ?_, ?_⟩
    · obtain ⟨r, hr, rfl⟩ := List.mem_map.1 hq
      obtain ⟨i, hi, h, rfl⟩ := P.rings r hr
      exact List.nodup_iff_pairwise_ne.1 (T.ring_segs_nodup hi h)
    · rw [List.pairwise_map]
      have hp := List.nodup_iff_pairwise_ne.1 P.nodup
      rw [List.pairwise_flatten] at hp
      refine List.Pairwise.imp_of_mem ?_ hp.2
      intro r r' hr hr' hd x hx y hy exy
      subst exy
      obtain ⟨i, hi, h, rfl⟩ := P.rings r hr
      obtain ⟨i', hi', h', rfl⟩ := P.rings r' hr'
      rw [T.ring_segs hi h, List.map_map] at hx
      rw [T.ring_segs hi' h', List.map_map] at hy
      obtain ⟨t, ht, rfl⟩ := List.mem_map.1 hx
      obtain ⟨t', ht', ee⟩ := List.mem_map.1 hy
      have ht := List.mem_range.1 ht
      have ht' := List.mem_range.1 ht'
      simp only [Function.comp] at ee
      rw [nrm_eq] at ee
      have in1 : ∀ u, u ≤ lenR (nbF m l) i + 1 → ((Pt m l i u : Nat) : Int) ∈ Go.Proofs.Ytcifcohkjifadaa.ringAt (nbF m l) i := fun u hu => by
        rw [T.ring_in hi h]
        by_cases hh : u ≤ lenR (nbF m l) i
        · exact ⟨u, hh, rfl⟩
        · obtain rfl : u = lenR (nbF m l) i + 1 := by omega
          exact ⟨0, Nat.zero_le _, by rw [(T.len2 hi h).2.1]; rfl⟩
      have in2 : ((Pt m l i' t' : Nat) : Int) ∈ Go.Proofs.Ytcifcohkjifadaa.ringAt (nbF m l) i' := (T.ring_in hi' h').2 ⟨t', by omega, rfl⟩
      rcases ee with ⟨e1, _⟩ | ⟨e1, _⟩
      · exact hd _ (in1 t (by omega)) _ in2 e1.symm
      · exact hd _ (in1 (t + 1) (by omega)) _ in2 e1.symm
  · constructor
    · intro hx
      obtain ⟨s, hs, rfl⟩ := List.mem_map.1 hx
      obtain ⟨a, b, rfl, ha, hb, hab⟩ := T.S.ok s hs
      have hb1 : (b : Int) ∈ Go.Proofs.Ytcifcohkjifadaa.nbs l a := nbs_mem hs (by simp; omega) (.inl rfl)
      have ha1 : (a : Int) ∈ Go.Proofs.Ytcifcohkjifadaa.nbs l b := nbs_mem hs (by simp; omega) (.inr rfl)
      have hca : cntE l a ≠ 0 := T.V hb1
      have hm := P.all a ha hca
      obtain ⟨r, hr, har⟩ := List.mem_flatten.1 hm
      obtain ⟨i, hi, h, rfl⟩ := P.rings r hr
      obtain ⟨t, ht, e⟩ := (T.ring_in hi h).1 har
      obtain rfl : a = Pt m l i t := by omega
      have hnb : Nb (pN (nbF m l)) (qN (nbF m l)) (Pt m l i t) b := by
        rw [(T.pq ha hca).1] at hb1
        simp only [List.mem_cons, List.not_mem_nil, or_false] at hb1
        unfold Nb
        omega
      refine List.mem_map.2 ?_
      rcases T.next hi h ht hnb with e2 | ⟨u, hu, e2, e3⟩
      · refine ⟨(((Pt m l i t : Nat) : Int), ((Pt m l i (t + 1) : Nat) : Int)), mem_segsR.2 ⟨_, hr, ?_⟩, ?_⟩
        · rw [T.ring_segs hi h]; exact List.mem_map.2 ⟨t, List.mem_range.2 (by omega), rfl⟩
        · rw [e2]
      · refine ⟨(((Pt m l i u : Nat) : Int), ((Pt m l i (u + 1) : Nat) : Int)), mem_segsR.2 ⟨_, hr, ?_⟩, ?_⟩
        · rw [T.ring_segs hi h]; exact List.mem_map.2 ⟨u, List.mem_range.2 (by omega), rfl⟩
        · rw [nrm_eq]; right; exact ⟨by rw [e2], by rw [e3]⟩
    · intro hx
      obtain ⟨s, hs, rfl⟩ := List.mem_map.1 hx
      obtain ⟨r, hr, hs⟩ := mem_segsR.1 hs
      obtain ⟨i, hi, h, rfl⟩ := P.rings r hr
      rw [T.ring_segs hi h] at hs
      obtain ⟨t, ht, rfl⟩ := List.mem_map.1 hs
      obtain ⟨w1, w2⟩ := T.reg.way_ok (i := i) ⟨hi, h⟩ t
      have hin : ((Pt m l i (t + 1) : Nat) : Int) ∈ Go.Proofs.Ytcifcohkjifadaa.nbs l (Pt m l i t) := by
        rw [(T.pq w1.1 w1.2).1]
        simp only [List.mem_cons, List.not_mem_nil, or_false]
        rcases w2 with w2 | w2
        · left; rw [← w2]
        · right; rw [← w2]
      have := (nbs_nrm T.S.ne).1 hin
      exact this.1
end
/-- How often each place is in the loops. -/
theorem Parts.count {m : Nat} {l : List (Int × Int)} {R : List (List Int)} (T : Two m l) (P : Parts m l R m) {v : Nat} (hv : v < m) : ((R.flatten.count (v : Int) : Nat) : Int) = cntE l v / 2 := by
  rw [List.Nodup.count P.nodup]
  by_cases h : cntE l v = 0
  · rw [if_neg, h]
    · rfl
    · intro hm
      obtain ⟨c, e, _, hc⟩ := P.mem _ hm
      obtain rfl : v = c := by omega
      exact hc h
  · rw [if_pos (P.all v hv h), (T.two v hv).resolve_left h]
    rfl
end Go.Proofs.Ytcifcohkjifadaa

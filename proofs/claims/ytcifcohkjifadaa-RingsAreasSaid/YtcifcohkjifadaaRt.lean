/- Loops in plain words: where each place has two neighbours, one comes back. -/
import Derived.Test.YtcifcohkjifadaaRs
set_option linter.unusedVariables false
set_option linter.unusedSimpArgs false
namespace Go.Proofs.Ytcifcohkjifadaa
theorem pigeon : ∀ (m : Nat) (f : Nat → Nat), (∀ u, u ≤ m → f u < m) → ∃ u v, u < v ∧ v ≤ m ∧ f u = f v
  | 0, f, h => absurd (h 0 (Nat.le_refl _)) (Nat.not_lt_zero _)
  | m + 1, f, h => by
    by_cases hc : ∃ u, u ≤ m ∧ f u = f (m + 1)
    · obtain ⟨u, h1, h2⟩ := hc
      exact ⟨u, m + 1, by omega, Nat.le_refl _, h2⟩
    · have hne : ∀ u, u ≤ m → f u ≠ f (m + 1) := fun u h1 h2 => hc ⟨u, h1, h2⟩
      have hg : ∀ u, u ≤ m → (if f u > f (m + 1) then f u - 1 else f u) < m := fun u hu => by
        have h1 := h u (by omega)
        have h2 := hne u hu
        have h3 := h (m + 1) (Nat.le_refl _)
        split <;> omega
      obtain ⟨u, v, h1, h2, h3⟩ := pigeon m (fun u => if f u > f (m + 1) then f u - 1 else f u) hg
      refine ⟨u, v, h1, by omega, ?_⟩
      have a1 := hne u (by omega)
      have a2 := hne v h2
      have h3' : (if f u > f (m + 1) then f u - 1 else f u) = (if f v > f (m + 1) then f v - 1 else f v) := h3
      split at h3' <;> split at h3' <;> omega
/-- Places, each with two neighbours that have it as theirs. -/
structure Reg (m : Nat) (V : Nat → Prop) (p q : Nat → Nat) : Prop where
  lt : ∀ i, V i → i < m
  ne : ∀ i, V i → p i ≠ q i
  pi : ∀ i, V i → p i ≠ i
  qi : ∀ i, V i → q i ≠ i
  Vp : ∀ i, V i → V (p i)
  Vq : ∀ i, V i → V (q i)
  sp : ∀ i, V i → p (p i) = i ∨ q (p i) = i
  sq : ∀ i, V i → p (q i) = i ∨ q (q i) = i
/-- The other one of a place's neighbours. -/
def oth (p q : Nat → Nat) (c x : Nat) : Nat := if p c = x then q c else p c
/-- The places one by one. -/
def way (p q : Nat → Nat) (i : Nat) : Nat → Nat × Nat
  | 0 => (i, min (p i) (q i))
  | t + 1 => ((way p q i t).2, oth p q (way p q i t).2 (way p q i t).1)
def at_ (p q : Nat → Nat) (i t : Nat) : Nat := (way p q i t).1
section
variable {m : Nat} {V : Nat → Prop} {p q : Nat → Nat}
theorem at_0 (i : Nat) : at_ p q i 0 = i := rfl
theorem at_s (i t : Nat) : at_ p q i (t + 1) = (way p q i t).2 := rfl
theorem at_1 (i : Nat) : at_ p q i 1 = min (p i) (q i) := rfl
theorem at_ss (i t : Nat) : at_ p q i (t + 2) = oth p q (at_ p q i (t + 1)) (at_ p q i t) := rfl
/-- Next to one another. -/
def Nb (p q : Nat → Nat) (c x : Nat) : Prop := x = p c ∨ x = q c
theorem Reg.nb_sym (R : Reg m V p q) {c x : Nat} (hc : V c) (h : Nb p q c x) : Nb p q x c := by
  rcases h with rfl | rfl
  · rcases R.sp c hc with h | h
    · exact .inl h.symm
    · exact .inr h.symm
  · rcases R.sq c hc with h | h
    · exact .inl h.symm
    · exact .inr h.symm
theorem Reg.nb_V (R : Reg m V p q) {c x : Nat} (hc : V c) (h : Nb p q c x) : V x := by
  rcases h with rfl | rfl
  · exact R.Vp c hc
  · exact R.Vq c hc
theorem Reg.nb_ne (R : Reg m V p q) {c x : Nat} (hc : V c) (h : Nb p q c x) : x ≠ c := by
  rcases h with rfl | rfl
  · exact R.pi c hc
  · exact R.qi c hc
theorem Reg.oth_nb (R : Reg m V p q) {c x : Nat} (hc : V c) (h : Nb p q c x) : Nb p q c (oth p q c x) ∧ oth p q c x ≠ x := by
  unfold oth
  rcases h with rfl | rfl
  · rw [if_pos rfl]; exact ⟨.inr rfl, (R.ne c hc).symm⟩
  · rw [if_neg (R.ne c hc)]; exact ⟨.inl rfl, R.ne c hc⟩
theorem Reg.nb_two (R : Reg m V p q) {c x y z : Nat} (hc : V c) (hx : Nb p q c x) (hy : Nb p q c y) (hxy : x ≠ y) (hz : Nb p q c z) : z = x ∨ z = y := by
  rcases hx with rfl | rfl <;> rcases hy with rfl | rfl <;> rcases hz with rfl | rfl <;> simp_all
theorem Reg.way_ok (R : Reg m V p q) {i : Nat} (hi : V i) : ∀ t, V (at_ p q i t) ∧ Nb p q (at_ p q i t) (at_ p q i (t + 1))
  | 0 => ⟨hi, by rw [at_0, at_1]; unfold Nb; omega⟩
  | t + 1 => by
    obtain ⟨h1, h2⟩ := R.way_ok hi t
    have hV := R.nb_V h1 h2
    exact ⟨hV, by rw [at_ss]; exact (R.oth_nb hV (R.nb_sym h1 h2)).1⟩
theorem Reg.way_ne2 (R : Reg m V p q) {i : Nat} (hi : V i) (t : Nat) : at_ p q i (t + 2) ≠ at_ p q i t := by
  obtain ⟨h1, h2⟩ := R.way_ok hi t
  rw [at_ss]; exact (R.oth_nb (R.nb_V h1 h2) (R.nb_sym h1 h2)).2
/-- As long as one is not back, all places are different. -/
theorem Reg.apart (R : Reg m V p q) {i : Nat} (hi : V i) : ∀ t, (∀ u, 1 ≤ u → u ≤ t → at_ p q i u ≠ i) → ∀ u v, u < v → v ≤ t → at_ p q i u ≠ at_ p q i v
  | 0, _, u, v, h1, h2 => by omega
  | t + 1, h, u, v, h1, h2 => by
    have ih := R.apart hi t (fun u h1 h2 => h u h1 (by omega))
    by_cases hv : v ≤ t
    · exact ih u v h1 hv
    obtain rfl : v = t + 1 := by omega
    intro e
    by_cases hu0 : u = 0
    · subst hu0; exact h (t + 1) (by omega) (Nat.le_refl _) e.symm
    obtain ⟨s, rfl⟩ : ∃ s, u = s + 1 := ⟨u - 1, by omega⟩
    obtain ⟨hVt, hNt⟩ := R.way_ok hi t
    by_cases h3 : s + 1 = t
    · subst h3; exact R.nb_ne hVt hNt e.symm
    by_cases h4 : s + 2 = t
    · obtain rfl : t = s + 2 := h4.symm
      exact R.way_ne2 hi (s + 1) e.symm
    obtain ⟨a1, a2⟩ := R.way_ok hi s
    obtain ⟨b1, b2⟩ := R.way_ok hi (s + 1)
    have c1 := R.nb_sym a1 a2
    have c2 : Nb p q (at_ p q i (s + 1)) (at_ p q i t) := by rw [e]; exact R.nb_sym hVt hNt
    rcases R.nb_two b1 c1 b2 (R.way_ne2 hi s).symm c2 with h5 | h5
    · exact ih s t (by omega) (Nat.le_refl _) h5.symm
    · exact ih (s + 2) t (by omega) (Nat.le_refl _) h5.symm
theorem Reg.back (R : Reg m V p q) {i : Nat} (hi : V i) : ∃ k, k < m ∧ at_ p q i (k + 1) = i ∧ ∀ u, 1 ≤ u → u ≤ k → at_ p q i u ≠ i := by
  have hex : ∃ u, 1 ≤ u ∧ u ≤ m ∧ at_ p q i u = i := by
    rcases Classical.em (∃ u, 1 ≤ u ∧ u ≤ m ∧ at_ p q i u = i) with h | h
    · exact h
    · exfalso
      obtain ⟨u, v, h1, h2, h3⟩ := pigeon m (at_ p q i) (fun u hu => R.lt _ (R.way_ok hi u).1)
      exact R.apart hi m (fun u h1 h2 e => h ⟨u, h1, h2, e⟩) u v h1 h2 h3
  have : ∀ n, (∃ u, 1 ≤ u ∧ u ≤ n ∧ u ≤ m ∧ at_ p q i u = i) → ∃ k, k < m ∧ at_ p q i (k + 1) = i ∧ ∀ u, 1 ≤ u → u ≤ k → at_ p q i u ≠ i := by
    intro n
    induction n with
    | zero => rintro ⟨u, h1, h2, _⟩; omega
    | succ n ih =>
      rintro ⟨u, h1, h2, h3, h4⟩
      rcases Classical.em (∃ u, 1 ≤ u ∧ u ≤ n ∧ u ≤ m ∧ at_ p q i u = i) with h | h
      · exact ih h
      · refine ⟨u - 1, by omega, by rw [show u - 1 + 1 = u by omega]; exact h4, fun v v1 v2 e => h ⟨v, v1, by omega, by omega, e⟩⟩
  obtain ⟨u, h1, h2, h3⟩ := hex
  exact this m ⟨u, h1, h2, h2, h3⟩
end
/-! ### The neighbours of segments -/
/-- The places next to one, in the segments' order. -/
def nbs (l : List (Int × Int)) (i : Nat) : List Int := l.filterMap fun s : Int × Int => if s.1 = (i : Int) then some s.2 else if s.2 = (i : Int) then some s.1 else none
/-- Segments that may be, among so many places, none twice. -/
structure Segs (m : Nat) (l : List (Int × Int)) : Prop where
  ok : ∀ s ∈ l, ∃ a b : Nat, s = ((a : Int), (b : Int)) ∧ a < m ∧ b < m ∧ a ≠ b
  once : ∀ j k : Nat, j < k → ∀ s t, l[j]? = some s → l[k]? = some t → nrm s ≠ nrm t
theorem nbs_app (l l' : List (Int × Int)) (i : Nat) : nbs (l ++ l') i = nbs l i ++ nbs l' i := by simp [nbs]
theorem nbF_app (m : Nat) (l : List (Int × Int)) (s : Int × Int) : nbF m (l ++ [s]) = stepN (nbF m l) s := by unfold nbF; rw [List.foldl_append]; rfl
theorem nbF_nbs {m : Nat} : ∀ (k : Nat) (l : List (Int × Int)), l.length = k → (∀ s ∈ l, ∃ a b : Nat, s = ((a : Int), (b : Int)) ∧ a < m ∧ b < m ∧ a ≠ b) → ∀ i, i < m → (nbF m l)[i]? = some ((nbs l i).foldl putP (-1, -1))
  | 0, l, hl, _, i, hi => by
    obtain rfl := List.eq_nil_of_length_eq_zero hl
    simp [nbF, nbs, hi]
  | k + 1, l, hl, h, i, hi => by
    obtain ⟨l0, s, rfl⟩ : ∃ l0 s, l = l0 ++ [s] := by
      have hne : l ≠ [] := fun e => by rw [e] at hl; cases hl
      exact ⟨l.dropLast, l.getLast hne, (List.dropLast_concat_getLast hne).symm⟩
    have ih := nbF_nbs (m := m) k l0 (by simp at hl; exact hl) (fun s hs => h s (List.mem_append_left _ hs))
    obtain ⟨a, b, rfl, ha, hb, hab⟩ := h s (by simp)
    rw [nbF_app, nbs_app, List.foldl_append]
    have hga : (nbF m l0).getD a (0, 0) = (nbs l0 a).foldl putP (-1, -1) := by rw [List.getD_eq_getElem?_getD, ih a ha]; rfl
    have hgb : (nbF m l0).getD b (0, 0) = (nbs l0 b).foldl putP (-1, -1) := by rw [List.getD_eq_getElem?_getD, ih b hb]; rfl
    show ((((nbF m l0).set a (putP ((nbF m l0).getD a (0, 0)) b)).set b (putP ((nbF m l0).getD b (0, 0)) a)))[i]? = _
    rw [List.getElem?_set, List.getElem?_set, List.length_set, nbF_len, hga, hgb]
    by_cases h1 : b = i
    · subst h1
      rw [if_pos rfl, if_pos hb]
      have : nbs [((a : Int), (b : Int))] b = [(a : Int)] := by simp [nbs, show ¬ ((a : Int) = (b : Int)) by omega]; try omega
      rw [this]; rfl
    · rw [if_neg h1]
      by_cases h2 : a = i
      · subst h2
        rw [if_pos rfl, if_pos ha]
        have : nbs [((a : Int), (b : Int))] a = [(b : Int)] := by simp [nbs]
        rw [this]; rfl
      · rw [if_neg h2, ih i hi]
        have : nbs [((a : Int), (b : Int))] i = [] := by simp [nbs, show ¬ ((a : Int) = (i : Int)) by omega, show ¬ ((b : Int) = (i : Int)) by omega]; try omega
        rw [this]; rfl
theorem cnt_nbs {l : List (Int × Int)} (h : ∀ s ∈ l, s.1 ≠ s.2) (i : Nat) : cntE l i = (nbs l i).length := by
  induction l with
  | nil => rfl
  | cons s l ih =>
    have ih := ih (fun s hs => h s (List.mem_cons_of_mem _ hs))
    have hs := h s List.mem_cons_self
    unfold cntE nbs at *
    simp only [List.map_cons, List.sum_cons, List.filterMap_cons, ih]
    unfold endsAt
    by_cases h1 : s.1 = i
    · have h2 : s.2 ≠ i := fun e => hs (h1.trans e.symm)
      simp [h1, h2]; omega
    · by_cases h2 : s.2 = i
      · simp [h1, h2]; omega
      · simp [h1, h2]
theorem mem_nbs {l : List (Int × Int)} {i : Nat} {x : Int} (h : x ∈ nbs l i) : ∃ s ∈ l, s = ((i : Int), x) ∨ s = (x, (i : Int)) := by
  unfold nbs at h
  obtain ⟨s, hs, e⟩ := List.mem_filterMap.1 h
  refine ⟨s, hs, ?_⟩
  split at e
  · rename_i h1; left; cases e; exact Prod.ext h1 rfl
  · split at e
    · rename_i h1; right; cases e; exact Prod.ext rfl h1
    · cases e
theorem nbs_mem {l : List (Int × Int)} {i : Nat} {x : Int} {s : Int × Int} (hs : s ∈ l) (hne : s.1 ≠ s.2) (h : s = ((i : Int), x) ∨ s = (x, (i : Int))) : x ∈ nbs l i := by
  unfold nbs
  refine List.mem_filterMap.2 ⟨s, hs, ?_⟩
  rcases h with rfl | rfl
  · simp
  · simp at hne ⊢
    exact fun h => h.symm
theorem Segs.ne {m : Nat} {l : List (Int × Int)} (S : Segs m l) : ∀ s ∈ l, s.1 ≠ s.2 := fun s hs => by
  obtain ⟨a, b, rfl, _, _, h⟩ := S.ok s hs
  simp; omega
theorem Segs.nat {m : Nat} {l : List (Int × Int)} (S : Segs m l) {i : Nat} {x : Int} (h : x ∈ nbs l i) : ∃ c : Nat, x = c ∧ c < m ∧ c ≠ i ∧ i < m ∧ (i : Int) ∈ nbs l c := by
  obtain ⟨s, hs, h1⟩ := mem_nbs h
  obtain ⟨a, b, e, ha, hb, hab⟩ := S.ok s hs
  rcases h1 with h1 | h1
  · rw [h1] at e
    simp only [Prod.mk.injEq] at e
    refine ⟨b, e.2, hb, by omega, by omega, nbs_mem hs (S.ne s hs) (.inr ?_)⟩
    rw [h1, e.2]
  · rw [h1] at e
    simp only [Prod.mk.injEq] at e
    refine ⟨a, e.1, ha, by omega, by omega, nbs_mem hs (S.ne s hs) (.inl ?_)⟩
    rw [h1, e.1]
theorem nrm_of {s : Int × Int} {i x : Int} (h : s = (i, x) ∨ s = (x, i)) : nrm s = (min i x, max i x) := by
  rcases h with rfl | rfl
  · rfl
  · unfold nrm; simp only [Prod.mk.injEq]; omega
theorem Segs.twice {m : Nat} : ∀ {l : List (Int × Int)} (S : Segs m l) {i : Nat} {x : Int}, ¬ [x, x].Sublist (nbs l i) := by
  intro l
  induction l with
  | nil => intro S i x h; simp [nbs] at h
  | cons s l ih =>
    intro S i x h
    have S' : Segs m l := ⟨fun s hs => S.ok s (List.mem_cons_of_mem _ hs), fun j k hjk s t hs ht => S.once (j + 1) (k + 1) (by omega) s t (by simpa using hs) (by simpa using ht)⟩
    unfold nbs at h
    rw [List.filterMap_cons] at h
    split at h
    · exact ih S' h
    · rename_i y hy
      rcases List.sublist_cons_iff.1 h with h | ⟨r, e, h⟩
      · exact ih S' h
      · simp only [List.cons.injEq] at e
        obtain ⟨rfl, rfl⟩ := e
        have hx : x ∈ nbs l i := List.singleton_sublist.1 h
        obtain ⟨t, ht, e2⟩ := mem_nbs hx
        obtain ⟨k, hk⟩ := List.getElem?_of_mem ht
        refine S.once 0 (k + 1) (by omega) s t rfl (by simpa using hk) ?_
        have e1 : s = ((i : Int), x) ∨ s = (x, (i : Int)) := by
          split at hy
          · rename_i h1; left; cases hy; exact Prod.ext h1 rfl
          · split at hy
            · rename_i h1; right; cases hy; exact Prod.ext rfl h1
            · cases hy
        rw [nrm_of e1, nrm_of e2]
theorem segs_of {m : Nat} {l : List (Int × Int)} (hok : l.any (segBad m) = false) (hT : ¬ twF l ≥ 0) : Segs m l := by
  refine ⟨fun s hs => seg_ok hok hs, fun j k hjk s t hs ht e => hT ?_⟩
  have hk : k < l.length := (List.getElem?_eq_some_iff.1 ht).1
  have h1 : isTw l k = true := by
    rw [isTw_at ht]
    refine decide_eq_true ?_
    rw [List.mem_reverse, ← e]
    refine List.mem_map_of_mem ?_
    exact List.mem_of_getElem? (show (l.take k)[j]? = some s by rw [List.getElem?_take, if_pos hjk]; exact hs)
  have key : ∀ n, (∃ k, k ≤ n ∧ k < l.length ∧ isTw l k = true) → twF l ≥ 0 := by
    intro n
    induction n with
    | zero =>
      rintro ⟨k, h0, h2, h3⟩
      obtain rfl : k = 0 := by omega
      rw [show twF l = ((0 : Nat) : Int) from first_at (fun j _ h => by omega) h3 (Nat.zero_le _) (by omega)]
      omega
    | succ n ih =>
      rintro ⟨k, h0, h2, h3⟩
      rcases Classical.em (∃ k, k ≤ n ∧ k < l.length ∧ isTw l k = true) with h | h
      · exact ih h
      · rw [show twF l = (k : Int) from first_at (fun j _ hj => by
          cases hb : isTw l j with
          | false => rfl
          | true => exact absurd ⟨j, by omega, by omega, hb⟩ h) h3 (Nat.zero_le _) (by omega)]
        omega
  exact key k ⟨k, Nat.le_refl _, hk, h1⟩
theorem first_neg {p : Nat → Bool} : ∀ {n i : Nat}, ¬ firstFrom p i n ≥ 0 → ∀ j, i ≤ j → j < i + n → p j = false
  | 0, i, _, j, h1, h2 => by omega
  | n + 1, i, h, j, h1, h2 => by
    unfold firstFrom at h
    by_cases hp : p i = true
    · rw [if_pos hp] at h; omega
    · rw [if_neg hp] at h
      by_cases e : j = i
      · subst e; simpa using hp
      · exact first_neg h j (by omega) (by omega)
theorem two_of {m : Nat} {l : List (Int × Int)} (hI : ¬ idxF (degs m l) ≥ 0) {i : Nat} (hi : i < m) : cntE l i = 0 ∨ cntE l i = 2 := by
  have := first_neg hI i (Nat.zero_le _) (by rw [degs_len]; omega)
  rw [badAt_at (degs_at hi)] at this
  unfold ringBad at this
  simp only [Bool.and_eq_false_iff, bne_eq_false_iff_eq] at this
  exact this
/-- The two neighbours of a place, as numbers. -/
def pN (nb : List (Int × Int)) (i : Nat) : Nat := (nb.getD i (0, 0)).1.toNat
def qN (nb : List (Int × Int)) (i : Nat) : Nat := (nb.getD i (0, 0)).2.toNat
/-- Segments of which each place has none or two. -/
structure Two (m : Nat) (l : List (Int × Int)) : Prop where
  S : Segs m l
  two : ∀ i, i < m → cntE l i = 0 ∨ cntE l i = 2
theorem Two.nbs {m : Nat} {l : List (Int × Int)} (T : Two m l) {i : Nat} (hi : i < m) (h : cntE l i ≠ 0) : ∃ x y : Nat, nbs l i = [(x : Int), (y : Int)] ∧ (nbF m l).getD i (0, 0) = ((x : Int), (y : Int)) ∧ x ≠ y := by
  have h2 : cntE l i = 2 := (T.two i hi).resolve_left h
  rw [cnt_nbs T.S.ne] at h2
  have hlen : (Go.Proofs.Ytcifcohkjifadaa.nbs l i).length = 2 := by omega
  match hn : Go.Proofs.Ytcifcohkjifadaa.nbs l i, hlen with
  | [u, v], _ =>
    obtain ⟨x, rfl, _⟩ := T.S.nat (i := i) (x := u) (by rw [hn]; simp)
    obtain ⟨y, rfl, _⟩ := T.S.nat (i := i) (x := v) (by rw [hn]; simp)
    refine ⟨x, y, rfl, ?_, fun e => ?_⟩
    · rw [List.getD_eq_getElem?_getD, nbF_nbs l.length l rfl T.S.ok i hi, hn]
      simp [putP]
    · subst e
      exact T.S.twice (i := i) (x := (x : Int)) (by rw [hn]; exact List.Sublist.refl _)
theorem Two.pq {m : Nat} {l : List (Int × Int)} (T : Two m l) {i : Nat} (hi : i < m) (h : cntE l i ≠ 0) : Go.Proofs.Ytcifcohkjifadaa.nbs l i = [((pN (nbF m l) i : Nat) : Int), ((qN (nbF m l) i : Nat) : Int)] ∧ (nbF m l).getD i (0, 0) = (((pN (nbF m l) i : Nat) : Int), ((qN (nbF m l) i : Nat) : Int)) ∧ pN (nbF m l) i ≠ qN (nbF m l) i := by
  obtain ⟨x, y, h1, h2, h3⟩ := T.nbs hi h
  unfold pN qN
  rw [h2]
  exact ⟨h1, rfl, h3⟩
theorem Two.V {m : Nat} {l : List (Int × Int)} (T : Two m l) {i c : Nat} (h : (i : Int) ∈ Go.Proofs.Ytcifcohkjifadaa.nbs l c) : cntE l c ≠ 0 := by
  rw [cnt_nbs T.S.ne]
  intro e
  have : (Go.Proofs.Ytcifcohkjifadaa.nbs l c).length = 0 := by omega
  rw [List.eq_nil_of_length_eq_zero this] at h
  cases h
theorem Two.reg {m : Nat} {l : List (Int × Int)} (T : Two m l) : Reg m (fun i => i < m ∧ cntE l i ≠ 0) (pN (nbF m l)) (qN (nbF m l)) := by
  have key : ∀ i, i < m → cntE l i ≠ 0 → ∀ c : Nat, (c : Int) ∈ Go.Proofs.Ytcifcohkjifadaa.nbs l i → c ≠ i ∧ (c < m ∧ cntE l c ≠ 0) ∧ (pN (nbF m l) c = i ∨ qN (nbF m l) c = i) := fun i hi h c hc => by
    obtain ⟨c', e, h1, h2, h3, h4⟩ := T.S.nat hc
    obtain rfl : c = c' := by omega
    have hV := T.V h4
    refine ⟨h2, ⟨h1, hV⟩, ?_⟩
    rw [(T.pq h1 hV).1] at h4
    simp only [List.mem_cons, List.not_mem_nil, or_false] at h4
    omega
  have hp : ∀ i, i < m → cntE l i ≠ 0 → ((pN (nbF m l) i : Nat) : Int) ∈ Go.Proofs.Ytcifcohkjifadaa.nbs l i := fun i hi h => by rw [(T.pq hi h).1]; simp
  have hq : ∀ i, i < m → cntE l i ≠ 0 → ((qN (nbF m l) i : Nat) : Int) ∈ Go.Proofs.Ytcifcohkjifadaa.nbs l i := fun i hi h => by rw [(T.pq hi h).1]; simp
  exact ⟨fun i h => h.1, fun i h => (T.pq h.1 h.2).2.2, fun i h => (key i h.1 h.2 _ (hp i h.1 h.2)).1, fun i h => (key i h.1 h.2 _ (hq i h.1 h.2)).1, fun i h => (key i h.1 h.2 _ (hp i h.1 h.2)).2.1, fun i h => (key i h.1 h.2 _ (hq i h.1 h.2)).2.1,
    fun i h => (key i h.1 h.2 _ (hp i h.1 h.2)).2.2, fun i h => (key i h.1 h.2 _ (hq i h.1 h.2)).2.2⟩
/-- The walk's numbers are those of the way. -/
theorem Two.seq {m : Nat} {l : List (Int × Int)} (T : Two m l) {i : Nat} (hi : i < m) (h : cntE l i ≠ 0) : ∀ t, seqR (nbF m l) i t = (((at_ (pN (nbF m l)) (qN (nbF m l)) i t : Nat) : Int), ((at_ (pN (nbF m l)) (qN (nbF m l)) i (t + 1) : Nat) : Int))
  | 0 => by
    show ((i : Int), min ((nbF m l).getD (i : Int).toNat (0, 0)).1 ((nbF m l).getD (i : Int).toNat (0, 0)).2) = _
    rw [Int.toNat_natCast, (T.pq hi h).2.1, at_0, at_1]
    simp only [Prod.mk.injEq, true_and]
    omega
  | t + 1 => by
    have ih := T.seq hi h t
    obtain ⟨h1, h2⟩ := T.reg.way_ok (i := i) ⟨hi, h⟩ (t + 1)
    have e : (seqR (nbF m l) i (t + 1)) = ((seqR (nbF m l) i t).2, if ((nbF m l).getD (seqR (nbF m l) i t).2.toNat (0, 0)).1 = (seqR (nbF m l) i t).1 then ((nbF m l).getD (seqR (nbF m l) i t).2.toNat (0, 0)).2 else ((nbF m l).getD (seqR (nbF m l) i t).2.toNat (0, 0)).1) := rfl
    rw [e, ih]
    simp only [Int.toNat_natCast]
    rw [(T.pq h1.1 h1.2).2.1, at_ss]
    simp only [Prod.mk.injEq, true_and]
    unfold oth
    by_cases hc : pN (nbF m l) (at_ (pN (nbF m l)) (qN (nbF m l)) i (t + 1)) = at_ (pN (nbF m l)) (qN (nbF m l)) i t
    · rw [if_pos hc, if_pos (by omega)]
    · rw [if_neg hc, if_neg (by omega)]
theorem Two.back {m : Nat} {l : List (Int × Int)} (T : Two m l) {i : Nat} (hi : i < m) (h : cntE l i ≠ 0) : Back m (nbF m l) i := by
  obtain ⟨k, h1, h2, h3⟩ := T.reg.back (i := i) ⟨hi, h⟩
  refine ⟨k, by omega, by rw [T.seq hi h, h2], fun t ht => ?_⟩
  rw [T.seq hi h]
  refine ⟨?_, _, rfl, T.reg.lt _ (T.reg.way_ok (i := i) ⟨hi, h⟩ (t + 1)).1⟩
  have := h3 (t + 1) (by omega) (by omega)
  simp only
  omega
theorem two_ok {m : Nat} {l : List (Int × Int)} (hok : l.any (segBad m) = false) (hT : ¬ twF l ≥ 0) (hI : ¬ idxF (degs m l) ≥ 0) : Two m l := ⟨segs_of hok hT, fun i hi => two_of hI hi⟩
end Go.Proofs.Ytcifcohkjifadaa

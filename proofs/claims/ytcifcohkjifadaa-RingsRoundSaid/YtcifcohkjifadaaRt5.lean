/- Loops in plain words: places in a row, each with the next one, and the last with the first, are one loop. -/
import Derived.Test.YtcifcohkjifadaaRt4
set_option linter.unusedVariables false
set_option linter.unusedSimpArgs false
namespace Go.Proofs.Ytcifcohkjifadaa
theorem Two.args {m : Nat} {l : List (Int × Int)} (S : Segs m l) (hm : m ≤ 1048576) : argBad m l = false ∧ ¬ twF l ≥ 0 := by
  constructor
  · refine argBad_ok hm ?_
    rw [List.any_eq_false]
    intro s hs
    obtain ⟨a, b, rfl, h1, h2, h3⟩ := S.ok s hs
    simp [segBad]
    omega
  · rw [nodup_tw, List.nodup_iff_pairwise_ne, List.pairwise_iff_getElem]
    intro i j hi hj hij e
    rw [List.getElem_map, List.getElem_map] at e
    simp only [List.length_map] at hi hj
    exact S.once i j hij _ _ (List.getElem?_eq_getElem hi) (List.getElem?_eq_getElem hj) e
theorem bad_no {m : Nat} {l : List (Int × Int)} {j : Nat} (hj : j < m) (h : cntE l j = 0 ∨ cntE l j = 2) : badAt (degs m l) j = false := by
  rw [badAt_at (degs_at hj)]
  rcases h with h | h <;> rw [h] <;> rfl
theorem ringsR_two {m : Nat} {l : List (Int × Int)} (T : Two m l) (hm : m ≤ 1048576) : ringsR m l = (outF (nbF m l) (degs m l) m, 0, 0) := by
  obtain ⟨h1, h2⟩ := Two.args T.S hm
  refine ringsR_ok h1 h2 ?_
  rw [show idxF (degs m l) = -1 from first_none fun j _ hj => bad_no (by rw [degs_len] at hj; omega) (T.two j (by rw [degs_len] at hj; omega))]
  decide
/-- A row of places of one byte each, all different. -/
structure Row (l : List Int) : Prop where
  nd : l.Nodup
  by_ : ∀ x ∈ l, 0 ≤ x ∧ x ≤ 255
  three : 3 ≤ l.length
section
variable {l : List Int}
abbrev El (l : List Int) (t : Nat) : Int := l.getD t 0
theorem Row.inj (R : Row l) {t u : Nat} (ht : t < l.length) (hu : u < l.length) (h : El l t = El l u) : t = u := (List.getD_inj ht hu R.nd).1 h
theorem Row.mem (R : Row l) {t : Nat} (ht : t < l.length) : El l t ∈ l := by
  unfold El
  rw [List.getD_eq_getElem?_getD, List.getElem?_eq_getElem ht]
  exact List.getElem_mem ht
theorem nx_lt (R : Row l) (t : Nat) : (t + 1) % l.length < l.length := Nat.mod_lt _ (by have := R.three; omega)
theorem nx_eq (R : Row l) {t : Nat} (ht : t < l.length) : (t + 1) % l.length = if t + 1 < l.length then t + 1 else 0 := by
  split
  · rename_i h; exact Nat.mod_eq_of_lt h
  · obtain e : t + 1 = l.length := by omega
    rw [e, Nat.mod_self]
abbrev Sg (l : List Int) : List (Int × Int) := segTo l l.length
theorem sg_at {t : Nat} (ht : t < l.length) : (Sg l)[t]? = some (El l t, El l ((t + 1) % l.length)) := by
  unfold Sg segTo
  rw [List.getElem?_map, List.getElem?_range ht]
  rfl
theorem sg_mem {s : Int × Int} (h : s ∈ Sg l) : ∃ t, t < l.length ∧ s = (El l t, El l ((t + 1) % l.length)) := by
  unfold Sg segTo at h
  obtain ⟨t, ht, e⟩ := List.mem_map.1 h
  exact ⟨t, List.mem_range.1 ht, e.symm⟩
theorem Row.segs (R : Row l) : Segs 256 (Sg l) := by
  have h3 := R.three
  refine ⟨fun s hs => ?_, fun j k hjk s u hs hu e => ?_⟩
  · obtain ⟨t, ht, rfl⟩ := sg_mem hs
    have h1 := R.by_ _ (R.mem ht)
    have h2 := R.by_ _ (R.mem (nx_lt R t))
    refine ⟨(El l t).toNat, (El l ((t + 1) % l.length)).toNat, by simp only [Prod.mk.injEq]; omega, by omega, by omega, fun e => ?_⟩
    have := R.inj ht (nx_lt R t) (by omega)
    rw [nx_eq R ht] at this
    split at this <;> omega
  · have hk : k < l.length := by have := (List.getElem?_eq_some_iff.1 hu).1; rw [segTo_len] at this; exact this
    rw [sg_at (by omega)] at hs
    rw [sg_at hk] at hu
    cases hs; cases hu
    rw [nrm_eq] at e
    rcases e with ⟨e1, _⟩ | ⟨e1, e2⟩
    · have := R.inj (by omega) hk e1; omega
    · have a1 := R.inj (by omega) (nx_lt R k) e1
      have a2 := R.inj (nx_lt R j) hk e2
      rw [nx_eq R hk] at a1
      rw [nx_eq R (by omega)] at a2
      split at a1 <;> split at a2 <;> omega
theorem sum_add (f g : Nat → Int) (r : List Nat) : (r.map fun t => f t + g t).sum = (r.map f).sum + (r.map g).sum := by
  induction r with
  | nil => rfl
  | cons x r ih => simp only [List.map_cons, List.sum_cons, ih]; omega
def oneAt (v x : Int) : Int := if x = v then 1 else 0
theorem sum_one (v : Int) (r : List Int) : (r.map (oneAt v)).sum = (r.count v : Nat) := by
  induction r with
  | nil => rfl
  | cons x r ih =>
    rw [List.map_cons, List.sum_cons, ih, List.count_cons]
    unfold oneAt
    by_cases e : x = v
    · simp [e]; omega
    · simp [e]
theorem Row.cnt (R : Row l) (v : Nat) : cntE (Sg l) v = if (v : Int) ∈ l then 2 else 0 := by
  have e0 : (List.range l.length).map (fun t => El l t) = l := by
    apply List.ext_getElem?
    intro j
    by_cases h : j < l.length
    · rw [List.getElem?_map, List.getElem?_range h, Option.map_some]
      unfold El
      rw [List.getD_eq_getElem?_getD, List.getElem?_eq_getElem h]; rfl
    · rw [List.getElem?_eq_none (by simp; omega), List.getElem?_eq_none (by omega)]
  have e1 : cntE (Sg l) v = ((List.range l.length).map fun t => oneAt v (El l t) + oneAt v (El l ((t + 1) % l.length))).sum := by
    unfold cntE Sg segTo
    rw [List.map_map]
    rfl
  have e2 : ((List.range l.length).map fun t => oneAt v (El l t)).sum = ((l.count (v : Int) : Nat) : Int) := by
    rw [← sum_one]
    congr 1
    have := congrArg (List.map (oneAt (v : Int))) e0
    rw [List.map_map] at this
    exact this
  have e3 : ((List.range l.length).map fun t => oneAt v (El l ((t + 1) % l.length))).sum = ((l.count (v : Int) : Nat) : Int) := by
    rw [← sum_one]
    have hp := rot_perm l 1 0
    have := perm_sum (List.Perm.map (oneAt (v : Int)) hp)
    rw [List.map_map] at this
    exact this
  rw [e1, sum_add, e2, e3, R.nd.count]
  split <;> rfl
theorem Row.two (R : Row l) : Two 256 (Sg l) := ⟨R.segs, fun i _ => by rw [R.cnt]; split <;> simp⟩
theorem Row.in_V (R : Row l) {v : Nat} : cntE (Sg l) v ≠ 0 ↔ (v : Int) ∈ l := by
  rw [R.cnt]
  split
  · rename_i h; simp [h]
  · rename_i h; simp [h]
theorem Row.ring (R : Row l) : ∃ r, ringsR 256 (Sg l) = ([r], 0, 0) ∧ r.length = l.length := by
  have h3 := R.three
  have T := R.two
  have P := T.parts 256 (Nat.le_refl _)
  have hb := R.by_
  -- the loop that the first place is in
  obtain ⟨c0, hc0⟩ : ∃ c0 : Nat, El l 0 = c0 := ⟨(El l 0).toNat, by have := hb _ (R.mem (t := 0) (by omega)); omega⟩
  have hm0 : (c0 : Int) ∈ l := hc0 ▸ R.mem (t := 0) (by omega)
  have hf0 := P.all c0 (by have := hb _ hm0; omega) (R.in_V.2 hm0)
  obtain ⟨r0, hr0, hcr⟩ := List.mem_flatten.1 hf0
  obtain ⟨i, hi, hV, rfl⟩ := P.rings r0 hr0
  have hall : ∀ t, t < l.length → El l t ∈ ringAt (nbF 256 (Sg l)) i := fun t => by
    induction t with
    | zero => intro _; rw [hc0]; exact hcr
    | succ t ih =>
      intro ht
      have ih := ih (by omega)
      have h1 := hb _ (R.mem (show t < l.length by omega))
      have h2 := hb _ (R.mem ht)
      obtain ⟨a, ha⟩ : ∃ a : Nat, El l t = a := ⟨(El l t).toNat, by omega⟩
      obtain ⟨b, hb'⟩ : ∃ b : Nat, El l (t + 1) = b := ⟨(El l (t + 1)).toNat, by omega⟩
      have hs : ((a : Int), (b : Int)) ∈ Sg l := by
        have := sg_at (l := l) (t := t) (by omega)
        rw [Nat.mod_eq_of_lt ht, ha, hb'] at this
        exact List.mem_of_getElem? this
      have hne := T.S.ne _ hs
      have hn : (b : Int) ∈ nbs (Sg l) a := nbs_mem hs hne (.inl rfl)
      have hca : cntE (Sg l) a ≠ 0 := T.V hn
      rw [(T.pq (by omega) hca).1] at hn
      simp only [List.mem_cons, List.not_mem_nil, or_false] at hn
      rw [ha] at ih
      rw [hb']
      exact T.ring_closed hi hV ih (by unfold Nb; omega)
  have hsub : l ⊆ ringAt (nbF 256 (Sg l)) i := fun x hx => by
    obtain ⟨t, ht, e⟩ := List.getElem_of_mem hx
    have := hall t ht
    unfold El at this
    rw [List.getD_eq_getElem?_getD, List.getElem?_eq_getElem ht] at this
    exact e ▸ this
  have hle := R.nd.length_le_of_subset hsub
  have hfl : (outF (nbF 256 (Sg l)) (degs 256 (Sg l)) 256).flatten.length ≤ l.length := P.nodup.length_le_of_subset fun x hx => by
    obtain ⟨c, rfl, _, hc⟩ := P.mem x hx
    exact R.in_V.1 hc
  obtain ⟨A, B, hAB⟩ := List.append_of_mem hr0
  have hlen : ∀ r ∈ outF (nbF 256 (Sg l)) (degs 256 (Sg l)) 256, 1 ≤ r.length := fun r hr => by
    obtain ⟨i, _, _, rfl⟩ := P.rings r hr
    have : (ringAt (nbF 256 (Sg l)) (i : Int)).length = lenR (nbF 256 (Sg l)) i + 1 := ringTo_len _ _ _
    omega
  rw [hAB] at hfl hlen
  simp only [List.flatten_append, List.flatten_cons, List.length_append] at hfl
  have hA : A = [] := by
    cases A with
    | nil => rfl
    | cons r A =>
      have := hlen r (by simp)
      simp only [List.flatten_cons, List.length_append] at hfl
      omega
  have hB : B = [] := by
    cases B with
    | nil => rfl
    | cons r B =>
      have := hlen r (by simp)
      simp only [List.flatten_cons, List.length_append] at hfl
      omega
  subst hA hB
  refine ⟨_, by rw [show ((256 : Int)) = ((256 : Nat) : Int) from rfl, ringsR_two T (by decide), hAB]; rfl, by simp at hfl; omega⟩
theorem Row.less (R : Row l) {k : Nat} (hk : k < l.length) : ringsR 256 ((Sg l).take k ++ (Sg l).drop (k + 1)) = ([], min (El l k) (El l ((k + 1) % l.length)), 81) := by
  have h3 := R.three
  have S := R.segs
  have hsk := sg_at hk
  obtain ⟨a, b, hab, ha, hb, hne⟩ := S.ok _ (List.mem_of_getElem? hsk)
  have hsub : ((Sg l).take k ++ (Sg l).drop (k + 1)).Sublist (Sg l) := by
    rw [← List.eraseIdx_eq_take_drop_succ]; exact List.eraseIdx_sublist ..
  have hdec : Sg l = (Sg l).take k ++ (El l k, El l ((k + 1) % l.length)) :: (Sg l).drop (k + 1) := by
    have h1 := take_succ' hsk
    have h := List.take_append_drop (k + 1) (Sg l)
    rw [h1, List.append_assoc] at h
    exact h.symm
  have hcnt : ∀ v : Nat, cntE ((Sg l).take k ++ (Sg l).drop (k + 1)) v = cntE (Sg l) v - endsAt v (El l k, El l ((k + 1) % l.length)) := fun v => by
    have e : cntE (Sg l) v = cntE ((Sg l).take k ++ (El l k, El l ((k + 1) % l.length)) :: (Sg l).drop (k + 1)) v := congrArg (fun x => cntE x v) hdec
    rw [show ∀ (p : Int × Int) (q : List (Int × Int)), p :: q = [p] ++ q from fun _ _ => rfl, cntE_app, cntE_app] at e
    rw [cntE_app, e]
    simp only [cntE, List.map_cons, List.map_nil, List.sum_cons, List.sum_nil]
    omega
  have hA : argBad ((256 : Nat) : Int) ((Sg l).take k ++ (Sg l).drop (k + 1)) = false := by
    refine argBad_ok (by decide) ?_
    rw [List.any_eq_false]
    intro s hs
    obtain ⟨a, b, rfl, h1, h2, h3⟩ := S.ok s (hsub.subset hs)
    simp [segBad]
    omega
  have hT : ¬ twF ((Sg l).take k ++ (Sg l).drop (k + 1)) ≥ 0 := by
    rw [nodup_tw]
    exact (hsub.map nrm).nodup ((nodup_tw _).1 (Two.args S (by decide)).2)
  rw [hab] at hcnt
  have hin : ∀ v : Nat, v = a ∨ v = b → cntE (Sg l) v = 2 := fun v hv => by
    rw [R.cnt, if_pos]
    have hm1 := R.mem hk
    have hm2 := R.mem (nx_lt R k)
    simp only [Prod.mk.injEq] at hab
    rcases hv with rfl | rfl
    · exact hab.1 ▸ hm1
    · exact hab.2 ▸ hm2
  have hI : idxF (degs 256 ((Sg l).take k ++ (Sg l).drop (k + 1))) = ((min a b : Nat) : Int) := by
    refine first_at (fun j _ hj => bad_no (by omega) ?_) ?_ (Nat.zero_le _) (by rw [degs_len]; omega)
    · rw [hcnt]
      unfold endsAt
      rw [if_neg (by simp only; omega), if_neg (by simp only; omega)]
      rcases R.two.two j (by omega) with h | h <;> rw [h] <;> simp
    · rw [badAt_at (degs_at (by omega)), hcnt, hin _ (by omega)]
      unfold endsAt
      have : (if ((a : Int), (b : Int)).1 = ((min a b : Nat) : Int) then (1 : Int) else 0) + (if ((a : Int), (b : Int)).2 = ((min a b : Nat) : Int) then 1 else 0) = 1 := by
        rcases Nat.lt_or_ge a b with h | h
        · rw [Nat.min_eq_left (by omega), if_pos rfl, if_neg (by simp only; omega)]; rfl
        · rw [Nat.min_eq_right h, if_neg (by simp only; omega), if_pos rfl]; rfl
      rw [this]
      rfl
  simp only [Prod.mk.injEq] at hab
  rw [show ((256 : Int)) = ((256 : Nat) : Int) from rfl, ringsR_ix hA hT (by rw [hI]; omega), hI, hab.1, hab.2]
  congr 2
  omega
theorem Row.more (R : Row l) {k : Nat} (hk : k < l.length) : ringsR 256 (Sg l ++ [(El l k, El l ((k + 1) % l.length))]) = ([], (l.length : Int), 80) := by
  have S := R.segs
  have hsk := sg_at hk
  have hA : argBad ((256 : Nat) : Int) (Sg l ++ [(El l k, El l ((k + 1) % l.length))]) = false := by
    refine argBad_ok (by decide) ?_
    rw [List.any_eq_false]
    intro s hs
    have hs' : s ∈ Sg l := by
      rcases List.mem_append.1 hs with h | h
      · exact h
      · rw [List.mem_singleton.1 h]; exact List.mem_of_getElem? hsk
    obtain ⟨a, b, rfl, h1, h2, h3⟩ := S.ok s hs'
    simp [segBad]
    omega
  have hlen : (Sg l).length = l.length := segTo_len l l.length
  have hT : twF (Sg l ++ [(El l k, El l ((k + 1) % l.length))]) = (l.length : Int) := by
    refine first_at (fun j _ hj => ?_) ?_ (Nat.zero_le _) (by rw [List.length_append, hlen, List.length_singleton]; omega)
    · have hj' : j < (Sg l).length := by omega
      have e1 : (Sg l ++ [(El l k, El l ((k + 1) % l.length))])[j]? = (Sg l)[j]? := List.getElem?_append_left hj'
      have e2 : (Sg l ++ [(El l k, El l ((k + 1) % l.length))]).take j = (Sg l).take j := List.take_append_of_le_length (by omega)
      have h1 := first_neg (Two.args S (by decide)).2 j (Nat.zero_le _) (by omega)
      unfold isTw at h1 ⊢
      rw [e1, e2]
      exact h1
    · have e1 : (Sg l ++ [(El l k, El l ((k + 1) % l.length))])[l.length]? = some (El l k, El l ((k + 1) % l.length)) := by
        rw [List.getElem?_append_right (by omega), hlen, Nat.sub_self]; rfl
      rw [isTw_at e1]
      refine decide_eq_true ?_
      rw [List.mem_reverse]
      refine List.mem_map_of_mem ?_
      rw [List.take_append_of_le_length (by omega), List.take_of_length_le (by omega)]
      exact List.mem_of_getElem? hsk
  rw [show ((256 : Int)) = ((256 : Nat) : Int) from rfl, ringsR_tw hA (by rw [hT]; omega), hT]
end
end Go.Proofs.Ytcifcohkjifadaa

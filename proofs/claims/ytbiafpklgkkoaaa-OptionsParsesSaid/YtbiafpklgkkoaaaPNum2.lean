/- Plain words on the numbers of any greatness, as the given program's Lean functions tell them: sums. -/
import Derived.Test.YtbiafpklgkkoaaaPNum1
import Derived.Test.YtbiafpklgkkoaaaMT4
import Derived.Test.YtbiafpklgkkoaaaMT5
import Derived.Test.YtbiafpklgkkoaaaMT6
set_option linter.unusedVariables false
set_option linter.unusedSimpArgs false
namespace Go.Proofs.Ytbiafpklgkkoaaa
open Go Go.RowKit Go.Proofs.Ytbiafpklgkkoaaa.MT Go.Proofs.YtbiafpklgkkoaaaW.PrintWords Go.Proofs.YtbiafpklgkkoaaaW.PrintLast

theorem val_split (ds : List Int) (i : Nat) : val ds = val (ds.take i) + 65536 ^ (ds.take i).length * val (ds.drop i) := by
  conv => lhs; rw [← List.take_append_drop i ds]
  rw [val_append]
theorem val_drop {ds : List Int} {i : Nat} (h : i < ds.length) : val (ds.drop i) = ds.getD i 0 + 65536 * val (ds.drop (i + 1)) := by
  rw [List.drop_eq_getElem_cons h, val, List.getD_eq_getElem?_getD, List.getElem?_eq_getElem h]; rfl
theorem drop_same {a b : List Int} (hl : a.length = b.length) (i : Nat) (h : ∀ j, i < j → a.getD j 0 = b.getD j 0) : a.drop (i + 1) = b.drop (i + 1) := by
  apply List.ext_getElem?
  intro n
  rw [List.getElem?_drop, List.getElem?_drop]
  have h1 := h (i + 1 + n) (by omega)
  rw [List.getD_eq_getElem?_getD, List.getD_eq_getElem?_getD] at h1
  rcases Nat.lt_or_ge (i + 1 + n) a.length with h2 | h2
  · rw [List.getElem?_eq_getElem h2, List.getElem?_eq_getElem (by omega)] at h1 ⊢
    simpa using h1
  · rw [List.getElem?_eq_none h2, List.getElem?_eq_none (by omega)]
theorem cmp_at {a b : List Int} (ha : Dig a) (hb : Dig b) (hl : a.length = b.length) (i : Nat) (hi : i < a.length) (h : ∀ j, i < j → a.getD j 0 = b.getD j 0)
    (hd : a.getD i 0 < b.getD i 0) : val a < val b := by
  have h1 := val_split a i
  have h2 := val_split b i
  rw [val_drop hi, drop_same hl i h] at h1
  rw [val_drop (by omega)] at h2
  have h3 := val_lt (ha.take i)
  have h4 := val_nonneg (hb.take i)
  have hla : (a.take i).length = i := by rw [List.length_take]; omega
  have hlb : (b.take i).length = i := by rw [List.length_take]; omega
  rw [hla] at h1 h3
  rw [hlb] at h2
  have h5 := Int.mul_le_mul_of_nonneg_left (show a.getD i 0 + 65536 * val (b.drop (i + 1)) + 1 ≤ b.getD i 0 + 65536 * val (b.drop (i + 1)) by omega) (Int.le_of_lt (pow_pos i))
  rw [Int.mul_add, Int.mul_one] at h5
  omega
theorem cmp_len {a b : List Int} (ha : Dig a) (hb : Dig b) (hz : NoZero b) (hl : a.length < b.length) : val a < val b := by
  have h1 := val_lt ha
  have h2 := val_ge hb hz (by intro h; subst h; simp at hl)
  have h3 := pow_le (show a.length ≤ b.length - 1 by omega)
  omega
theorem all_same {a b : List Int} (hl : a.length = b.length) (h : ∀ j : Nat, a.getD j 0 = b.getD j 0) : a = b := by
  have h1 := drop_same (a := 0 :: a) (b := 0 :: b) (by simp [hl]) 0 (fun j hj => by
    obtain ⟨k, rfl⟩ : ∃ k, j = k + 1 := ⟨j - 1, by omega⟩
    have h2 := h k
    simpa using h2)
  simpa using h1
theorem val_take_succ (l : List Int) : ∀ i, val (l.take (i + 1)) = val (l.take i) + 65536 ^ i * l.getD i 0 := by
  induction l with
  | nil => intro i; simp [val]
  | cons d t ih =>
    intro i
    cases i with
    | zero => simp [val]
    | succ i =>
      have := ih i
      simp only [List.take_succ_cons, val, List.getD_cons_succ, Int.pow_succ]
      rw [this]
      grind
theorem take_all {l : List Int} {i : Nat} (h : l.length ≤ i) : l.take i = l := List.take_of_length_le h
theorem getD_none {l : List Int} {i : Nat} (h : l.length ≤ i) : l.getD i 0 = 0 := by rw [List.getD_eq_getElem?_getD, List.getElem?_eq_none h]; rfl

theorem plus_loop (b b' : Bool) (xs ys : List Int) (dx : Dig xs) (dy : Dig ys) (hx : xs.length ≤ 1000000) (hy : ys.length ≤ 1000000) (M : Nat) (hM : M = max xs.length ys.length) : ∀ (m i : Nat) (o : List Int) (c : Int), o.length = i → Dig o → 0 ≤ c → c ≤ 1 → i ≤ M + 1 → (i = M + 1 → c = 0) → M + 1 - i ≤ m → val o + 65536 ^ i * c = val (xs.take i) + val (ys.take i) →
    ∃ r : Bool × List Int, Ev (fun k => parquetref01_Num_Plus.l0 k o c (i : Int) b xs b' ys) r ∧ NumP (M + 1) r.1 r.2 (if b then -(val xs + val ys) else val xs + val ys) := by
  intro m
  induction m with
  | zero =>
    intro i o c hl hD h0 h1 hi hc hm hv
    obtain rfl : i = M + 1 := by omega
    have hc0 := hc rfl
    subst hc0
    rw [take_all (by omega), take_all (by omega), Int.mul_zero, Int.add_zero] at hv
    obtain ⟨r, hr, hN⟩ := trim_ev b o hD (by omega)
    rw [hv, hl] at hN
    refine ⟨r, ?_, hN⟩
    refine Ev.step (f := fun k => parquetref01_Num_Plus.j1 k o 0 ((M + 1 : Nat) : Int) false b xs b' ys) (fun k => ?_) (Ev.step (f := fun k => (parquetref01_trim.f k b o).bind fun bt => some (bt.1, bt.2)) (fun k => ?_) (Ev.bind hr (Ev.now r)))
    · simp only [parquetref01_Num_Plus.l0]
      rw [if_neg (by omega), if_neg (by omega)]
      simp
    · simp only [parquetref01_Num_Plus.j1]
      simp
  | succ m ih =>
    intro i o c hl hD h0 h1 hi hc hm hv
    by_cases hend : xs.length ≤ i ∧ ys.length ≤ i ∧ c = 0
    · obtain ⟨e1, e2, rfl⟩ := hend
      rw [take_all e1, take_all e2, Int.mul_zero, Int.add_zero] at hv
      obtain ⟨r, hr, hN⟩ := trim_ev b o hD (by omega)
      rw [hv, hl] at hN
      refine ⟨r, ?_, hN.mono (by omega)⟩
      refine Ev.step (f := fun k => parquetref01_Num_Plus.j1 k o 0 (i : Int) false b xs b' ys) (fun k => ?_) (Ev.step (f := fun k => (parquetref01_trim.f k b o).bind fun bt => some (bt.1, bt.2)) (fun k => ?_) (Ev.bind hr (Ev.now r)))
      · simp only [parquetref01_Num_Plus.l0]
        rw [if_neg (by omega), if_neg (by omega)]
        simp
      · simp only [parquetref01_Num_Plus.j1]
        simp
    · have hiM : i ≤ M := by
        rcases Nat.lt_or_ge M i with h | h
        · exact absurd ⟨by omega, by omega, hc (by omega)⟩ hend
        · exact h
      have gx := dx.at_ i
      have gy := dy.at_ i
      obtain ⟨x, hxd⟩ : ∃ x, x = xs.getD i 0 + ys.getD i 0 + c := ⟨_, rfl⟩
      have hstep := digit_step o x
      have t1 := val_take_succ xs i
      have t2 := val_take_succ ys i
      obtain ⟨r, hr, hN⟩ := ih (i + 1) (o ++ [x % 65536]) (x / 65536) (by simp [hl]) (hD.snoc (by omega)) (by omega) (by omega) (by omega) (by
          intro hi2
          have : xs.getD i 0 = 0 := getD_none (by omega)
          have : ys.getD i 0 = 0 := getD_none (by omega)
          omega) (by omega) (by
          have hl2 : (o ++ [x % 65536]).length = i + 1 := by simp [hl]
          rw [hl2, hl] at hstep
          rw [hstep, t1, t2, hxd]
          grind)
      refine ⟨r, ?_, hN⟩
      refine Ev.step (f := fun k => parquetref01_Num_Plus.j1 k o c (i : Int) true b xs b' ys) (fun k => ?_) (Ev.step (f := fun k => parquetref01_Num_Plus.l0 k (o ++ [x % 65536]) (x / 65536) ((i + 1 : Nat) : Int) b xs b' ys) (fun k => ?_) hr)
      · simp only [parquetref01_Num_Plus.l0]
        by_cases e1 : i < xs.length
        · rw [if_pos (by omega)]
        · rw [if_neg (by omega)]
          by_cases e2 : i < ys.length
          · rw [if_pos (by omega)]
          · rw [if_neg (by omega), show decide (c > 0) = true from decide_eq_true (by
              have : c ≠ 0 := fun h => hend ⟨by omega, by omega, h⟩
              omega)]
      · simp only [parquetref01_Num_Plus.j1, digit_eq, Option.bind_some, if_true]
        rw [if_pos (by omega), w64 (x := xs.getD i 0 + ys.getD i 0) (by omega) (by omega), w64 (x := xs.getD i 0 + ys.getD i 0 + c) (by omega) (by omega), ← hxd, Int.tmod_eq_emod_of_nonneg (by omega), Int.tdiv_eq_ediv_of_nonneg (by omega), w64 (x := x / 65536) (by omega) (by omega), w64 (x := (i : Int) + 1) (by omega) (by omega)]
        rfl

theorem size_loop (xs ys : List Int) (dx : Dig xs) (dy : Dig ys) (hl : xs.length = ys.length) (hx : xs.length ≤ 1000000) : ∀ n : Nat, n ≤ xs.length → (∀ j, n ≤ j → xs.getD j 0 = ys.getD j 0) →
    ∃ r : Int, Ev (fun k => parquetref01_size.l0 k xs ys ((n : Int) - 1)) r ∧ (r < 0 ↔ val xs < val ys) := by
  intro n
  induction n with
  | zero =>
    intro hn h
    refine ⟨0, Ev.step (f := fun _ => some 0) (fun k => ?_) (Ev.now _), ?_⟩
    · simp only [parquetref01_size.l0]
      rw [if_neg (by omega)]
    · rw [all_same hl (fun j => h j (by omega))]
      omega
  | succ n ih =>
    intro hn h
    have e : ((n + 1 : Nat) : Int) - 1 = (n : Int) := by omega
    rw [e]
    by_cases hd : xs.getD n 0 = ys.getD n 0
    · obtain ⟨r, hr, hN⟩ := ih (by omega) (fun j hj => by
        rcases Nat.lt_or_ge n j with h1 | h1
        · exact h j h1
        · rw [show j = n by omega]; exact hd)
      refine ⟨r, Ev.step (f := fun k => parquetref01_size.l0 k xs ys ((n : Int) - 1)) (fun k => ?_) hr, hN⟩
      simp only [parquetref01_size.l0, rd_getD]
      rw [if_pos (by omega), if_pos (by omega), if_pos (by omega), if_pos (by omega), if_pos hd, w64 (by omega) (by omega)]
    · have gx := dx.at_ n
      have gy := dy.at_ n
      refine ⟨xs.getD n 0 - ys.getD n 0, Ev.step (f := fun _ => some (xs.getD n 0 - ys.getD n 0)) (fun k => ?_) (Ev.now _), ?_⟩
      · simp only [parquetref01_size.l0, rd_getD]
        rw [if_pos (by omega), if_pos (by omega), if_pos (by omega), if_pos (by omega), if_neg hd, w64 (by omega) (by omega)]
      · rcases Int.lt_or_le (xs.getD n 0) (ys.getD n 0) with h5 | h5
        · have := cmp_at dx dy hl n (by omega) (fun j hj => h j hj) h5
          omega
        · have := cmp_at dy dx hl.symm n (by omega) (fun j hj => (h j hj).symm) (by omega)
          omega
theorem size_ev (xs ys : List Int) (dx : Dig xs) (dy : Dig ys) (zx : NoZero xs) (zy : NoZero ys) (hx : xs.length ≤ 1000000) (hy : ys.length ≤ 1000000) : ∃ r : Int, Ev (fun k => parquetref01_size.f k xs ys) r ∧ (r < 0 ↔ val xs < val ys) := by
  by_cases hl : xs.length = ys.length
  · obtain ⟨r, hr, h⟩ := size_loop xs ys dx dy hl hx xs.length (Nat.le_refl _) (fun j hj => by rw [getD_none hj, getD_none (by omega)])
    refine ⟨r, Ev.congr (fun k => ?_) hr, h⟩
    unfold parquetref01_size.f
    rw [if_pos (by omega), w64 (by omega) (by omega)]
  · refine ⟨(xs.length : Int) - ys.length, Ev.congr (fun k => ?_) (Ev.now _), ?_⟩
    · unfold parquetref01_size.f
      rw [if_neg (by omega), w64 (by omega) (by omega)]
    · rcases Nat.lt_or_ge xs.length ys.length with h | h
      · have := cmp_len dx dy zy h
        omega
      · have := cmp_len dy dx zx (by omega)
        omega

theorem minus_loop (b b' : Bool) (xs ys : List Int) (dx : Dig xs) (dy : Dig ys) (zy : NoZero ys) (zx : NoZero xs) (hx : xs.length ≤ 1000000) (hle : val ys ≤ val xs) : ∀ (m i : Nat) (o : List Int) (c : Int), o.length = i → Dig o → 0 ≤ c → c ≤ 1 → i ≤ xs.length → xs.length - i ≤ m → val o - 65536 ^ i * c = val (xs.take i) - val (ys.take i) →
    ∃ r : Bool × List Int, Ev (fun k => parquetref01_Num_Plus.l1 k o c (i : Int) b xs b' ys) r ∧ NumP xs.length r.1 r.2 (if b then -(val xs - val ys) else val xs - val ys) := by
  have hlen : ys.length ≤ xs.length := by
    rcases Nat.lt_or_ge xs.length ys.length with h | h
    · have := cmp_len dx dy zy h
      omega
    · exact h
  intro m
  induction m with
  | zero =>
    intro i o c hl hD h0 h1 hi hm hv
    obtain rfl : i = xs.length := by omega
    rw [take_all (Nat.le_refl _), take_all hlen] at hv
    have hlt := val_lt hD
    have hp := pow_pos xs.length
    rw [hl] at hlt
    have hc : c = 0 := by
      rcases (show c = 0 ∨ c = 1 by omega) with h | h
      · exact h
      · subst h
        rw [Int.mul_one] at hv
        omega
    subst hc
    rw [Int.mul_zero, Int.sub_zero] at hv
    obtain ⟨r, hr, hN⟩ := trim_ev b o hD (by omega)
    rw [hv, hl] at hN
    refine ⟨r, ?_, hN⟩
    refine Ev.step (f := fun k => (parquetref01_trim.f k b o).bind fun bt => some (bt.1, bt.2)) (fun k => ?_) (Ev.bind hr (Ev.now r))
    simp only [parquetref01_Num_Plus.l1]
    rw [if_neg (by omega)]
  | succ m ih =>
    intro i o c hl hD h0 h1 hi hm hv
    by_cases hend : i = xs.length
    · exact ih i o c hl hD h0 h1 hi (by omega) hv
    · have gx := dx.at_ i
      have gy := dy.at_ i
      have t1 := val_take_succ xs i
      have t2 := val_take_succ ys i
      obtain ⟨x, hxd⟩ : ∃ x, x = xs.getD i 0 - ys.getD i 0 - c := ⟨_, rfl⟩
      by_cases hneg : x < 0
      · obtain ⟨r, hr, hN⟩ := ih (i + 1) (o ++ [x + 65536]) 1 (by simp [hl]) (hD.snoc (by omega)) (by omega) (by omega) (by omega) (by omega) (by
          rw [val_snoc, hl, t1, t2, Int.pow_succ]
          grind)
        refine ⟨r, Ev.step (f := fun k => parquetref01_Num_Plus.l1 k (o ++ [x + 65536]) 1 ((i + 1 : Nat) : Int) b xs b' ys) (fun k => ?_) hr, hN⟩
        simp only [parquetref01_Num_Plus.l1, digit_eq, Option.bind_some, rd_getD]
        rw [if_pos (by omega), if_pos (by omega), w64 (x := xs.getD i 0 - ys.getD i 0) (by omega) (by omega), w64 (x := xs.getD i 0 - ys.getD i 0 - c) (by omega) (by omega), ← hxd, if_pos hneg, if_pos (by omega), w64 (x := x + 65536) (by omega) (by omega), w64 (x := (i : Int) + 1) (by omega) (by omega)]
        rfl
      · obtain ⟨r, hr, hN⟩ := ih (i + 1) (o ++ [x]) 0 (by simp [hl]) (hD.snoc (by omega)) (by omega) (by omega) (by omega) (by omega) (by
          rw [val_snoc, hl, t1, t2, Int.pow_succ]
          grind)
        refine ⟨r, Ev.step (f := fun k => parquetref01_Num_Plus.l1 k (o ++ [x]) 0 ((i + 1 : Nat) : Int) b xs b' ys) (fun k => ?_) hr, hN⟩
        simp only [parquetref01_Num_Plus.l1, digit_eq, Option.bind_some, rd_getD]
        rw [if_pos (by omega), if_pos (by omega), w64 (x := xs.getD i 0 - ys.getD i 0) (by omega) (by omega), w64 (x := xs.getD i 0 - ys.getD i 0 - c) (by omega) (by omega), ← hxd, if_neg hneg, if_pos (by omega), w64 (x := (i : Int) + 1) (by omega) (by omega)]
        rfl

/-- A sum. -/
theorem plus_ev {L1 L2 : Nat} {b1 b2 : Bool} {l1 l2 : List Int} {z1 z2 : Int} (h1 : NumP L1 b1 l1 z1) (h2 : NumP L2 b2 l2 z2) (hl1 : L1 ≤ 1000000) (hl2 : L2 ≤ 1000000) :
    ∃ r : Bool × List Int, Ev (fun k => parquetref01_Num_Plus.f k b1 l1 b2 l2) r ∧ NumP (max L1 L2 + 1) r.1 r.2 (z1 + z2) := by
  obtain ⟨d1, n1, m1, v1, e1⟩ := h1
  obtain ⟨d2, n2, m2, v2, e2⟩ := h2
  by_cases hs : b1 = b2
  · subst hs
    obtain ⟨r, hr, hN⟩ := plus_loop b1 b1 l1 l2 d1 d2 (by omega) (by omega) _ rfl (max l1.length l2.length + 1) 0 [] 0 rfl Dig.nil (Int.le_refl _) (by omega) (by omega) (by omega) (by omega) (by simp [val])
    refine ⟨r, Ev.congr (fun k => ?_) hr, ?_⟩
    · unfold parquetref01_Num_Plus.f
      rw [if_pos (by simp)]
      rfl
    · rw [show z1 + z2 = (if b1 then -(val l1 + val l2) else val l1 + val l2) by rw [v1, v2]; cases b1 <;> simp <;> omega]
      exact hN.mono (by omega)
  · obtain ⟨q, hq, hqs⟩ := size_ev l1 l2 d1 d2 n1 n2 (by omega) (by omega)
    by_cases hq0 : q < 0
    · obtain ⟨r, hr, hN⟩ := minus_loop b2 b1 l2 l1 d2 d1 n1 n2 (by omega) (by have := hqs.1 hq0; omega) l2.length 0 [] 0 rfl Dig.nil (Int.le_refl _) (by omega) (by omega) (by omega) (by simp [val])
      refine ⟨r, ?_, ?_⟩
      · refine Ev.congr (f := fun k => (parquetref01_size.f k l1 l2).bind fun t => (if t < 0 then (parquetref01_Num_Plus.j2 k ([] : List Int) 0 b2 l2 b1 l1) else (parquetref01_Num_Plus.j2 k ([] : List Int) 0 b1 l1 b2 l2))) (fun k => ?_) (Ev.bind hq (Ev.congr (f := fun k => parquetref01_Num_Plus.j2 k ([] : List Int) 0 b2 l2 b1 l1) (fun k => by rw [if_pos hq0]) (Ev.step (fun k => by simp only [parquetref01_Num_Plus.j2]; rfl) hr)))
        unfold parquetref01_Num_Plus.f
        rw [if_neg (by simpa using hs)]
      · rw [show z1 + z2 = (if b2 then -(val l2 - val l1) else val l2 - val l1) by rw [v1, v2]; cases b1 <;> cases b2 <;> simp at hs ⊢ <;> omega]
        exact hN.mono (by omega)
    · obtain ⟨r, hr, hN⟩ := minus_loop b1 b2 l1 l2 d1 d2 n2 n1 (by omega) (by have := mt hqs.2 hq0; omega) l1.length 0 [] 0 rfl Dig.nil (Int.le_refl _) (by omega) (by omega) (by omega) (by simp [val])
      refine ⟨r, ?_, ?_⟩
      · refine Ev.congr (f := fun k => (parquetref01_size.f k l1 l2).bind fun t => (if t < 0 then (parquetref01_Num_Plus.j2 k ([] : List Int) 0 b2 l2 b1 l1) else (parquetref01_Num_Plus.j2 k ([] : List Int) 0 b1 l1 b2 l2))) (fun k => ?_) (Ev.bind hq (Ev.congr (f := fun k => parquetref01_Num_Plus.j2 k ([] : List Int) 0 b1 l1 b2 l2) (fun k => by rw [if_neg hq0]) (Ev.step (fun k => by simp only [parquetref01_Num_Plus.j2]; rfl) hr)))
        unfold parquetref01_Num_Plus.f
        rw [if_neg (by simpa using hs)]
      · rw [show z1 + z2 = (if b1 then -(val l1 - val l2) else val l1 - val l2) by rw [v1, v2]; cases b1 <;> cases b2 <;> simp at hs ⊢ <;> omega]
        exact hN.mono (by omega)
/-- The other sign. -/
theorem neg_eq {L : Nat} {b : Bool} {l : List Int} {z : Int} (h : NumP L b l z) : ∃ r : Bool × List Int, parquetref01_Num_Neg.f b l = some r ∧ NumP L r.1 r.2 (-z) := by
  obtain ⟨d, n, m, v, e⟩ := h
  unfold parquetref01_Num_Neg.f
  cases b
  · rw [if_neg (by decide)]
    refine ⟨_, rfl, d, n, ?_, ?_, e⟩
    · intro h1 h2
      subst h2
      simp at h1
    · rw [v]
      cases l with
      | nil => simp [val]
      | cons a t => simp
  · rw [if_pos rfl]
    exact ⟨_, rfl, d, n, (fun h => by cases h), (by rw [v]; simp), e⟩
theorem sign_eq {L : Nat} {b : Bool} {l : List Int} {z : Int} (h : NumP L b l z) : parquetref01_Num_Sign.f b l = some (sgn z) := by
  obtain ⟨d, n, m, v, e⟩ := h
  unfold parquetref01_Num_Sign.f sgn
  cases l with
  | nil =>
    rw [if_pos (by simp), v]
    cases b <;> simp [val]
  | cons a t =>
    have hp := val_pos d n (by simp)
    rw [if_neg (by simp; omega), v]
    cases b
    · simp only [Bool.false_eq_true, if_false]
      rw [if_neg (by omega), if_neg (by omega)]
    · simp only [if_true]
      rw [if_pos (by omega)]
theorem cmp_ev {L1 L2 : Nat} {b1 b2 : Bool} {l1 l2 : List Int} {z1 z2 : Int} (h1 : NumP L1 b1 l1 z1) (h2 : NumP L2 b2 l2 z2) (hl1 : L1 ≤ 1000000) (hl2 : L2 ≤ 1000000) :
    Ev (fun k => parquetref01_Num_Cmp.f k b1 l1 b2 l2) (sgn (z1 - z2)) := by
  obtain ⟨n, hn, hN⟩ := neg_eq h2
  obtain ⟨p, hp, hP⟩ := plus_ev h1 hN hl1 hl2
  have hs := sign_eq hP
  refine Ev.congr (f := fun k => (parquetref01_Num_Plus.f k b1 l1 n.1 n.2).bind fun bt => ((parquetref01_Num_Sign.f bt.1 bt.2).bind fun t => some t)) (fun k => ?_) (Ev.bind hp (Ev.congr (f := fun _ => some (sgn (z1 - z2))) (fun k => ?_) (Ev.now _)))
  · unfold parquetref01_Num_Cmp.f
    rw [hn]
    rfl
  · rw [hs, Int.sub_eq_add_neg]
    rfl
end Go.Proofs.Ytbiafpklgkkoaaa

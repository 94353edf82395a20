/- Plain words on the numbers of any greatness, as the given program's Lean functions tell them: trim, Small. -/
import Derived.Test.YtbiafpklgkkoaaaBigMath
import Derived.Test.YtbiafpklgkkoaaaMT3
set_option linter.unusedVariables false
set_option linter.unusedSimpArgs false
namespace Go.Proofs.Ytbiafpklgkkoaaa
open Go Go.RowKit Go.Proofs.Ytbiafpklgkkoaaa.MT Go.Proofs.YtbiafpklgkkoaaaW.PrintWords Go.Proofs.YtbiafpklgkkoaaaW.PrintLast

/-- A sign and digits that read as the number z, by at most L digits. -/
def NumP (L : Nat) (b : Bool) (l : List Int) (z : Int) : Prop := Dig l ∧ NoZero l ∧ (b = true → l ≠ []) ∧ z = (if b then -val l else val l) ∧ l.length ≤ L
theorem NumP.mono {L L' : Nat} {b : Bool} {l : List Int} {z : Int} (h : NumP L b l z) (hl : L ≤ L') : NumP L' b l z := ⟨h.1, h.2.1, h.2.2.1, h.2.2.2.1, by have := h.2.2.2.2; omega⟩
theorem NumP.short {L k : Nat} {b : Bool} {l : List Int} {z : Int} (h : NumP L b l z) (h1 : -(65536 : Int) ^ k < z) (h2 : z < 65536 ^ k) : NumP k b l z := by
  obtain ⟨hd, hz, hm, hv, hl0⟩ := h
  refine ⟨hd, hz, hm, hv, len_le hd hz ?_⟩
  cases b
  · simp at hv; omega
  · simp at hv; omega
theorem w64 {x : Int} (h1 : -9223372036854775808 ≤ x) (h2 : x ≤ 9223372036854775807) : wrap64 x = x := by unfold wrap64; omega
theorem take_fact {ds : List Int} {n : Nat} (hn : n ≤ ds.length) (hD : Dig ds) (hz : ∀ i, n ≤ i → ds.getD i 0 = 0) (h0 : n = 0 ∨ ds.getD (n - 1) 0 ≠ 0) :
    (ds.take n).length = n ∧ Dig (ds.take n) ∧ NoZero (ds.take n) ∧ val (ds.take n) = val ds := by
  have hl : (ds.take n).length = n := by rw [List.length_take]; omega
  refine ⟨hl, hD.take n, ?_, val_take_zero ds n hz⟩
  intro i hi
  rw [hl] at hi
  rcases h0 with h0 | h0
  · omega
  · rw [show n - 1 = i by omega] at h0
    intro h1
    apply h0
    rw [List.getD_eq_getElem?_getD, List.getElem?_take_of_lt (by omega)] at h1
    rw [List.getD_eq_getElem?_getD, h1]
theorem numP_of {b : Bool} {ds : List Int} {n : Nat} (hn : n ≤ ds.length) (hD : Dig ds) (hz : ∀ i, n ≤ i → ds.getD i 0 = 0) (h0 : n = 0 ∨ ds.getD (n - 1) 0 ≠ 0) :
    NumP ds.length (b && decide (0 < n)) (ds.take n) (if b then -val ds else val ds) := by
  obtain ⟨h1, h2, h3, h4⟩ := take_fact hn hD hz h0
  refine ⟨h2, h3, ?_, ?_, by omega⟩
  · intro h
    simp at h
    intro h5
    rw [h5] at h1
    simp at h1
    omega
  · rw [h4]
    cases b
    · rfl
    · by_cases hp : 0 < n
      · simp [hp]
      · have hn0 : n = 0 := by omega
        subst hn0
        simp [val] at h4 ⊢
        omega
theorem rd_getD (l : List Int) (n : Nat) : rd l (n : Int) = l.getD n 0 := by simp [rd]

theorem trim_loop (b : Bool) (l : List Int) (hD : Dig l) (hl : l.length ≤ 1000000000) : ∀ n : Nat, n ≤ l.length → (∀ i, n ≤ i → l.getD i 0 = 0) →
    ∃ r : Bool × List Int, Ev (fun k => parquetref01_trim.l0 k b l (n : Int)) r ∧ NumP l.length r.1 r.2 (if b then -val l else val l) := by
  intro n
  induction n with
  | zero =>
    intro hn hz
    have h := numP_of (b := b) hn hD hz (Or.inl rfl)
    refine ⟨(false, []), ?_, by simpa using h⟩
    refine Ev.step (f := fun _ => some (false, [])) (fun k => ?_) (Ev.now _)
    simp only [parquetref01_trim.l0]
    cases b <;> simp
  | succ n ih =>
    intro hn hz
    have hw : wrap64 (((n + 1 : Nat) : Int) - 1) = (n : Int) := by rw [w64 (by omega) (by omega)]; omega
    by_cases h0 : l.getD n 0 = 0
    · obtain ⟨r, hr, hN⟩ := ih (by omega) (fun i hi => by
        rcases Nat.lt_or_ge n i with h | h
        · exact hz i h
        · rw [show i = n by omega]; exact h0)
      refine ⟨r, Ev.step (f := fun k => parquetref01_trim.l0 k b l (n : Int)) (fun k => ?_) hr, hN⟩
      simp only [parquetref01_trim.l0, hw, rd_getD, h0]
      rw [if_pos (by omega), if_pos (by omega), if_pos (by omega), if_pos trivial]
    · have h := numP_of (b := b) hn hD hz (Or.inr (by simpa using h0))
      refine ⟨(b, l.take (n + 1)), ?_, by simpa using h⟩
      refine Ev.step (f := fun _ => some (b, l.take (n + 1))) (fun k => ?_) (Ev.now _)
      simp only [parquetref01_trim.l0, hw, rd_getD]
      rw [if_pos (by omega), if_pos (by omega), if_pos (by omega), if_neg h0]
      cases b
      · rw [if_neg (by simp), if_pos (by omega), if_pos (by omega)]
        simp
      · rw [if_pos rfl, if_pos (by omega), if_pos (by omega)]
        simp
theorem trim_ev (b : Bool) (l : List Int) (hD : Dig l) (hl : l.length ≤ 1000000000) : ∃ r : Bool × List Int, Ev (fun k => parquetref01_trim.f k b l) r ∧ NumP l.length r.1 r.2 (if b then -val l else val l) :=
  trim_loop b l hD hl l.length (Nat.le_refl _) (fun i hi => by rw [List.getD_eq_getElem?_getD, List.getElem?_eq_none hi]; rfl)

/-- One digit more: the rest is what it was. -/
theorem digit_step (o : List Int) (x : Int) : val (o ++ [x % 65536]) + 65536 ^ (o ++ [x % 65536]).length * (x / 65536) = val o + 65536 ^ o.length * x := by
  rw [val_snoc, List.length_append, List.length_singleton, Int.pow_succ, Int.mul_assoc, Int.add_assoc, ← Int.mul_add]
  congr 2
  exact Int.emod_add_mul_ediv x 65536
theorem small_loop (z : Int) (b : Bool) (hb : decide (z < 0) = b) : ∀ (m x : Nat), x ≤ m → ∀ o : List Int, Dig o → o.length ≤ 4 → x ≤ 9223372036854775808 → (b = false → x ≤ 9223372036854775807) → (0 < x → o.length < 4) → val o + 65536 ^ o.length * (x : Int) < 65536 ^ 4 →
    ∃ r : Bool × List Int, Ev (fun k => parquetref01_Small.l0 k z o (if b then -(x : Int) else x)) r ∧ NumP 4 r.1 r.2 (if b then -(val o + 65536 ^ o.length * (x : Int)) else val o + 65536 ^ o.length * (x : Int)) := by
  intro m
  induction m with
  | zero =>
    intro x hx o hD hl hx1 hx2 hx3 hlt
    obtain rfl : x = 0 := by omega
    obtain ⟨r, hr, hN⟩ := trim_ev b o hD (by omega)
    refine ⟨r, ?_, ?_⟩
    · refine Ev.step (f := fun k => (parquetref01_trim.f k b o).bind fun bt => some (bt.1, bt.2)) (fun k => ?_) (Ev.bind hr (Ev.now r))
      simp only [parquetref01_Small.l0, hb]
      cases b <;> simp
    · have h4 := hN.mono hl
      cases b <;> simpa using h4
  | succ m ih =>
    intro x hx o hD hl hx1 hx2 hx3 hlt
    by_cases h0 : x = 0
    · exact ih x (by omega) o hD hl hx1 hx2 hx3 hlt
    · have hr0 : (0 : Int) ≤ (x : Int) % 65536 ∧ (x : Int) % 65536 ≤ 65535 := by omega
      have hds := digit_step o (x : Int)
      have hol := hx3 (by omega)
      have hx' : ((x / 65536 : Nat) : Int) = (x : Int) / 65536 := by omega
      obtain ⟨r, hr, hN⟩ := ih (x / 65536) (by omega) (o ++ [(x : Int) % 65536]) (hD.snoc hr0) (by simp; omega) (by omega) (by intro; omega) (by
          intro hp
          apply pow_lt_of
          rw [← hds] at hlt
          have h1 := val_nonneg (hD.snoc hr0)
          have h2 := Int.mul_le_mul_of_nonneg_left (show (1 : Int) ≤ (x : Int) / 65536 by omega) (Int.le_of_lt (pow_pos (o ++ [(x : Int) % 65536]).length))
          rw [Int.mul_one] at h2
          omega) (by rw [hx', hds]; exact hlt)
      rw [hx', hds] at hN
      refine ⟨r, Ev.step (f := fun k => parquetref01_Small.l0 k z (o ++ [(x : Int) % 65536]) (if b then -((x / 65536 : Nat) : Int) else ((x / 65536 : Nat) : Int))) (fun k => ?_) hr, hN⟩
      simp only [parquetref01_Small.l0]
      cases b
      · have e1 : Int.tmod (x : Int) 65536 = (x : Int) % 65536 := Int.tmod_eq_emod_of_nonneg (by omega)
        have e2 : Int.tdiv (x : Int) 65536 = (x : Int) / 65536 := Int.tdiv_eq_ediv_of_nonneg (by omega)
        simp only [Bool.false_eq_true, if_false, e1, e2]
        rw [if_neg (by omega), if_neg (by omega), if_pos (by omega), w64 (by omega) (by omega), hx']
      · have e1 : Int.tmod (-(x : Int)) 65536 = -((x : Int) % 65536) := by rw [Int.neg_tmod, Int.tmod_eq_emod_of_nonneg (by omega)]
        have e2 : Int.tdiv (-(x : Int)) 65536 = -((x : Int) / 65536) := by rw [Int.neg_tdiv, Int.tdiv_eq_ediv_of_nonneg (by omega)]
        simp only [if_true, e1, e2]
        rw [if_neg (by omega)]
        by_cases hz : (x : Int) % 65536 = 0
        · rw [hz, if_neg (by decide), if_pos (by omega), w64 (by omega) (by omega), hx']
          simp
        · rw [if_pos (by omega), if_pos (by omega), w64 (x := - -((x : Int) % 65536)) (by omega) (by omega), w64 (by omega) (by omega), hx', Int.neg_neg]
theorem small_ev (z : Int) (h0 : -9223372036854775808 ≤ z) (h1 : z ≤ 9223372036854775807) : ∃ r : Bool × List Int, Ev (fun k => parquetref01_Small.f k z) r ∧ NumP 4 r.1 r.2 z := by
  have h4 : (65536 : Int) ^ 4 = 18446744073709551616 := by decide
  by_cases hz : z < 0
  · obtain ⟨r, hr, hN⟩ := small_loop z true (decide_eq_true hz) z.natAbs z.natAbs (Nat.le_refl _) [] Dig.nil (by simp) (by omega) (by intro h; cases h) (by intro; simp) (by simp [val]; omega)
    refine ⟨r, ?_, ?_⟩
    · rw [show (if true = true then -(z.natAbs : Int) else (z.natAbs : Int)) = z by rw [if_pos rfl]; omega] at hr
      exact hr
    · rw [show (if true = true then -(val [] + 65536 ^ ([] : List Int).length * (z.natAbs : Int)) else val [] + 65536 ^ ([] : List Int).length * (z.natAbs : Int)) = z by rw [if_pos rfl]; simp [val]; omega] at hN
      exact hN
  · obtain ⟨r, hr, hN⟩ := small_loop z false (decide_eq_false hz) z.natAbs z.natAbs (Nat.le_refl _) [] Dig.nil (by simp) (by omega) (by intro; omega) (by intro; simp) (by simp [val]; omega)
    refine ⟨r, ?_, ?_⟩
    · rw [show (if false = true then -(z.natAbs : Int) else (z.natAbs : Int)) = z by rw [if_neg (by decide)]; omega] at hr
      exact hr
    · rw [show (if false = true then -(val [] + 65536 ^ ([] : List Int).length * (z.natAbs : Int)) else val [] + 65536 ^ ([] : List Int).length * (z.natAbs : Int)) = z by rw [if_neg (by decide)]; simp [val]; omega] at hN
      exact hN
/-- A digit of a row; 0 beyond. -/
theorem digit_eq (l : List Int) (i : Nat) : parquetref01_digit.f l (i : Int) = some (l.getD i 0) := by
  unfold parquetref01_digit.f
  by_cases h : i < l.length
  · rw [if_pos (by omega), if_pos (by omega), rd_getD]
  · rw [if_neg (by omega), List.getD_eq_getElem?_getD, List.getElem?_eq_none (by omega)]; rfl
end Go.Proofs.Ytbiafpklgkkoaaa

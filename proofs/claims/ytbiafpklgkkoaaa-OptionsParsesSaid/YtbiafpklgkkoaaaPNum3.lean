/- Plain words on the numbers of any greatness, as the given program's Lean functions tell them: products. -/
import Derived.Test.YtbiafpklgkkoaaaPNum2
import Derived.Test.YtbiafpklgkkoaaaMT3
set_option linter.unusedVariables false
set_option linter.unusedSimpArgs false
namespace Go.Proofs.Ytbiafpklgkkoaaa
open Go Go.RowKit Go.Proofs.Ytbiafpklgkkoaaa.MT Go.Proofs.YtbiafpklgkkoaaaW.PrintWords Go.Proofs.YtbiafpklgkkoaaaW.PrintLast

theorem val_set (l : List Int) : ∀ (j : Nat) (v : Int), j < l.length → val (l.set j v) = val l + 65536 ^ j * (v - l.getD j 0) := by
  induction l with
  | nil => intro j v h; simp at h
  | cons d t ih =>
    intro j v h
    cases j with
    | zero => simp [val]; omega
    | succ j =>
      have := ih j v (by simpa using h)
      simp only [List.set_cons_succ, val, List.getD_cons_succ, Int.pow_succ]
      rw [this]
      grind
theorem getD_set (l : List Int) (j k : Nat) (v : Int) (h : k ≠ j) : (l.set j v).getD k 0 = l.getD k 0 := by
  rw [List.getD_eq_getElem?_getD, List.getElem?_set_ne (fun e => h e.symm), ← List.getD_eq_getElem?_getD]
theorem val_zeros (n : Nat) : val (List.replicate n 0) = 0 := by
  induction n with
  | zero => rfl
  | succ n ih => rw [List.replicate_succ, val, ih]; rfl
theorem dig_zeros (n : Nat) : Dig (List.replicate n 0) := fun d h => by
  rw [List.mem_replicate] at h
  omega
theorem times_row (b b' : Bool) (xs ys : List Int) (dx : Dig xs) (dy : Dig ys) (hx : xs.length ≤ 1000000) (hy : ys.length ≤ 1000000) (i : Nat) (hi : i < xs.length) (V0 : Int) : ∀ (m k : Nat) (d : List Int) (c : Int), d.length = xs.length + ys.length + 1 → Dig d → 0 ≤ c → c ≤ 65535 → k ≤ ys.length + 1 → (k = ys.length + 1 → c = 0) → ys.length + 1 - k ≤ m → (∀ j, i + ys.length ≤ j → i + k ≤ j → d.getD j 0 = 0) →
    val d + 65536 ^ i * (65536 ^ k * c) = V0 + 65536 ^ i * (xs.getD i 0 * val (ys.take k)) →
    ∃ d', d'.length = xs.length + ys.length + 1 ∧ Dig d' ∧ (∀ j, i + 1 + ys.length ≤ j → d'.getD j 0 = 0) ∧ val d' = V0 + 65536 ^ i * (xs.getD i 0 * val ys) ∧ ∀ Q : Bool × List Int, Ev (fun k => parquetref01_Num_Times.l0 k d' ((i + 1 : Nat) : Int) b xs b' ys) Q →
    Ev (fun n => parquetref01_Num_Times.l1 n d (i : Int) c (k : Int) b xs b' ys) Q := by
  intro m
  induction m with
  | zero =>
    intro k d c hl hD h0 h1 hk hc hm hz hv
    obtain rfl : k = ys.length + 1 := by omega
    have hc0 := hc rfl
    subst hc0
    rw [take_all (by omega), Int.mul_zero, Int.mul_zero, Int.add_zero] at hv
    refine ⟨d, hl, hD, fun j hj => hz j (by omega) (by omega), hv, fun Q hQ => Ev.step (f := fun n => parquetref01_Num_Times.l0 n d ((i + 1 : Nat) : Int) b xs b' ys) (fun n => ?_) hQ⟩
    clear hv hz
    simp only [parquetref01_Num_Times.l1]
    rw [if_neg (by omega), if_neg (by omega), w64 (by omega) (by omega)]
    rfl
  | succ m ih =>
    intro k d c hl hD h0 h1 hk hc hm hz hv
    by_cases hend : ys.length ≤ k ∧ c = 0
    · obtain ⟨e1, rfl⟩ := hend
      rw [take_all e1, Int.mul_zero, Int.mul_zero, Int.add_zero] at hv
      refine ⟨d, hl, hD, fun j hj => ?_, hv, fun Q hQ => Ev.step (f := fun n => parquetref01_Num_Times.l0 n d ((i + 1 : Nat) : Int) b xs b' ys) (fun n => ?_) hQ⟩
      · rcases Nat.lt_or_ge j (i + k) with h | h
        · exact hz j (by omega) (by omega)
        · exact hz j (by omega) h
      clear hv hz
      simp only [parquetref01_Num_Times.l1]
      rw [if_neg (by omega), if_neg (by omega), w64 (by omega) (by omega)]
      rfl
    · have hkm : k ≤ ys.length := by
        rcases Nat.lt_or_ge ys.length k with h | h
        · exact absurd ⟨by omega, hc (by omega)⟩ hend
        · exact h
      have gd := hD.at_ (i + k)
      have gx := dx.at_ i
      have gy := dy.at_ k
      have hp0 : 0 ≤ xs.getD i 0 * ys.getD k 0 := Int.mul_nonneg gx.1 gy.1
      have hp1 : xs.getD i 0 * ys.getD k 0 ≤ 65535 * 65535 := Int.mul_le_mul gx.2 gy.2 gy.1 (by decide)
      obtain ⟨p, hp⟩ : ∃ p, p = xs.getD i 0 * ys.getD k 0 := ⟨_, rfl⟩
      obtain ⟨x, hxd⟩ : ∃ x, x = d.getD (i + k) 0 + p + c := ⟨_, rfl⟩
      rw [← hp] at hp0 hp1
      have t1 := val_take_succ ys k
      have s1 := val_set d (i + k) (x % 65536) (by omega)
      have hnext := ih (k + 1) (d.set (i + k) (x % 65536)) (x / 65536) (by simpa using hl) (hD.set _ (by omega)) (by omega) (by omega) (by omega) (by
          intro hk2
          have hk3 : k = ys.length := by omega
          have e1 : ys.getD k 0 = 0 := getD_none (by omega)
          have e2 : d.getD (i + k) 0 = 0 := hz (i + k) (by omega) (by omega)
          rw [e1, Int.mul_zero] at hp
          omega) (by omega) (fun j hj1 hj2 => by rw [getD_set _ _ _ _ (by omega)]; exact hz j hj1 (by omega)) (by
          rw [s1, t1, Int.pow_succ, Int.pow_add]
          have hdm := Int.emod_add_mul_ediv x 65536
          generalize x % 65536 = r at hdm ⊢
          generalize x / 65536 = q at hdm ⊢
          rw [hxd] at hdm
          rw [hp] at hdm
          grind)
      obtain ⟨d', w1, w2, w3, w4, w5⟩ := hnext
      refine ⟨d', w1, w2, w3, w4, fun Q hQ => ?_⟩
      have hnext := w5 Q hQ
      clear hv hz s1 t1 w1 w2 w3 w4 w5 hQ ih
      refine Ev.step (f := fun n => parquetref01_Num_Times.l1 n (d.set (i + k) (x % 65536)) (i : Int) (x / 65536) ((k + 1 : Nat) : Int) b xs b' ys) (fun n => ?_) hnext
      have e1 : wrap64 ((i : Int) + k) = ((i + k : Nat) : Int) := by rw [w64 (by omega) (by omega)]; rfl
      have e2 : wrap64 ((k : Int) + 1) = ((k + 1 : Nat) : Int) := by rw [w64 (by omega) (by omega)]; rfl
      simp only [parquetref01_Num_Times.l1, digit_eq, Option.bind_some, e1, e2, rd_getD, ← hp, Int.toNat_natCast]
      clear e1 e2
      rw [w64 (x := p) (by omega) (by omega), w64 (x := d.getD (i + k) 0 + p) (by omega) (by omega), w64 (x := d.getD (i + k) 0 + p + c) (by omega) (by omega), ← hxd, Int.tmod_eq_emod_of_nonneg (by omega), Int.tdiv_eq_ediv_of_nonneg (by omega), w64 (x := x / 65536) (by omega) (by omega)]
      have h2 : (0 : Int) ≤ ((i + k : Nat) : Int) := by omega
      have h3 : ((i + k : Nat) : Int) < (d.length : Int) := by omega
      have h4 : (0 : Int) ≤ (i : Int) := by omega
      have h5 : (i : Int) < (xs.length : Int) := by omega
      by_cases e3 : k < ys.length
      · have h1' : (k : Int) < (ys.length : Int) := by omega
        rw [if_pos h1', if_pos h2, if_pos h3, if_pos h4, if_pos h5]
      · have h1' : ¬ (k : Int) < (ys.length : Int) := by omega
        have hc1 : c > 0 := by
          have : c ≠ 0 := fun h => hend ⟨by omega, h⟩
          omega
        rw [if_neg h1', if_pos hc1, if_pos h2, if_pos h3, if_pos h4, if_pos h5]
theorem times_loop (b b' : Bool) (xs ys : List Int) (dx : Dig xs) (dy : Dig ys) (hx : xs.length ≤ 1000000) (hy : ys.length ≤ 1000000) : ∀ (m i : Nat) (d : List Int), d.length = xs.length + ys.length + 1 → Dig d → i ≤ xs.length → xs.length - i ≤ m → (∀ j, i + ys.length ≤ j → d.getD j 0 = 0) → val d = val (xs.take i) * val ys →
    ∃ r : Bool × List Int, Ev (fun k => parquetref01_Num_Times.l0 k d (i : Int) b xs b' ys) r ∧ NumP (xs.length + ys.length + 1) r.1 r.2 (if (!(b == b')) = true then -(val xs * val ys) else val xs * val ys) := by
  intro m
  induction m with
  | zero =>
    intro i d hl hD hi hm hz hv
    obtain rfl : i = xs.length := by omega
    rw [take_all (Nat.le_refl _)] at hv
    obtain ⟨r, hr, hN⟩ := trim_ev (!(b == b')) d hD (by omega)
    rw [hv, hl] at hN
    refine ⟨r, Ev.step (f := fun k => (parquetref01_trim.f k (!(b == b')) d).bind fun bt => some (bt.1, bt.2)) (fun k => ?_) (Ev.bind hr (Ev.now r)), hN⟩
    simp only [parquetref01_Num_Times.l0]
    rw [if_neg (by omega)]
  | succ m ih =>
    intro i d hl hD hi hm hz hv
    by_cases hend : i = xs.length
    · exact ih i d hl hD hi (by omega) hz hv
    · have t1 := val_take_succ xs i
      obtain ⟨d', w1, w2, w3, w4, w5⟩ := times_row b b' xs ys dx dy hx hy i (by omega) (val d) (ys.length + 1) 0 d 0 hl hD (Int.le_refl _) (by omega) (by omega) (by omega) (by omega) (fun j hj _ => hz j hj) (by simp [val])
      obtain ⟨r, hr, hN⟩ := ih (i + 1) d' w1 w2 (by omega) (by omega) w3 (by rw [w4, hv, t1]; grind)
      refine ⟨r, Ev.step (f := fun k => parquetref01_Num_Times.l1 k d (i : Int) 0 0 b xs b' ys) (fun k => ?_) (w5 r hr), hN⟩
      simp only [parquetref01_Num_Times.l0]
      rw [if_pos (by omega)]
/-- A product. -/
theorem times_ev {L1 L2 : Nat} {b1 b2 : Bool} {l1 l2 : List Int} {z1 z2 : Int} (h1 : NumP L1 b1 l1 z1) (h2 : NumP L2 b2 l2 z2) (hl1 : L1 ≤ 1000000) (hl2 : L2 ≤ 1000000) :
    ∃ r : Bool × List Int, Ev (fun k => parquetref01_Num_Times.f k b1 l1 b2 l2) r ∧ NumP (L1 + L2) r.1 r.2 (z1 * z2) := by
  obtain ⟨d1, n1, m1, v1, e1⟩ := h1
  obtain ⟨d2, n2, m2, v2, e2⟩ := h2
  have hlen : (wrap64 ((wrap64 ((l1.length : Int) + (l2.length : Int))) + 1) : Int) = ((l1.length + l2.length + 1 : Nat) : Int) := by
    rw [w64 (x := (l1.length : Int) + (l2.length : Int)) (by omega) (by omega), w64 (by omega) (by omega)]
    rfl
  obtain ⟨r, hr, hN⟩ := times_loop b1 b2 l1 l2 d1 d2 (by omega) (by omega) l1.length 0 (List.replicate (l1.length + l2.length + 1) 0) (by simp) (dig_zeros _) (by omega) (by omega) (fun j hj => by
    rw [List.getD_eq_getElem?_getD]
    rcases Nat.lt_or_ge j (l1.length + l2.length + 1) with h | h
    · rw [List.getElem?_eq_getElem (by simpa using h)]; simp
    · rw [List.getElem?_eq_none (by simpa using h)]; rfl) (by simp [val_zeros, val])
  refine ⟨r, Ev.congr (fun k => ?_) hr, ?_⟩
  · unfold parquetref01_Num_Times.f
    rw [hlen, if_pos (by omega), if_pos (by rw [Int.toNat_natCast]; omega), Int.toNat_natCast]
    rfl
  · have p1 := Int.lt_of_lt_of_le (val_lt d1) (pow_le e1)
    have p2 := Int.lt_of_lt_of_le (val_lt d2) (pow_le e2)
    have n1 := val_nonneg d1
    have n2 := val_nonneg d2
    have p3 : val l1 * val l2 < 65536 ^ (L1 + L2) := by
      rw [Int.pow_add]
      exact Int.lt_of_le_of_lt (Int.mul_le_mul_of_nonneg_left (Int.le_of_lt p2) n1) (Int.mul_lt_mul_of_pos_right p1 (pow_pos _))
    have p4 := Int.mul_nonneg n1 n2
    have e : (if (!(b1 == b2)) = true then -(val l1 * val l2) else val l1 * val l2) = z1 * z2 := by
      rw [v1, v2]; cases b1 <;> cases b2 <;> simp [Int.neg_mul, Int.mul_neg]
    rw [e] at hN
    have p5 : z1 * z2 = val l1 * val l2 ∨ z1 * z2 = -(val l1 * val l2) := by
      rw [v1, v2]; cases b1 <;> cases b2 <;> simp [Int.neg_mul, Int.mul_neg]
    exact hN.short (by omega) (by omega)
end Go.Proofs.Ytbiafpklgkkoaaa

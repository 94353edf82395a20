/- Plain words on four limbs of 64 bits: what they are worth, and the division bit by bit. -/
import Derived.Laws.BitsAllLaws
import Derived.Laws.BitsLemmas
import Derived.RowKit
set_option linter.unusedVariables false
set_option linter.unusedSimpArgs false
namespace Go.Proofs.Ytmpbbodafenonaa
open Go

/-- A limb. -/
def U (x : Int) : Prop := 0 ≤ x ∧ x < 18446744073709551616
/-- What four limbs are worth. -/
def val4 (a b c d : Int) : Int := a + 18446744073709551616 * (b + 18446744073709551616 * (c + 18446744073709551616 * d))
/-- What does not fit into four limbs. -/
def top4 : Int := 115792089237316195423570985008687907853269984665640564039457584007913129639936
theorem top4_eq : top4 = 2 ^ 256 := by decide
theorem val4_bound {a b c d : Int} (ha : U a) (hb : U b) (hc : U c) (hd : U d) : 0 ≤ val4 a b c d ∧ val4 a b c d < top4 := by
  unfold U at *
  unfold val4 top4
  omega
theorem val4_inj {a b c d a' b' c' d' : Int} (ha : U a) (hb : U b) (hc : U c) (hd : U d) (ha' : U a') (hb' : U b') (hc' : U c') (hd' : U d') (h : val4 a b c d = val4 a' b' c' d') : a = a' ∧ b = b' ∧ c = c' ∧ d = d' := by
  unfold U at *
  unfold val4 at h
  omega
theorem val4_zero : val4 0 0 0 0 = 0 := rfl
theorem val4_eq_zero {a b c d : Int} (ha : U a) (hb : U b) (hc : U c) (hd : U d) : val4 a b c d = 0 ↔ a = 0 ∧ b = 0 ∧ c = 0 ∧ d = 0 := by
  unfold U at *
  unfold val4
  omega
theorem U0 : U 0 := ⟨by decide, by decide⟩
theorem U1 : U 1 := ⟨by decide, by decide⟩

theorem u64_wrap (n : Int) : IntKind.u64.wrap n = n % 18446744073709551616 := by simp [IntKind.wrap, IntKind.bits, IntKind.signed]
theorem u64_small (n : Int) (h0 : 0 ≤ n) (h : n < 2 ^ 64) : IntKind.u64.wrap n = n := by rw [u64_wrap]; omega
theorem bits_U (o : BinOp) (x y : Int) : U (Go.bits o .u64 x y) := by
  unfold Go.bits
  split <;> rw [u64_wrap] <;> exact ⟨Int.emod_nonneg _ (by decide), Int.emod_lt_of_pos _ (by decide)⟩
theorem join1 {r p : Int} (hr : U r) (hp : U p) : Go.bits .or .u64 (IntKind.u64.wrap (r * 2)) (p / 9223372036854775808) = r * 2 % 18446744073709551616 + p / 9223372036854775808 := by
  unfold U at *
  rw [u64_wrap]
  exact bits_join .u64 64 (by decide) u64_small 1 _ _ (by omega) (by omega) (by omega) (by omega) (by omega) (by omega)
theorem and1 {x : Int} (h : U x) : Go.bits .and .u64 x 1 = x % 2 := by
  unfold U at h
  have := bits_mask .u64 64 (by decide) u64_small 1 (by decide) x h.1 (by omega)
  simpa using this
theorem join0 {r x : Int} (hr : U r) (hx : 0 ≤ x ∧ x ≤ 1) : Go.bits .or .u64 (IntKind.u64.wrap (r * 2)) x = r * 2 % 18446744073709551616 + x := by
  unfold U at *
  rw [u64_wrap]
  exact bits_join .u64 64 (by decide) u64_small 1 _ _ (by omega) (by omega) (by omega) (by omega) (by omega) (by omega)
theorem two_pow_pos (t : Nat) : (0 : Int) < 2 ^ t := Int.pow_pos (by decide)
theorem two_pow_lt {t : Nat} (h : t < 64) : (2 : Int) ^ t < 2 ^ 64 := by
  have h1 : (2 : Nat) ^ t < 2 ^ 64 := Nat.pow_lt_pow_right (by decide) h
  exact_mod_cast h1
theorem or_bit {q : Int} {t : Nat} (hq : U q) (ht : t < 64) (h : q % 2 ^ (t + 1) = 0) : Go.bits .or .u64 q (2 ^ t) = q + 2 ^ t := by
  unfold U at *
  have h1 := two_pow_pos t
  have h2 := two_pow_lt ht
  have h3 : (2 : Int) ^ (t + 1) = 2 ^ t * 2 := Int.pow_succ 2 t
  exact bits_join .u64 64 (by decide) u64_small (t + 1) _ _ (by omega) h (by omega) (by omega) (by omega) h2

/-- What holds when m bits are left: the quotient so far, and what is left. -/
def DivInv (A B : Int) (m : Nat) (Q R : Int) : Prop := 0 ≤ R ∧ R < B ∧ ∃ P : Int, Q = 2 ^ m * P ∧ A / 2 ^ m = P * B + R
theorem DivInv.start {A B : Int} (h0 : 0 ≤ A) (h1 : A < top4) (hB : 0 < B) : DivInv A B 256 0 0 :=
  ⟨Int.le_refl _, hB, 0, by simp, by rw [Int.zero_mul, Int.zero_add, ← top4_eq]; exact Int.ediv_eq_zero_of_lt h0 h1⟩
theorem half_step (A : Int) (n : Nat) : A / 2 ^ n = 2 * (A / 2 ^ (n + 1)) + A / 2 ^ n % 2 := by
  rw [Int.pow_succ, ← Int.ediv_ediv_of_nonneg (Int.le_of_lt (two_pow_pos n))]
  omega
theorem DivInv.yes {A B Q R : Int} {n : Nat} (h : DivInv A B (n + 1) Q R) (hc : B ≤ 2 * R + A / 2 ^ n % 2) : DivInv A B n (Q + 2 ^ n) (2 * R + A / 2 ^ n % 2 - B) := by
  obtain ⟨h0, h1, P, hQ, hA⟩ := h
  have h2 := half_step A n
  refine ⟨by omega, by omega, 2 * P + 1, ?_, ?_⟩
  · rw [hQ, Int.pow_succ, Int.mul_add, Int.mul_one, Int.mul_assoc]
  · rw [h2, hA, Int.add_mul, Int.mul_assoc]
    omega
theorem DivInv.no {A B Q R : Int} {n : Nat} (h : DivInv A B (n + 1) Q R) (hc : 2 * R + A / 2 ^ n % 2 < B) : DivInv A B n Q (2 * R + A / 2 ^ n % 2) := by
  obtain ⟨h0, h1, P, hQ, hA⟩ := h
  have h2 := half_step A n
  refine ⟨by omega, by omega, 2 * P, ?_, ?_⟩
  · rw [hQ, Int.pow_succ, Int.mul_assoc]
  · rw [h2, hA, Int.mul_assoc]
    omega
theorem DivInv.done {A B Q R : Int} (h : DivInv A B 0 Q R) : A = Q * B + R ∧ 0 ≤ R ∧ R < B := by
  obtain ⟨h0, h1, P, hQ, hA⟩ := h
  simp at hQ hA
  subst hQ
  exact ⟨hA, h0, h1⟩

theorem limb_div {a b c d : Int} (ha : U a) (hb : U b) (hc : U c) (hd : U d) (j : Nat) (hj : j < 4) : val4 a b c d / 2 ^ (64 * j) % 18446744073709551616 = [a, b, c, d].getD j 0 := by
  unfold U at *
  unfold val4
  match j, hj with
  | 0, _ => simp; omega
  | 1, _ => simp; omega
  | 2, _ => simp; omega
  | 3, _ => simp; omega
theorem getD_U {a b c d : Int} (ha : U a) (hb : U b) (hc : U c) (hd : U d) (j : Nat) (hj : j < 4) : U ([a, b, c, d].getD j 0) := by
  match j, hj with
  | 0, _ => exact ha
  | 1, _ => exact hb
  | 2, _ => exact hc
  | 3, _ => exact hd
theorem pow_split {n : Nat} : (2 : Int) ^ n = 2 ^ (64 * (n / 64)) * 2 ^ (n % 64) := by
  rw [← Int.pow_add]
  congr 1
  omega
theorem bit_of_mod (X : Int) (t : Nat) (ht : t < 64) : X / 2 ^ t % 2 = X % 18446744073709551616 / 2 ^ t % 2 := by
  have h1 : X = X % 18446744073709551616 + 2 ^ t * (2 * (2 ^ (63 - t) * (X / 18446744073709551616))) := by
    have h2 : (2 : Int) ^ t * (2 * 2 ^ (63 - t)) = 18446744073709551616 := by
      rw [← Int.mul_assoc, Int.mul_comm (2 ^ t) 2, ← Int.pow_succ', ← Int.pow_add, show t + 1 + (63 - t) = 64 by omega]
      decide
    rw [← Int.mul_assoc 2, ← Int.mul_assoc, h2]
    omega
  conv => lhs; rw [h1]
  rw [Int.add_mul_ediv_left _ _ (Int.ne_of_gt (two_pow_pos t))]
  omega
theorem bit_at {a b c d : Int} (ha : U a) (hb : U b) (hc : U c) (hd : U d) {n : Nat} (hn : n < 256) : val4 a b c d / 2 ^ n % 2 = [a, b, c, d].getD (n / 64) 0 / 2 ^ (n % 64) % 2 := by
  rw [pow_split, ← Int.ediv_ediv_of_nonneg (Int.le_of_lt (two_pow_pos _)), bit_of_mod _ _ (by omega), limb_div ha hb hc hd _ (by omega)]
theorem low_zero {a b c d : Int} (ha : U a) (hb : U b) (hc : U c) (hd : U d) {n : Nat} (hn : n < 256) (h : ∃ P, val4 a b c d = 2 ^ (n + 1) * P) : [a, b, c, d].getD (n / 64) 0 % 2 ^ (n % 64 + 1) = 0 := by
  obtain ⟨P, hP⟩ := h
  rw [← limb_div ha hb hc hd (n / 64) (by omega), hP, show n + 1 = 64 * (n / 64) + (n % 64 + 1) by omega, Int.pow_add, Int.mul_assoc, Int.mul_ediv_cancel_left _ (Int.ne_of_gt (two_pow_pos _))]
  have h3 : (18446744073709551616 : Int) = 2 ^ (n % 64 + 1) * 2 ^ (63 - n % 64) := by
    rw [← Int.pow_add, show n % 64 + 1 + (63 - n % 64) = 64 by omega]
    decide
  rw [Int.emod_emod_of_dvd _ ⟨_, h3⟩]
  exact Int.mul_emod_right _ _
/-- A limb changed: the list of the four. -/
def set4 (a b c d : Int) (j : Nat) (x : Int) : Int × Int × Int × Int := match j with | 0 => (x, b, c, d) | 1 => (a, x, c, d) | 2 => (a, b, x, d) | _ => (a, b, c, x)
theorem set4_val (a b c d : Int) (n : Nat) (hn : n < 256) {a' b' c' d' : Int} (h : set4 a b c d (n / 64) ([a, b, c, d].getD (n / 64) 0 + 2 ^ (n % 64)) = (a', b', c', d')) : val4 a' b' c' d' = val4 a b c d + 2 ^ n := by
  rw [pow_split]
  obtain ⟨j, hj⟩ : ∃ j, j = n / 64 := ⟨_, rfl⟩
  rw [← hj] at h ⊢
  generalize (2 : Int) ^ (n % 64) = t at h ⊢
  have hj4 : j < 4 := by omega
  unfold val4
  match j, hj4 with
  | 0, _ => simp [set4] at h; obtain ⟨rfl, rfl, rfl, rfl⟩ := h; simp; omega
  | 1, _ => simp [set4] at h; obtain ⟨rfl, rfl, rfl, rfl⟩ := h; simp; omega
  | 2, _ => simp [set4] at h; obtain ⟨rfl, rfl, rfl, rfl⟩ := h; simp; omega
  | 3, _ => simp [set4] at h; obtain ⟨rfl, rfl, rfl, rfl⟩ := h; simp; omega
theorem set4_U {a b c d x : Int} (ha : U a) (hb : U b) (hc : U c) (hd : U d) (hx : U x) (j : Nat) {a' b' c' d' : Int} (h : set4 a b c d j x = (a', b', c', d')) : U a' ∧ U b' ∧ U c' ∧ U d' := by
  unfold set4 at h
  split at h <;> cases h
  · exact ⟨hx, hb, hc, hd⟩
  · exact ⟨ha, hx, hc, hd⟩
  · exact ⟨ha, hb, hx, hd⟩
  · exact ⟨ha, hb, hc, hx⟩
/-- The shift by one bit. -/
theorem shift_val {r0 r1 r2 r3 bit : Int} (h0 : U r0) (h1 : U r1) (h2 : U r2) (h3 : U r3) (hb : 0 ≤ bit ∧ bit ≤ 1) :
    val4 (r0 * 2 % 18446744073709551616 + bit) (r1 * 2 % 18446744073709551616 + r0 / 9223372036854775808) (r2 * 2 % 18446744073709551616 + r1 / 9223372036854775808) (r3 * 2 % 18446744073709551616 + r2 / 9223372036854775808) + top4 * (r3 / 9223372036854775808) = 2 * val4 r0 r1 r2 r3 + bit ∧
    U (r0 * 2 % 18446744073709551616 + bit) ∧ U (r1 * 2 % 18446744073709551616 + r0 / 9223372036854775808) ∧ U (r2 * 2 % 18446744073709551616 + r1 / 9223372036854775808) ∧ U (r3 * 2 % 18446744073709551616 + r2 / 9223372036854775808) := by
  unfold U at *
  unfold val4 top4
  refine ⟨by omega, ⟨by omega, by omega⟩, ⟨by omega, by omega⟩, ⟨by omega, by omega⟩, ⟨by omega, by omega⟩⟩
end Go.Proofs.Ytmpbbodafenonaa

/- Plain words on the product of limbs, row by row. -/
import Derived.Test.YtmpbbodafenonaaLimbMath
set_option linter.unusedVariables false
set_option linter.unusedSimpArgs false
namespace Go.Proofs.Ytmpbbodafenonaa
/-- What limbs are worth, the lowest first. -/
def V64 : List Nat → Nat
  | [] => 0
  | d :: t => d + 18446744073709551616 * V64 t
theorem V64_set (o : List Nat) (j v : Nat) (h : j < o.length) : V64 (o.set j v) + 18446744073709551616 ^ j * o.getD j 0 = V64 o + 18446744073709551616 ^ j * v := by
  induction o generalizing j with
  | nil => simp at h
  | cons d t ih =>
    cases j with
    | zero => simp [V64]; omega
    | succ j =>
      have := ih j (by simpa using h)
      simp only [List.set_cons_succ, V64, List.getD_cons_succ, Nat.pow_succ]
      grind
theorem V64_take (l : List Nat) (k : Nat) (h : k < l.length) : V64 (l.take (k + 1)) = V64 (l.take k) + 18446744073709551616 ^ k * l.getD k 0 := by
  induction l generalizing k with
  | nil => simp at h
  | cons d t ih =>
    cases k with
    | zero => simp [V64]
    | succ k =>
      have := ih k (by simpa using h)
      simp only [List.take_succ_cons, V64, List.getD_cons_succ, Nat.pow_succ]
      grind
theorem inner_step {V0 V1 V2 P Q c c' ov o2 x y Y Y' : Nat} (hV : V1 + P * Q * c = V0 + P * (x * Y)) (hs : V2 + P * Q * ov = V1 + P * Q * o2) (he : o2 + 18446744073709551616 * c' = ov + c + x * y) (hY : Y' = Y + Q * y) :
    V2 + P * Q * 18446744073709551616 * c' = V0 + P * (x * Y') := by
  grind
theorem limb_step {x y c ov hi lo s1 c1 h2 o2 c2 c' : Nat} (hx : x < 18446744073709551616) (hy : y < 18446744073709551616) (hc : c < 18446744073709551616) (ho : ov < 18446744073709551616)
    (e1 : hi = x * y / 18446744073709551616) (e2 : lo = x * y % 18446744073709551616) (e3 : s1 = (lo + c + 0) % 18446744073709551616) (e4 : c1 = (lo + c + 0) / 18446744073709551616) (e5 : (h2 : Int) = ((hi : Int) + c1) % 18446744073709551616)
    (e6 : o2 = (ov + s1 + 0) % 18446744073709551616) (e7 : c2 = (ov + s1 + 0) / 18446744073709551616) (e8 : (c' : Int) = ((h2 : Int) + c2) % 18446744073709551616) : o2 + 18446744073709551616 * c' = ov + c + x * y := by
  have hp : x * y ≤ 18446744073709551615 * 18446744073709551615 := Nat.mul_le_mul (by omega) (by omega)
  generalize x * y = p at *
  omega
end Go.Proofs.Ytmpbbodafenonaa

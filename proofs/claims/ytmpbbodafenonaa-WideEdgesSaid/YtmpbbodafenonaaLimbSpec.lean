/- The limbs' contracts, told by functions: sums, differences, products, quotients. -/
import Derived.Test.YtmpbbodafenonaaLimb3
import Derived.Test.YtmpbbodafenonaaLimb5
set_option linter.unusedVariables false
set_option linter.unusedSimpArgs false
namespace Go.Proofs.Ytmpbbodafenonaa
open Go Go.Proofs Go.RowKit Go.Proofs.YtmpbbodafenonaaW.PrintWords

/-- A number's four limbs. -/
def spl0 (n : Int) : Int := n % 18446744073709551616
def spl1 (n : Int) : Int := n / 18446744073709551616 % 18446744073709551616
def spl2 (n : Int) : Int := n / 340282366920938463463374607431768211456 % 18446744073709551616
def spl3 (n : Int) : Int := n / 6277101735386680763835789423207666416102355444464034512896 % 18446744073709551616
theorem spl0_U (n : Int) : U (spl0 n) := ⟨Int.emod_nonneg _ (by decide), Int.emod_lt_of_pos _ (by decide)⟩
theorem spl1_U (n : Int) : U (spl1 n) := ⟨Int.emod_nonneg _ (by decide), Int.emod_lt_of_pos _ (by decide)⟩
theorem spl2_U (n : Int) : U (spl2 n) := ⟨Int.emod_nonneg _ (by decide), Int.emod_lt_of_pos _ (by decide)⟩
theorem spl3_U (n : Int) : U (spl3 n) := ⟨Int.emod_nonneg _ (by decide), Int.emod_lt_of_pos _ (by decide)⟩
theorem val4_spl {n : Int} (h0 : 0 ≤ n) (h1 : n < top4) : val4 (spl0 n) (spl1 n) (spl2 n) (spl3 n) = n := by
  unfold top4 at h1
  unfold val4 spl0 spl1 spl2 spl3
  omega
theorem spl_val4 {a b c d : Int} (ha : U a) (hb : U b) (hc : U c) (hd : U d) : a = spl0 (val4 a b c d) ∧ b = spl1 (val4 a b c d) ∧ c = spl2 (val4 a b c d) ∧ d = spl3 (val4 a b c d) := by
  have h := val4_bound ha hb hc hd
  exact val4_inj ha hb hc hd (spl0_U _) (spl1_U _) (spl2_U _) (spl3_U _) (val4_spl h.1 h.2).symm
theorem spl_eq {a b c d n : Int} (ha : U a) (hb : U b) (hc : U c) (hd : U d) (h : val4 a b c d = n) : a = spl0 n ∧ b = spl1 n ∧ c = spl2 n ∧ d = spl3 n := by
  subst h
  exact spl_val4 ha hb hc hd
/-- Are they limbs? -/
def u4 (a b c d : Int) : Bool := decide (0 ≤ a) && decide (a < 18446744073709551616) && decide (0 ≤ b) && decide (b < 18446744073709551616) && decide (0 ≤ c) && decide (c < 18446744073709551616) && decide (0 ≤ d) && decide (d < 18446744073709551616)
theorem u4_iff {a b c d : Int} : u4 a b c d = true ↔ U a ∧ U b ∧ U c ∧ U d := by
  unfold u4 U
  simp only [Bool.and_eq_true, decide_eq_true_eq]
  omega
theorem noneB_iff {a b c d : Int} (ha : U a) (hb : U b) (hc : U c) (hd : U d) : noneB a b c d = decide (val4 a b c d = 0) := by
  rw [Bool.eq_iff_iff, decide_eq_true_eq, val4_eq_zero ha hb hc hd]
  unfold noneB
  simp
def wide_plus_f (a0_0 a0_1 a0_2 a0_3 a1_0 a1_1 a1_2 a1_3 : Int) : Option (Int × Int × Int × Int × Bool) :=
  if u4 a0_0 a0_1 a0_2 a0_3 = true ∧ u4 a1_0 a1_1 a1_2 a1_3 = true then some (spl0 ((val4 a0_0 a0_1 a0_2 a0_3 + val4 a1_0 a1_1 a1_2 a1_3) % top4), spl1 ((val4 a0_0 a0_1 a0_2 a0_3 + val4 a1_0 a1_1 a1_2 a1_3) % top4), spl2 ((val4 a0_0 a0_1 a0_2 a0_3 + val4 a1_0 a1_1 a1_2 a1_3) % top4), spl3 ((val4 a0_0 a0_1 a0_2 a0_3 + val4 a1_0 a1_1 a1_2 a1_3) % top4), decide (val4 a0_0 a0_1 a0_2 a0_3 + val4 a1_0 a1_1 a1_2 a1_3 < top4)) else none
theorem wide_plus_c (a0_0 a0_1 a0_2 a0_3 a1_0 a1_1 a1_2 a1_3 : Int) (r1 r2 r3 r4 : Int) (r5 : Bool) (w : World) (h : wide_plus_f a0_0 a0_1 a0_2 a0_3 a1_0 a1_1 a1_2 a1_3 = some (r1, r2, r3, r4, r5)) :
    Calls Try.prog 71 #[.agg #[.int .u64 a0_0, .int .u64 a0_1, .int .u64 a0_2, .int .u64 a0_3], .agg #[.int .u64 a1_0, .int .u64 a1_1, .int .u64 a1_2, .int .u64 a1_3]] w fun e w' => e = .returned (.tuple #[.agg #[.int .u64 r1, .int .u64 r2, .int .u64 r3, .int .u64 r4], .bool r5]) ∧ Below w.heap.size w w' := by
  unfold wide_plus_f at h
  split at h
  · rename_i hc
    simp only [Option.some.injEq, Prod.mk.injEq] at h
    obtain ⟨rfl, rfl, rfl, rfl, rfl⟩ := h
    obtain ⟨h1, h2, h3, h4⟩ := u4_iff.1 hc.1
    obtain ⟨k1, k2, k3, k4⟩ := u4_iff.1 hc.2
    refine (plus_any h1 h2 h3 h4 k1 k2 k3 k4 w).mono ?_
    rintro e w' ⟨s0, s1, s2, s3, rfl, u0, u1, u2, u3, hv, hb⟩
    obtain ⟨rfl, rfl, rfl, rfl⟩ := spl_eq u0 u1 u2 u3 hv
    exact ⟨rfl, hb⟩
  · cases h
def wide_less_f (a0_0 a0_1 a0_2 a0_3 a1_0 a1_1 a1_2 a1_3 : Int) : Option (Int × Int × Int × Int) :=
  if u4 a0_0 a0_1 a0_2 a0_3 = true ∧ u4 a1_0 a1_1 a1_2 a1_3 = true then some (spl0 ((val4 a0_0 a0_1 a0_2 a0_3 - val4 a1_0 a1_1 a1_2 a1_3) % top4), spl1 ((val4 a0_0 a0_1 a0_2 a0_3 - val4 a1_0 a1_1 a1_2 a1_3) % top4), spl2 ((val4 a0_0 a0_1 a0_2 a0_3 - val4 a1_0 a1_1 a1_2 a1_3) % top4), spl3 ((val4 a0_0 a0_1 a0_2 a0_3 - val4 a1_0 a1_1 a1_2 a1_3) % top4)) else none
theorem wide_less_c (a0_0 a0_1 a0_2 a0_3 a1_0 a1_1 a1_2 a1_3 : Int) (r1 r2 r3 r4 : Int) (w : World) (h : wide_less_f a0_0 a0_1 a0_2 a0_3 a1_0 a1_1 a1_2 a1_3 = some (r1, r2, r3, r4)) :
    Calls Try.prog 72 #[.agg #[.int .u64 a0_0, .int .u64 a0_1, .int .u64 a0_2, .int .u64 a0_3], .agg #[.int .u64 a1_0, .int .u64 a1_1, .int .u64 a1_2, .int .u64 a1_3]] w fun e w' => e = .returned (.agg #[.int .u64 r1, .int .u64 r2, .int .u64 r3, .int .u64 r4]) ∧ Below w.heap.size w w' := by
  unfold wide_less_f at h
  split at h
  · rename_i hc
    simp only [Option.some.injEq, Prod.mk.injEq] at h
    obtain ⟨rfl, rfl, rfl, rfl⟩ := h
    obtain ⟨h1, h2, h3, h4⟩ := u4_iff.1 hc.1
    obtain ⟨k1, k2, k3, k4⟩ := u4_iff.1 hc.2
    refine (less_any h1 h2 h3 h4 k1 k2 k3 k4 w).mono ?_
    rintro e w' ⟨s0, s1, s2, s3, rfl, u0, u1, u2, u3, hv, hb⟩
    obtain ⟨rfl, rfl, rfl, rfl⟩ := spl_eq u0 u1 u2 u3 hv
    exact ⟨rfl, hb⟩
  · cases h
def wide_size_f (a0_0 a0_1 a0_2 a0_3 a1_0 a1_1 a1_2 a1_3 : Int) : Option Int :=
  if u4 a0_0 a0_1 a0_2 a0_3 = true ∧ u4 a1_0 a1_1 a1_2 a1_3 = true then some (cmpI (val4 a0_0 a0_1 a0_2 a0_3) (val4 a1_0 a1_1 a1_2 a1_3)) else none
theorem wide_size_c (a0_0 a0_1 a0_2 a0_3 a1_0 a1_1 a1_2 a1_3 : Int) (r : Int) (w : World) (h : wide_size_f a0_0 a0_1 a0_2 a0_3 a1_0 a1_1 a1_2 a1_3 = some r) :
    Calls Try.prog 78 #[.agg #[.int .u64 a0_0, .int .u64 a0_1, .int .u64 a0_2, .int .u64 a0_3], .agg #[.int .u64 a1_0, .int .u64 a1_1, .int .u64 a1_2, .int .u64 a1_3]] w fun e w' => e = .returned (.int .i64 r) ∧ Below w.heap.size w w' := by
  unfold wide_size_f at h
  split at h
  · rename_i hc
    simp only [Option.some.injEq] at h
    subst h
    obtain ⟨h1, h2, h3, h4⟩ := u4_iff.1 hc.1
    obtain ⟨k1, k2, k3, k4⟩ := u4_iff.1 hc.2
    exact size_any h1 h2 h3 h4 k1 k2 k3 k4 w
  · cases h
def wide_divide_f (a0_0 a0_1 a0_2 a0_3 a1_0 a1_1 a1_2 a1_3 : Int) : Option (Int × Int × Int × Int × Int × Int × Int × Int) :=
  if u4 a0_0 a0_1 a0_2 a0_3 = true ∧ u4 a1_0 a1_1 a1_2 a1_3 = true ∧ 0 < val4 a1_0 a1_1 a1_2 a1_3 then some (spl0 (val4 a0_0 a0_1 a0_2 a0_3 / val4 a1_0 a1_1 a1_2 a1_3), spl1 (val4 a0_0 a0_1 a0_2 a0_3 / val4 a1_0 a1_1 a1_2 a1_3), spl2 (val4 a0_0 a0_1 a0_2 a0_3 / val4 a1_0 a1_1 a1_2 a1_3), spl3 (val4 a0_0 a0_1 a0_2 a0_3 / val4 a1_0 a1_1 a1_2 a1_3),
    spl0 (val4 a0_0 a0_1 a0_2 a0_3 % val4 a1_0 a1_1 a1_2 a1_3), spl1 (val4 a0_0 a0_1 a0_2 a0_3 % val4 a1_0 a1_1 a1_2 a1_3), spl2 (val4 a0_0 a0_1 a0_2 a0_3 % val4 a1_0 a1_1 a1_2 a1_3), spl3 (val4 a0_0 a0_1 a0_2 a0_3 % val4 a1_0 a1_1 a1_2 a1_3)) else none
theorem wide_divide_c (a0_0 a0_1 a0_2 a0_3 a1_0 a1_1 a1_2 a1_3 : Int) (r1 r2 r3 r4 r5 r6 r7 r8 : Int) (w : World) (h : wide_divide_f a0_0 a0_1 a0_2 a0_3 a1_0 a1_1 a1_2 a1_3 = some (r1, r2, r3, r4, r5, r6, r7, r8)) :
    Calls Try.prog 70 #[.agg #[.int .u64 a0_0, .int .u64 a0_1, .int .u64 a0_2, .int .u64 a0_3], .agg #[.int .u64 a1_0, .int .u64 a1_1, .int .u64 a1_2, .int .u64 a1_3]] w fun e w' => e = .returned (.tuple #[.agg #[.int .u64 r1, .int .u64 r2, .int .u64 r3, .int .u64 r4], .agg #[.int .u64 r5, .int .u64 r6, .int .u64 r7, .int .u64 r8]]) ∧ Below w.heap.size w w' := by
  unfold wide_divide_f at h
  split at h
  · rename_i hc
    simp only [Option.some.injEq, Prod.mk.injEq] at h
    obtain ⟨rfl, rfl, rfl, rfl, rfl, rfl, rfl, rfl⟩ := h
    obtain ⟨h1, h2, h3, h4⟩ := u4_iff.1 hc.1
    obtain ⟨k1, k2, k3, k4⟩ := u4_iff.1 hc.2.1
    refine (divide_any h1 h2 h3 h4 k1 k2 k3 k4 w hc.2.2).mono ?_
    rintro e w' ⟨q0, q1, q2, q3, s0, s1, s2, s3, rfl, ⟨u0, u1, u2, u3⟩, ⟨t0, t1, t2, t3⟩, ⟨hv, hr0, hr1⟩, hb⟩
    have hB := hc.2.2
    have hq : val4 q0 q1 q2 q3 = val4 a0_0 a0_1 a0_2 a0_3 / val4 a1_0 a1_1 a1_2 a1_3 := by
      rw [hv, Int.add_comm, Int.add_mul_ediv_right _ _ (Int.ne_of_gt hB), Int.ediv_eq_zero_of_lt hr0 hr1, Int.zero_add]
    have hr : val4 s0 s1 s2 s3 = val4 a0_0 a0_1 a0_2 a0_3 % val4 a1_0 a1_1 a1_2 a1_3 := by
      rw [hv, Int.add_comm, Int.add_mul_emod_self_right, Int.emod_eq_of_lt hr0 hr1]
    obtain ⟨rfl, rfl, rfl, rfl⟩ := spl_eq u0 u1 u2 u3 hq
    obtain ⟨rfl, rfl, rfl, rfl⟩ := spl_eq t0 t1 t2 t3 hr
    exact ⟨rfl, hb⟩
  · cases h
def wide_mul_f (a0_0 : Bool) (a0_1 a0_2 a0_3 a0_4 : Int) (a1_0 : Bool) (a1_1 a1_2 a1_3 a1_4 : Int) : Option (Bool × Int × Int × Int × Int × Bool) :=
  if u4 a0_1 a0_2 a0_3 a0_4 = true ∧ u4 a1_1 a1_2 a1_3 a1_4 = true then some ((!(a0_0 == a1_0)) && !decide ((val4 a0_1 a0_2 a0_3 a0_4 * val4 a1_1 a1_2 a1_3 a1_4) % top4 = 0), spl0 ((val4 a0_1 a0_2 a0_3 a0_4 * val4 a1_1 a1_2 a1_3 a1_4) % top4), spl1 ((val4 a0_1 a0_2 a0_3 a0_4 * val4 a1_1 a1_2 a1_3 a1_4) % top4), spl2 ((val4 a0_1 a0_2 a0_3 a0_4 * val4 a1_1 a1_2 a1_3 a1_4) % top4), spl3 ((val4 a0_1 a0_2 a0_3 a0_4 * val4 a1_1 a1_2 a1_3 a1_4) % top4), decide (val4 a0_1 a0_2 a0_3 a0_4 * val4 a1_1 a1_2 a1_3 a1_4 < top4)) else none
theorem V8 (o0 o1 o2 o3 o4 o5 o6 o7 : Nat) : ((V64 [o0, o1, o2, o3, o4, o5, o6, o7] : Nat) : Int) = val4 o0 o1 o2 o3 + top4 * val4 o4 o5 o6 o7 := by
  simp only [V64]
  unfold val4 top4
  omega
theorem V4 (o0 o1 o2 o3 : Nat) : ((V64 [o0, o1, o2, o3] : Nat) : Int) = val4 o0 o1 o2 o3 := by
  simp only [V64]
  unfold val4
  omega
theorem wide_mul_c (a0_0 : Bool) (a0_1 a0_2 a0_3 a0_4 : Int) (a1_0 : Bool) (a1_1 a1_2 a1_3 a1_4 : Int) (r1 : Bool) (r2 r3 r4 r5 : Int) (r6 : Bool) (w : World) (h : wide_mul_f a0_0 a0_1 a0_2 a0_3 a0_4 a1_0 a1_1 a1_2 a1_3 a1_4 = some (r1, r2, r3, r4, r5, r6)) :
    Calls Try.prog 66 #[.agg #[.bool a0_0, .int .u64 a0_1, .int .u64 a0_2, .int .u64 a0_3, .int .u64 a0_4], .agg #[.bool a1_0, .int .u64 a1_1, .int .u64 a1_2, .int .u64 a1_3, .int .u64 a1_4]] w fun e w' => e = .returned (.tuple #[.agg #[.bool r1, .int .u64 r2, .int .u64 r3, .int .u64 r4, .int .u64 r5], .bool r6]) ∧ Below w.heap.size w w' := by
  unfold wide_mul_f at h
  split at h
  · rename_i hc
    simp only [Option.some.injEq, Prod.mk.injEq] at h
    obtain ⟨rfl, rfl, rfl, rfl, rfl, rfl⟩ := h
    obtain ⟨h1, h2, h3, h4⟩ := u4_iff.1 hc.1
    obtain ⟨k1, k2, k3, k4⟩ := u4_iff.1 hc.2
    obtain ⟨x0, rfl, l0⟩ := U_nat h1
    obtain ⟨x1, rfl, l1⟩ := U_nat h2
    obtain ⟨x2, rfl, l2⟩ := U_nat h3
    obtain ⟨x3, rfl, l3⟩ := U_nat h4
    obtain ⟨y0, rfl, m0⟩ := U_nat k1
    obtain ⟨y1, rfl, m1⟩ := U_nat k2
    obtain ⟨y2, rfl, m2⟩ := U_nat k3
    obtain ⟨y3, rfl, m3⟩ := U_nat k4
    refine (mul_walk a0_0 a1_0 l0 l1 l2 l3 m0 m1 m2 m3 w).mono ?_
    rintro e w' ⟨o0, o1, o2, o3, o4, o5, o6, o7, rfl, hd, ⟨hv⟩, hb⟩
    have u := fun n (hn : n ∈ [o0, o1, o2, o3, o4, o5, o6, o7]) => Lm_U (hd n hn)
    have u0 := u o0 (by simp)
    have u1 := u o1 (by simp)
    have u2 := u o2 (by simp)
    have u3 := u o3 (by simp)
    have u4 := u o4 (by simp)
    have u5 := u o5 (by simp)
    have u6 := u o6 (by simp)
    have u7 := u o7 (by simp)
    have hv2 : val4 o0 o1 o2 o3 + top4 * val4 o4 o5 o6 o7 = val4 x0 x1 x2 x3 * val4 y0 y1 y2 y3 := by
      rw [← V8, ← V4, ← V4, hv]
      exact Int.natCast_mul _ _
    have b1 := val4_bound u0 u1 u2 u3
    have b2 := val4_bound u4 u5 u6 u7
    have hlo : val4 o0 o1 o2 o3 = (val4 x0 x1 x2 x3 * val4 y0 y1 y2 y3) % top4 := by
      rw [← hv2, Int.add_mul_emod_self_left, Int.emod_eq_of_lt b1.1 b1.2]
    have hhi : noneB o4 o5 o6 o7 = decide (val4 x0 x1 x2 x3 * val4 y0 y1 y2 y3 < top4) := by
      rw [noneB_iff u4 u5 u6 u7, Bool.eq_iff_iff, decide_eq_true_eq, decide_eq_true_eq, ← hv2]
      unfold top4 at *
      omega
    rw [noneB_iff u0 u1 u2 u3, hlo, hhi, bne]
    obtain ⟨e0, e1, e2, e3⟩ := spl_eq u0 u1 u2 u3 hlo
    rw [← e0, ← e1, ← e2, ← e3]
    exact ⟨rfl, hb⟩
  · cases h
def bits_Mul64_f (a0 a1 : Int) : Option (Int × Int) := if 0 ≤ a0 ∧ a0 < 18446744073709551616 ∧ 0 ≤ a1 ∧ a1 < 18446744073709551616 then some (a0 * a1 / 18446744073709551616, a0 * a1 % 18446744073709551616) else none
theorem bits_Mul64_c (a0 a1 r1 r2 : Int) (w : World) (h : bits_Mul64_f a0 a1 = some (r1, r2)) :
    Calls Try.prog 92 #[.int .u64 a0, .int .u64 a1] w fun e w' => e = .returned (.tuple #[.int .u64 r1, .int .u64 r2]) ∧ Drawn0 w w' := by
  unfold bits_Mul64_f at h
  split at h
  · rename_i hc
    simp only [Option.some.injEq, Prod.mk.injEq] at h
    obtain ⟨rfl, rfl⟩ := h
    obtain ⟨x, rfl, hx⟩ := U_nat ⟨hc.1, hc.2.1⟩
    obtain ⟨y, rfl, hy⟩ := U_nat ⟨hc.2.2.1, hc.2.2.2⟩
    refine (mul64_any hx hy w).mono ?_
    rintro e w' ⟨rfl, rfl⟩
    refine ⟨?_, Drawn0.refl _⟩
    rw [← Int.natCast_mul]
    rfl
  · cases h
end Go.Proofs.Ytmpbbodafenonaa

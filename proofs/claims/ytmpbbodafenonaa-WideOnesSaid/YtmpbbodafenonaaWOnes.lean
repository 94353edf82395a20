/- Plain words on the wide package's Int, and on Of at any number of 64 bits. -/
import Derived.Test.YtmpbbodafenonaaWP2
import Derived.Test.YtmpbbodafenonaaMT19
import Derived.Test.YtmpbbodafenonaaMT3
set_option linter.unusedVariables false
set_option linter.unusedSimpArgs false
namespace Go.Proofs.Ytmpbbodafenonaa
open Go Go.RowKit Go.Proofs.Ytmpbbodafenonaa.MT Go.Proofs.YtmpbbodafenonaaW.PrintWords Go.Proofs.YtmpbbodafenonaaW.PrintLast
theorem or3 {a b c : Nat} (ha : Lm a) (hb : Lm b) (hc : Lm c) : Go.bits .or .u64 (Go.bits .or .u64 (a : Int) (b : Int)) (c : Int) = 0 ↔ a = 0 ∧ b = 0 ∧ c = 0 := by
 have k : ∀ {x y : Nat}, Lm x → Lm y → Go.bits .or .u64 (x : Int) (y : Int) = ((x ||| y : Nat) : Int) ∧ Lm (x ||| y) := by
  intro x y hx hy
  refine ⟨(bits_nat .u64 64 (by decide) u64_small x y hx hy).2, ?_⟩
  exact Nat.or_lt_two_pow (n := 64) hx hy
 rw [(k ha hb).1, (k (k ha hb).2 hc).1]
 constructor
 ·intro h0
  have h1 : a ||| b ||| c = 0 := by omega
  rw [Nat.or_eq_zero_iff, Nat.or_eq_zero_iff] at h1
  omega
 ·rintro ⟨h0, h1, h2⟩
  obtain rfl : a = 0 := by omega
  obtain rfl : b = 0 := by omega
  obtain rfl : c = 0 := by omega
  rfl
theorem or3_int {a b c : Int} (ha : U a) (hb : U b) (hc : U c) : Go.bits .or .u64 (Go.bits .or .u64 a b) c = 0 ↔ a = 0 ∧ b = 0 ∧ c = 0 := by
 obtain ⟨x, rfl⟩ := Int.eq_ofNat_of_zero_le ha.1
 obtain ⟨y, rfl⟩ := Int.eq_ofNat_of_zero_le hb.1
 obtain ⟨z, rfl⟩ := Int.eq_ofNat_of_zero_le hc.1
 have h := or3 (a := x) (b := y) (c := z) (by have := ha.2; unfold Lm; omega) (by have := hb.2; unfold Lm; omega) (by have := hc.2; unfold Lm; omega)
 exact h.trans (by omega)
/-- The value as one of 64 bits. -/
theorem int_ev (m : Bool) {v : Int} (h0 : 0 ≤ v) (h1 : v < top4) : Ev (fun k => wide_Int.f k m (spl0 v) (spl1 v) (spl2 v) (spl3 v)) (if -9223372036854775808 ≤ sv m v ∧ sv m v ≤ 9223372036854775807 then (sv m v, 0) else (0, 10)) := by
 have hz : ∀ (x : Int) (b a0 : Bool) (a1 a2 a3 a4 : Int), b = true → Ev (fun k => wide_Int.j0 k x b a0 a1 a2 a3 a4) (0, 10) := by
  rintro x b a0 a1 a2 a3 a4 rfl
  exact Ev.step (f := fun _ => some (0, 10)) (fun k => rfl) (Ev.now _)
 have hval := val4_spl h0 h1
 have u0 := spl0_U v
 have u1 := spl1_U v
 have u2 := spl2_U v
 have u3 := spl3_U v
 have hor := or3_int u1 u2 u3
 by_cases hs : Go.bits .or .u64 (Go.bits .or .u64 (spl1 v) (spl2 v)) (spl3 v) = 0
 ·obtain ⟨e1, e2, e3⟩ := hor.1 hs
  have hv : v = spl0 v := by
   have hq := hval
   rw [e1, e2, e3] at hq
   unfold val4 at hq
   omega
  unfold U at u0
  have hsv : sv m v = if m = true then -v else v := rfl
  have hgood : (v ≤ 9223372036854775807 ∨ (v = 9223372036854775808 ∧ m = true)) → Ev (fun k => wide_Int.j0 k (spl0 v) false (m && !decide (v = 0)) (spl0 v) (spl1 v) (spl2 v) (spl3 v)) (sv m v, 0) := by
   intro hb
   refine Ev.step (f := fun _ => some (sv m v, 0)) (fun k => ?_) (Ev.now _)
   simp only [wide_Int.j0, Bool.false_eq_true, if_false]
   rw [← hv]
   have hneg : IntKind.u64.wrap (-v) = (-v) % 18446744073709551616 := rfl
   by_cases hmv : (m && !decide (v = 0)) = true
   ·rw [if_pos hmv, hneg, hsv]
    simp at hmv
    rw [if_pos hmv.1]
    have : wrap64 (-v % 18446744073709551616) = -v := by unfold wrap64; omega
    rw [this]
   ·rw [if_neg hmv, hsv]
    have : wrap64 v = if m = true then -v else v := by
     cases m
     ·simp at hb ⊢
      rw [w64 (by omega) (by omega)]
     ·simp at hmv
      subst hmv
      rw [w64 (by decide) (by decide)]
      rfl
    rw [this]
  have hif : ∀ (k : Nat), wide_Int.f k m (spl0 v) (spl1 v) (spl2 v) (spl3 v) = (if spl0 v > 9223372036854775808 then (wide_Int.j0 k (spl0 v) true (m && !decide (v = 0)) (spl0 v) (spl1 v) (spl2 v) (spl3 v)) else (if spl0 v = 9223372036854775808 then (wide_Int.j0 k (spl0 v) (!(m && !decide (v = 0))) (m && !decide (v = 0)) (spl0 v) (spl1 v) (spl2 v) (spl3 v)) else (wide_Int.j0 k (spl0 v) false (m && !decide (v = 0)) (spl0 v) (spl1 v) (spl2 v) (spl3 v)))) := by
   intro k
   unfold wide_Int.f
   rw [of_spl m h0 h1]
   simp only [Option.bind_some]
   rw [if_pos hs]
  refine Ev.congr hif ?_
  by_cases c1 : spl0 v > 9223372036854775808
  ·rw [if_neg (by rw [hsv]; cases m <;> simp <;> omega)]
   exact Ev.congr (fun k => if_pos c1) (hz _ _ _ _ _ _ _ rfl)
  ·refine Ev.congr (fun k => if_neg c1) ?_
   by_cases c2 : spl0 v = 9223372036854775808
   ·refine Ev.congr (fun k => if_pos c2) ?_
    cases m
    ·rw [if_neg (by rw [hsv]; simp; omega)]
     exact hz _ _ _ _ _ _ _ rfl
    ·rw [if_pos (by rw [hsv]; simp; omega)]
     have h := hgood (.inr ⟨by omega, rfl⟩)
     rw [show (!(true && !decide (v = 0))) = false by rw [decide_eq_false (by omega)]; rfl]
     exact h
   ·refine Ev.congr (fun k => if_neg c2) ?_
    rw [if_pos (by rw [hsv]; cases m <;> simp <;> omega)]
    exact hgood (.inl (by omega))
 ·have hn : ¬ (spl1 v = 0 ∧ spl2 v = 0 ∧ spl3 v = 0) := fun h => hs (hor.2 h)
  have hbig : 18446744073709551616 ≤ v := by
   unfold U at u0 u1 u2 u3
   have hq := hval
   unfold val4 at hq
   omega
  rw [if_neg (by unfold sv; cases m <;> simp <;> omega)]
  refine Ev.congr (f := fun k => wide_Int.j0 k (spl0 v) true (m && !decide (v = 0)) (spl0 v) (spl1 v) (spl2 v) (spl3 v)) (fun k => ?_) (hz _ _ _ _ _ _ _ rfl)
  unfold wide_Int.f
  rw [of_spl m h0 h1]
  simp only [Option.bind_some]
  rw [if_neg hs]
theorem Of_int {d : Int} (h0 : -9223372036854775808 ≤ d) (h1 : d ≤ 9223372036854775807) : wide_Of.f d = some (decide (d < 0), spl0 d.natAbs, spl1 d.natAbs, spl2 d.natAbs, spl3 d.natAbs) := by
 by_cases hd : d < 0
 ·obtain ⟨e0, e1, e2, e3⟩ := spl_small (d := (d.natAbs : Int)) (by omega) (by omega)
  have hw : IntKind.u64.wrap (-(IntKind.u64.wrap d)) = spl0 d.natAbs := by
   have h : IntKind.u64.wrap (-(IntKind.u64.wrap d)) = (-(d % 18446744073709551616)) % 18446744073709551616 := rfl
   rw [h, e0]
   omega
  have h := of_spl true (v := (d.natAbs : Int)) (by omega) (by unfold top4; omega)
  rw [e1, e2, e3] at h
  unfold wide_Of.f
  rw [if_pos hd, hw, h, e1, e2, e3, decide_eq_true hd, decide_eq_false (by omega)]
  rfl
 ·rw [Of_nonneg (by omega) h1, decide_eq_false hd, show ((d.natAbs : Nat) : Int) = d by omega]
end Go.Proofs.Ytmpbbodafenonaa

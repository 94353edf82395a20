/- The walks of bits.Mul64, wide's none and of, and mul. -/
import Derived.Shelf.Bits.Mul64
import Derived.Deep.RegionHeld3
import Derived.Test.YtmpbbodafenonaaLimb2
import Derived.Test.YtmpbbodafenonaaEq4
set_option linter.unusedVariables false
set_option linter.unusedSimpArgs false
namespace Go.Proofs.Ytmpbbodafenonaa
open Go Go.Proofs Go.RowKit Go.Shelf Go.Proofs.YtmpbbodafenonaaW.PrintWords

set_option maxHeartbeats 1000000 in
theorem mul64_any {x y : Nat} (hx' : Lm x) (hy' : Lm y) (w : World) :
    Calls Try.prog 92 #[.int .u64 x, .int .u64 y] w fun e w' => e = .returned (.tuple #[.int .u64 ((x * y / 18446744073709551616 : Nat) : Int), .int .u64 ((x * y % 18446744073709551616 : Nat) : Int)]) ∧ w = w' := by
  have hx : x < 18446744073709551616 := hx'
  have hy : y < 18446744073709551616 := hy'
  obtain ⟨bd, bt, bw, hhi⟩ := Lib.mul64_hi x y hx hy
  have ba := Lib.half_mul_le (a := x / 4294967296) (b := y / 4294967296) (by omega) (by omega)
  have bb := Lib.half_mul_le (a := x / 4294967296) (b := y % 4294967296) (by omega) (by omega)
  have bc := Lib.half_mul_le (a := x % 4294967296) (b := y / 4294967296) (by omega) (by omega)
  have ba' : x / 4294967296 * (y / 4294967296) < 18446744073709551616 := by omega
  have bb' : x / 4294967296 * (y % 4294967296) < 18446744073709551616 := by omega
  have bc' : x % 4294967296 * (y / 4294967296) < 18446744073709551616 := by omega
  have bh1 : x / 4294967296 * (y / 4294967296) + (x / 4294967296 * (y % 4294967296) + x % 4294967296 * (y % 4294967296) / 4294967296) / 4294967296 < 18446744073709551616 := by omega
  have bh : x / 4294967296 * (y / 4294967296) + (x / 4294967296 * (y % 4294967296) + x % 4294967296 * (y % 4294967296) / 4294967296) / 4294967296 + ((x / 4294967296 * (y % 4294967296) + x % 4294967296 * (y % 4294967296) / 4294967296) % 4294967296 + x % 4294967296 * (y / 4294967296)) / 4294967296 < 18446744073709551616 := by omega
  go_enter Try.func92, Try.ntmps92
  go_wp2
  simp only [Mul64.maskN x hx, Mul64.maskN y hy, Mul64.divN, Mul64.mulN, Mul64.addN, Mul64.wrapN _ bd, Mul64.wrapN _ bb', Mul64.wrapN _ bt, Mul64.maskN _ bt, Mul64.wrapN _ bc', Mul64.wrapN _ bw, Mul64.wrapN _ ba', Mul64.wrapN _ bh1, Mul64.wrapN _ bh, Mul64.wrapM (x * y)]
  rw [hhi]
  go_ret2
  exact ⟨rfl, rfl⟩

attribute [local go_sem high] eqA25
/-- Are four limbs none? -/
def noneB (a b c d : Int) : Bool := a == 0 && (b == 0 && (c == 0 && (d == 0)))
set_option maxHeartbeats 1000000 in
theorem none_any (a b c d : Int) (w : World) : Calls Try.prog 69 #[.agg #[.int .u64 a, .int .u64 b, .int .u64 c, .int .u64 d]] w fun e w' => e = .returned (.bool (noneB a b c d)) ∧ Below w.heap.size w w' := by
  go_enter Try.func69, Try.ntmps69
  go_wp2
  go_ret
  exact ⟨rfl, below_alloc (Below.refl _ _) _⟩
set_option maxHeartbeats 1000000 in
theorem of_any (m : Bool) (a b c d : Int) (w : World) : Calls Try.prog 67 #[.bool m, .agg #[.int .u64 a, .int .u64 b, .int .u64 c, .int .u64 d]] w fun e w' => e = .returned (.agg #[.bool (m && !noneB a b c d), .int .u64 a, .int .u64 b, .int .u64 c, .int .u64 d]) ∧ Below w.heap.size w w' := by
  cases m
  · go_enter Try.func67, Try.ntmps67
    go_wp2
    go_region
    go_wp2
    exact bodyPost_ret (v := .agg #[.bool false, .int .u64 a, .int .u64 b, .int .u64 c, .int .u64 d]) (by simp [results, Try.results67, go_sem]) rfl ⟨rfl, below_drew (below_alloc (below_alloc (Below.refl _ _) _) _)⟩
  · obtain ⟨z, hz⟩ : ∃ z, noneB a b c d = z := ⟨_, rfl⟩
    have hN := fun w => none_any a b c d w
    rw [hz] at hN
    rw [hz]
    have HN := Lib.hid hN
    clear hN hz
    go_enter Try.func67, Try.ntmps67
    go_wp2
    go_region_with (go_at_call 69; refine (HN.out _).mono ?_; rintro e w7 ⟨rfl, hB7⟩; obtain ⟨hc, hf⟩ := bcell hB7)
    all_goals go_wp2
    all_goals
      refine bodyPost_ret (v := .agg #[.bool (!z), .int .u64 a, .int .u64 b, .int .u64 c, .int .u64 d]) (by simp [results, Try.results67, go_sem, hc, hf]) rfl ⟨rfl, ?_⟩
      repeat (with_reducible first | apply below_drew | refine bset ?_ _ _ _ (by omega))
      refine Below.trans ?_ (hB7.mono (by simp; omega))
      repeat (with_reducible first | exact Below.refl _ _ | apply below_drew | apply below_alloc)
end Go.Proofs.Ytmpbbodafenonaa

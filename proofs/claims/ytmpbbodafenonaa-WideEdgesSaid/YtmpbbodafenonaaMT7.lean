/- A function of the given program told as a Lean function, its contract proved; no condition. -/
import Derived.Test.YtmpbbodafenonaaMT0
import Derived.Test.YtmpbbodafenonaaMT1
import Derived.Test.YtmpbbodafenonaaMT2
import Derived.Test.YtmpbbodafenonaaMT3
import Derived.Test.YtmpbbodafenonaaMT6
namespace Go.Proofs.Ytmpbbodafenonaa.MT
open Go.RowKit Go.Proofs.YtmpbbodafenonaaW.PrintWords Go.Proofs.YtmpbbodafenonaaW.PrintLast Go.Proofs.YtmpbbodafenonaaW.PrintMore
attribute [local go_sem] max2_int min2_int max_two min_two max_three min_three max_four min_four   -- for this text's walks alone
set_option linter.unusedVariables false
set_option linter.unusedSimpArgs false
/-! ### wide_Parse: given 31 -/
theorem spl_small {d : Int} (h0 : 0 ≤ d) (h1 : d < 18446744073709551616) : spl0 d = d ∧ spl1 d = 0 ∧ spl2 d = 0 ∧ spl3 d = 0 := by
  unfold spl0 spl1 spl2 spl3; omega
theorem u4_spl (v : Int) : u4 (spl0 v) (spl1 v) (spl2 v) (spl3 v) = true := u4_iff.2 ⟨spl0_U v, spl1_U v, spl2_U v, spl3_U v⟩
theorem none_spl {v : Int} (h0 : 0 ≤ v) (h1 : v < top4) : wide_none.f (spl0 v) (spl1 v) (spl2 v) (spl3 v) = some (decide (v = 0)) := by
  show some (noneB (spl0 v) (spl1 v) (spl2 v) (spl3 v)) = _
  rw [noneB_iff (spl0_U v) (spl1_U v) (spl2_U v) (spl3_U v), val4_spl h0 h1]
theorem of_spl (m : Bool) {v : Int} (h0 : 0 ≤ v) (h1 : v < top4) : wide_of.f m (spl0 v) (spl1 v) (spl2 v) (spl3 v) = some (m && !decide (v = 0), spl0 v, spl1 v, spl2 v, spl3 v) := by
  unfold wide_of.f
  rw [none_spl h0 h1]
  cases m <;> rfl
theorem Of_nonneg {d : Int} (h0 : 0 ≤ d) (h1 : d ≤ 9223372036854775807) : wide_Of.f d = some (false, spl0 d, spl1 d, spl2 d, spl3 d) := by
  obtain ⟨e0, e1, e2, e3⟩ := spl_small h0 (by omega)
  have hw : IntKind.u64.wrap d = spl0 d := by
    have h : IntKind.u64.wrap d = d % 18446744073709551616 := rfl
    rw [h]; rfl
  have h := of_spl false h0 (by unfold top4; omega)
  rw [e1, e2, e3] at h
  unfold wide_Of.f
  rw [if_neg (by omega), hw, h, e1, e2, e3]
  rfl
theorem add_plus {u v : Int} (hu0 : 0 ≤ u) (hu1 : u < top4) (hv0 : 0 ≤ v) (hv1 : v < top4) :
    wide_add.f false (spl0 u) (spl1 u) (spl2 u) (spl3 u) false (spl0 v) (spl1 v) (spl2 v) (spl3 v) = some (false, spl0 ((u + v) % top4), spl1 ((u + v) % top4), spl2 ((u + v) % top4), spl3 ((u + v) % top4), decide (u + v < top4)) := by
  have hp : wide_plus.f (spl0 u) (spl1 u) (spl2 u) (spl3 u) (spl0 v) (spl1 v) (spl2 v) (spl3 v) = some (spl0 ((u + v) % top4), spl1 ((u + v) % top4), spl2 ((u + v) % top4), spl3 ((u + v) % top4), decide (u + v < top4)) := by
    show wide_plus_f _ _ _ _ _ _ _ _ = _
    unfold wide_plus_f
    rw [if_pos ⟨u4_spl u, u4_spl v⟩, val4_spl hu0 hu1, val4_spl hv0 hv1]
  obtain ⟨m0, m1⟩ := top_mod (u + v)
  unfold wide_add.f
  rw [if_pos (by rfl), hp]
  simp only [Option.bind_some]
  rw [of_spl false m0 m1]
  rfl
theorem parse_calls : ParseCalls := by
  refine ⟨?_, ?_, ?_, ?_⟩
  · intro x d w hx h0 h1
    subst hx
    exact wide_Of.calls x _ _ _ _ _ w (Of_nonneg h0 (by omega))
  · intro v w h0 h1
    refine wide_mul_c false _ _ _ _ false _ _ _ _ _ _ _ _ _ _ w ?_
    unfold wide_mul_f
    rw [if_pos ⟨u4_spl v, u4_spl 10⟩, val4_spl h0 h1, val4_spl (by decide) (by decide)]
    rfl
  · intro v d w h0 h1 h2 h3
    exact wide_add.calls false _ _ _ _ false _ _ _ _ _ _ _ _ _ _ w (add_plus h0 h1 h2 (by unfold top4; omega))
  · intro m v w h0 h1
    exact wide_of.calls m _ _ _ _ _ _ _ _ _ w (of_spl m h0 h1)
/-- A text that begins neither with a sign nor with a nought. -/
def plusOk (a0 : ByteArray) : Bool := decide (0 < a0.size) && (decide (a0.size ≤ 9223372036854775807) && (!(bt a0 0 == 45) && !(bt a0 0 == 48)))
def wide_Parse.f (a0 : ByteArray) : Option (Bool × Int × Int × Int × Int × Int) := if plusOk a0 = true then some (wparseS (bytesOf a0)) else none
theorem wide_Parse.calls (a0 : ByteArray) (r1 : Bool) (r2 : Int) (r3 : Int) (r4 : Int) (r5 : Int) (r6 : Int) (w : World) (h : wide_Parse.f a0 = some (r1, r2, r3, r4, r5, r6)) :
    Calls Try.prog 31 #[.string a0] w fun e w' => e = .returned (.tuple #[.agg #[.bool r1, .int .u64 r2, .int .u64 r3, .int .u64 r4, .int .u64 r5], .int .i64 r6]) ∧ Below w.heap.size w w' := by
  unfold wide_Parse.f at h
  split at h
  · rename_i hc
    have h2 := Option.some.inj h
    unfold plusOk at hc
    simp only [Bool.and_eq_true, decide_eq_true_eq, Bool.not_eq_true'] at hc
    obtain ⟨h0, h1, h45, h48⟩ := hc
    have hb : bt a0 0 = ((a0[0]'h0).toNat : Int) := by
      unfold bt
      rw [dif_pos (show (0 : Int).toNat < a0.size from h0)]
      rfl
    rw [hb] at h45 h48
    refine (parse_plus (Lib.hid parse_calls) a0 w h0 h1 h45 h48).mono ?_
    rintro e w' ⟨rfl, hb⟩
    rw [h2]
    exact ⟨rfl, hb⟩
  · cases h
end Go.Proofs.Ytmpbbodafenonaa.MT

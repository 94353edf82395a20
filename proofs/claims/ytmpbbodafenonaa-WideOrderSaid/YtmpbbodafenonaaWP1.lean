/- Plain words on the wide package's functions, on Of and (Num).Wide: what they say of whole numbers. -/
import Derived.Test.YtmpbbodafenonaaPNum2
import Derived.Test.YtmpbbodafenonaaMT0
import Derived.Test.YtmpbbodafenonaaMT11
import Derived.Test.YtmpbbodafenonaaMT18
import Derived.Test.YtmpbbodafenonaaMT24
import Derived.Test.YtmpbbodafenonaaMT27
import Derived.Test.YtmpbbodafenonaaMT7
set_option linter.unusedVariables false
set_option linter.unusedSimpArgs false
namespace Go.Proofs.Ytmpbbodafenonaa
open Go Go.RowKit Go.Proofs.Ytmpbbodafenonaa.MT Go.Proofs.YtmpbbodafenonaaW.PrintWords Go.Proofs.YtmpbbodafenonaaW.PrintLast

/-- A sign and a greatness, as a number. -/
def sv (m : Bool) (v : Int) : Int := if m then -v else v
theorem cmpC (x y : Int) : cmp_Compare_int.f x y = some (sgn (x - y)) := by
 unfold cmp_Compare_int.f cmp_isNaN_int.f sgn
 simp only [bne_self_eq_false, Option.bind_some, Bool.false_eq_true, if_false]
 (repeat' split) <;> first | rfl | omega
theorem sign_spl (m : Bool) {v : Int} (h0 : 0 ≤ v) (h1 : v < top4) : wide_Sign.f m (spl0 v) (spl1 v) (spl2 v) (spl3 v) = some (sgn (sv m v)) := by
 unfold wide_Sign.f
 rw [none_spl h0 h1]
 simp only [Option.bind_some]
 unfold sgn sv
 by_cases hv : v = 0
 ·rw [if_pos (decide_eq_true hv)]; subst hv; cases m <;> rfl
 ·rw [if_neg (by simpa using hv)]
  cases m <;> simp only [Bool.false_eq_true, if_false, if_true] <;> (repeat' split) <;> first | rfl | omega
theorem size_spl {u v : Int} (hu0 : 0 ≤ u) (hu1 : u < top4) (hv0 : 0 ≤ v) (hv1 : v < top4) : wide_size.f (spl0 u) (spl1 u) (spl2 u) (spl3 u) (spl0 v) (spl1 v) (spl2 v) (spl3 v) = some (sgn (u - v)) := by
 show wide_size_f _ _ _ _ _ _ _ _ = _
 unfold wide_size_f
 rw [if_pos ⟨u4_spl u, u4_spl v⟩, val4_spl hu0 hu1, val4_spl hv0 hv1]
 unfold cmpI sgn
 (repeat' split) <;> first | rfl | omega
theorem sgn_cases (z : Int) : sgn z = -1 ∧ z < 0 ∨ sgn z = 0 ∧ z = 0 ∨ sgn z = 1 ∧ 0 < z := by
 unfold sgn
 by_cases h : z < 0
 ·rw [if_pos h]; exact .inl ⟨rfl, h⟩
 ·rw [if_neg h]
  by_cases h2 : z = 0
  ·rw [if_pos h2]; exact .inr (.inl ⟨rfl, h2⟩)
  ·rw [if_neg h2]; exact .inr (.inr ⟨rfl, by omega⟩)
theorem cmp_spl (m n : Bool) {u v : Int} (hu0 : 0 ≤ u) (hu1 : u < top4) (hv0 : 0 ≤ v) (hv1 : v < top4) :
  Ev (fun k => wide_Cmp.f k m (spl0 u) (spl1 u) (spl2 u) (spl3 u) n (spl0 v) (spl1 v) (spl2 v) (spl3 v)) (sgn (sv m u - sv n v)) := by
 refine Ev.step (f := fun _ => some (sgn (sv m u - sv n v))) (g := fun k => wide_Cmp.f k m (spl0 u) (spl1 u) (spl2 u) (spl3 u) n (spl0 v) (spl1 v) (spl2 v) (spl3 v)) (fun k => ?_) (Ev.now _)
 unfold wide_Cmp.f
 rw [sign_spl m hu0 hu1, sign_spl n hv0 hv1]
 simp only [Option.bind_some]
 simp only [wide_Cmp.j0]
 rw [size_spl hu0 hu1 hv0 hv1, cmpC]
 simp only [Option.bind_some]
 have a := sgn_cases (sv m u)
 have b := sgn_cases (sv n v)
 have c := sgn_cases (u - v)
 have d := sgn_cases (sv m u - sv n v)
 by_cases e : sgn (sv m u) = sgn (sv n v)
 ·rw [if_pos e]
  by_cases z : sgn (sv m u) = 0
  ·rw [if_pos (by simpa using z)]
   have f := sgn_cases (sgn (sv m u) - sgn (sv n v))
   congr 1; omega
  ·rw [if_neg (by simpa using z)]
   have hmul : sgn (sv m u) * sgn (u - v) = sgn (sv m u - sv n v) := by
    unfold sv at a b d e z ⊢
    cases m <;> cases n <;> simp only [Bool.false_eq_true, if_false, if_true] at a b d e z ⊢
    ·have : sgn u = 1 := by omega
     rw [this]; omega
    ·omega
    ·omega
    ·have : sgn (-u) = -1 := by omega
     rw [this]; omega
   rw [hmul, w64 (by omega) (by omega)]
 ·rw [if_neg e, if_pos trivial]
  have f := sgn_cases (sgn (sv m u) - sgn (sv n v))
  congr 1; omega
theorem neg_spl (m : Bool) {v : Int} (h0 : 0 ≤ v) (h1 : v < top4) : wide_Neg.f m (spl0 v) (spl1 v) (spl2 v) (spl3 v) = some (!m && !decide (v = 0), spl0 v, spl1 v, spl2 v, spl3 v) := by
 unfold wide_Neg.f
 rw [of_spl _ h0 h1]
 rfl
end Go.Proofs.Ytmpbbodafenonaa

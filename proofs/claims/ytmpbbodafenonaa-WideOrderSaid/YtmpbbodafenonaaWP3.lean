/- Plain words on the wide package's sums of many, and on the document's. -/
import Derived.Test.YtmpbbodafenonaaWP2
import Derived.Test.YtmpbbodafenonaaWideSlice
import Derived.Test.YtmpbbodafenonaaMT0
import Derived.Test.YtmpbbodafenonaaMT30
import Derived.Test.YtmpbbodafenonaaMT6
set_option linter.unusedVariables false
set_option linter.unusedSimpArgs false
namespace Go.Proofs.Ytmpbbodafenonaa
open Go Go.RowKit Go.Proofs.Ytmpbbodafenonaa.MT Go.Proofs.YtmpbbodafenonaaW.PrintWords Go.Proofs.YtmpbbodafenonaaW.PrintLast

abbrev W6 : Type := Bool × Int × Int × Int × Int × Int
/-- A number as the program's, with no error; or that it lies beyond. -/
def resW : Option Int → W6
  | some z => (decide (z < 0), spl0 z.natAbs, spl1 z.natAbs, spl2 z.natAbs, spl3 z.natAbs, 0)
  | none => (false, 0, 0, 0, 0, 10)
def val27 (x : S27) : Int := sv x.f0 (val4 x.f1.f0 x.f1.f1 x.f1.f2 x.f1.f3)
/-- One by one, as far as none lies beyond. -/
def goOn (op : Int → Int → Int) : List Int → Int → Option Int
  | [], z => some z
  | a :: t, z => if ((op z a).natAbs : Int) < top4 then goOn op t (op z a) else none
theorem okS {x : S27} (h : OkS x) : ∃ v, 0 ≤ v ∧ v < top4 ∧ x.f1.f0 = spl0 v ∧ x.f1.f1 = spl1 v ∧ x.f1.f2 = spl2 v ∧ x.f1.f3 = spl3 v ∧ val27 x = sv x.f0 v :=
  ⟨val4 x.f1.f0 x.f1.f1 x.f1.f2 x.f1.f3, (val4_bound h.1 h.2.1 h.2.2.1 h.2.2.2).1, (val4_bound h.1 h.2.1 h.2.2.1 h.2.2.2).2, (spl_val4 h.1 h.2.1 h.2.2.1 h.2.2.2).1, (spl_val4 h.1 h.2.1 h.2.2.1 h.2.2.2).2.1, (spl_val4 h.1 h.2.1 h.2.2.1 h.2.2.2).2.2.1, (spl_val4 h.1 h.2.1 h.2.2.1 h.2.2.2).2.2.2, rfl⟩
theorem top4_pos : (0 : Int) < top4 := by decide
theorem less_spl {u v : Int} (hu0 : 0 ≤ u) (hu1 : u < top4) (hv0 : 0 ≤ v) (hv1 : v < top4) : wide_less.f (spl0 u) (spl1 u) (spl2 u) (spl3 u) (spl0 v) (spl1 v) (spl2 v) (spl3 v) = some (spl0 ((u - v) % top4), spl1 ((u - v) % top4), spl2 ((u - v) % top4), spl3 ((u - v) % top4)) := by
  show wide_less_f _ _ _ _ _ _ _ _ = _
  unfold wide_less_f
  rw [if_pos ⟨u4_spl u, u4_spl v⟩, val4_spl hu0 hu1, val4_spl hv0 hv1]
theorem plus_spl {u v : Int} (hu0 : 0 ≤ u) (hu1 : u < top4) (hv0 : 0 ≤ v) (hv1 : v < top4) : wide_plus.f (spl0 u) (spl1 u) (spl2 u) (spl3 u) (spl0 v) (spl1 v) (spl2 v) (spl3 v) = some (spl0 ((u + v) % top4), spl1 ((u + v) % top4), spl2 ((u + v) % top4), spl3 ((u + v) % top4), decide (u + v < top4)) := by
  show wide_plus_f _ _ _ _ _ _ _ _ = _
  unfold wide_plus_f
  rw [if_pos ⟨u4_spl u, u4_spl v⟩, val4_spl hu0 hu1, val4_spl hv0 hv1]
/-- Two of the program's numbers, one behind the other. -/
theorem add_spl (m n : Bool) {u v : Int} (hu0 : 0 ≤ u) (hu1 : u < top4) (hv0 : 0 ≤ v) (hv1 : v < top4) :
    (((sv m u + sv n v).natAbs : Int) < top4 → wide_add.f m (spl0 u) (spl1 u) (spl2 u) (spl3 u) n (spl0 v) (spl1 v) (spl2 v) (spl3 v) = some (decide (sv m u + sv n v < 0), spl0 (sv m u + sv n v).natAbs, spl1 (sv m u + sv n v).natAbs, spl2 (sv m u + sv n v).natAbs, spl3 (sv m u + sv n v).natAbs, true)) ∧
    (¬ ((sv m u + sv n v).natAbs : Int) < top4 → ∃ r1 r2 r3 r4 r5, wide_add.f m (spl0 u) (spl1 u) (spl2 u) (spl3 u) n (spl0 v) (spl1 v) (spl2 v) (spl3 v) = some (r1, r2, r3, r4, r5, false)) := by
  unfold wide_add.f
  by_cases e : m = n
  · subst e
    rw [if_pos (by simp), plus_spl hu0 hu1 hv0 hv1]
    simp only [Option.bind_some]
    have hm := top_mod (u + v)
    rw [of_spl m hm.1 hm.2]
    simp only [Option.bind_some]
    have ea : ((sv m u + sv m v).natAbs : Int) = u + v := by unfold sv; cases m <;> simp <;> omega
    rw [ea]
    constructor
    · intro h
      have e2 : decide (sv m u + sv m v < 0) = (m && !decide (u + v = 0)) := by
        unfold sv
        by_cases h0 : u + v = 0
        · rw [decide_eq_true h0]; cases m <;> simp <;> omega
        · rw [decide_eq_false h0]; cases m <;> simp <;> omega
      rw [Int.emod_eq_of_lt (by omega) h, decide_eq_true h, e2]
    · intro h
      exact ⟨_, _, _, _, _, by rw [decide_eq_false h]⟩
  · rw [if_neg (by simpa using e), size_spl hu0 hu1 hv0 hv1]
    simp only [Option.bind_some]
    have hs := sgn_cases (u - v)
    have ea : ((sv m u + sv n v).natAbs : Int) < top4 := by unfold sv; cases m <;> cases n <;> simp at e ⊢ <;> omega
    refine ⟨fun _ => ?_, fun h => absurd ea h⟩
    by_cases h : u < v
    · rw [if_pos (by omega), less_spl hv0 hv1 hu0 hu1]
      simp only [Option.bind_some]
      have hm : (v - u) % top4 = v - u := Int.emod_eq_of_lt (by omega) (by omega)
      have ez : ((sv m u + sv n v).natAbs : Int) = v - u := by unfold sv; cases m <;> cases n <;> simp at e ⊢ <;> omega
      have e2 : decide (sv m u + sv n v < 0) = (n && !decide (v - u = 0)) := by
        rw [decide_eq_false (show ¬ v - u = 0 by omega)]
        unfold sv; cases m <;> cases n <;> simp at e ⊢ <;> omega
      rw [hm, of_spl n (by omega) (by omega), ez, e2]
      rfl
    · rw [if_neg (by omega), less_spl hu0 hu1 hv0 hv1]
      simp only [Option.bind_some]
      have hm : (u - v) % top4 = u - v := Int.emod_eq_of_lt (by omega) (by omega)
      have ez : ((sv m u + sv n v).natAbs : Int) = u - v := by unfold sv; cases m <;> cases n <;> simp at e ⊢ <;> omega
      have e2 : decide (sv m u + sv n v < 0) = (m && !decide (u - v = 0)) := by
        by_cases h0 : u - v = 0
        · rw [decide_eq_true h0]; unfold sv; cases m <;> cases n <;> simp at e ⊢ <;> omega
        · rw [decide_eq_false h0]; unfold sv; cases m <;> cases n <;> simp at e ⊢ <;> omega
      rw [hm, of_spl m (by omega) (by omega), ez, e2]
      rfl
theorem sv_self (z : Int) : sv (decide (z < 0)) z.natAbs = z := by
  unfold sv
  by_cases h : z < 0
  · rw [decide_eq_true h]; simp; omega
  · rw [decide_eq_false h]; simp; omega
theorem rd_drop (l : List S27) (n : Nat) (h : n < l.length) : l.drop n = rd_T27 l (n : Int) :: l.drop (n + 1) := by
  rw [List.drop_eq_getElem_cons h]
  simp [rd_T27, h]
theorem rd_mem (l : List S27) (n : Nat) (h : n < l.length) : rd_T27 l (n : Int) ∈ l := by
  simp [rd_T27, h]
/-- The program's sums. -/
theorem wadd_loop (l : List S27) (hl : l.length ≤ 1000) (hok : ∀ x ∈ l, OkS x) : ∀ (d n : Nat), d = l.length - n → n ≤ l.length → ∀ z : Int, (z.natAbs : Int) < top4 →
    Ev (fun k => wide_Add.l0 k l (l.length : Int) (n : Int) (decide (z < 0)) (spl0 z.natAbs) (spl1 z.natAbs) (spl2 z.natAbs) (spl3 z.natAbs)) (resW (goOn (· + ·) ((l.drop n).map val27) z)) := by
  intro d
  induction d with
  | zero =>
    intro n hd hn z hz
    have e : n = l.length := by omega
    subst e
    refine Ev.step (f := fun _ => some (resW (some z))) (fun k => ?_) ?_
    · simp only [wide_Add.l0]
      rw [if_neg (by omega)]
      rfl
    · rw [List.drop_length]; exact Ev.now _
  | succ d ih =>
    intro n hd hn z hz
    have hlt : n < l.length := by omega
    obtain ⟨v, v0, v1, x0, x1, x2, x3, hv⟩ := okS (hok _ (rd_mem l n hlt))
    rw [rd_drop l n hlt, List.map_cons]
    obtain ⟨m1, m2⟩ := add_spl (decide (z < 0)) (rd_T27 l (n : Int)).f0 (show (0 : Int) ≤ z.natAbs by omega) hz v0 v1
    rw [sv_self] at m1 m2
    unfold goOn
    rw [hv]
    by_cases hf : ((z + sv (rd_T27 l (n : Int)).f0 v).natAbs : Int) < top4
    · rw [if_pos hf]
      refine Ev.step (f := fun k => wide_Add.l0 k l (l.length : Int) ((n + 1 : Nat) : Int) (decide (z + sv (rd_T27 l (n : Int)).f0 v < 0)) (spl0 (z + sv (rd_T27 l (n : Int)).f0 v).natAbs) (spl1 (z + sv (rd_T27 l (n : Int)).f0 v).natAbs) (spl2 (z + sv (rd_T27 l (n : Int)).f0 v).natAbs) (spl3 (z + sv (rd_T27 l (n : Int)).f0 v).natAbs)) (fun k => ?_) (ih (n + 1) (by omega) hlt _ hf)
      simp only [wide_Add.l0]
      rw [if_pos (by omega), if_pos (by omega), if_pos (by omega), x0, x1, x2, x3, m1 hf]
      simp only [Option.bind_some, if_true]
      rw [w64 (x := (n : Int) + 1) (by omega) (by omega)]
      rfl
    · rw [if_neg hf]
      obtain ⟨r1, r2, r3, r4, r5, hr⟩ := m2 hf
      refine Ev.step (f := fun _ => some (resW none)) (fun k => ?_) (Ev.now _)
      simp only [wide_Add.l0]
      rw [if_pos (by omega), if_pos (by omega), if_pos (by omega), x0, x1, x2, x3, hr]
      rfl
end Go.Proofs.Ytmpbbodafenonaa

/- The law WideDivs of the given program, as a plain statement on numbers of 256 bits, is proved at every input; no condition. -/
import Derived.Test.YtmpbbodafenonaaWDivs
import Derived.Test.YtmpbbodafenonaaPNum3
import Derived.Test.YtmpbbodafenonaaMT38
set_option linter.unusedVariables false
set_option linter.unusedSimpArgs false
namespace Go.Proofs.Ytmpbbodafenonaa
open Go Go.RowKit Go.Proofs.Ytmpbbodafenonaa.MT Go.Proofs.YtmpbbodafenonaaW.PrintWords Go.Proofs.YtmpbbodafenonaaW.PrintLast
theorem limbs_ {a b c d : Int} (h : U a ∧ U b ∧ U c ∧ U d) : ∃ v, 0 ≤ v ∧ v < top4 ∧ a = spl0 v ∧ b = spl1 v ∧ c = spl2 v ∧ d = spl3 v :=
  ⟨val4 a b c d, (val4_bound h.1 h.2.1 h.2.2.1 h.2.2.2).1, (val4_bound h.1 h.2.1 h.2.2.1 h.2.2.2).2, spl_val4 h.1 h.2.1 h.2.2.1 h.2.2.2⟩
theorem Ev.yes_ {α : Type} {c : Prop} [Decidable c] {f g : Nat → Option α} {r : α} (h : c) (k : Ev f r) : Ev (fun n => if c then f n else g n) r := by simpa only [if_pos h] using k
theorem Ev.no_ {α : Type} {c : Prop} [Decidable c] {f g : Nat → Option α} {r : α} (h : ¬ c) (k : Ev g r) : Ev (fun n => if c then f n else g n) r := by simpa only [if_neg h] using k
theorem Ev.got_ {α β : Type} {x : Option α} {a : α} {F : Nat → α → Option β} {r : β} (h : x = some a) (k : Ev (fun n => F n a) r) : Ev (fun n => x.bind (F n)) r := by subst h; exact k
theorem known_true_ : Ev (fun _ : Nat => (parquetlaw01_known.f).bind fun t => some t) true := Ev.now true
namespace Pure
theorem WideDivs (m : Bool) (a b c d : Int) (n : Bool) (e f g h : Int) (hu : U a ∧ U b ∧ U c ∧ U d) (hv : U e ∧ U f ∧ U g ∧ U h) : ∃ k, parquetlaw01_WideDivs.f k m a b c d n e f g h = some true := by
  obtain ⟨u, u0, u1, rfl, rfl, rfl, rfl⟩ := limbs_ hu
  obtain ⟨v, v0, v1, rfl, rfl, rfl, rfl⟩ := limbs_ hv
  obtain ⟨x, hx, hX⟩ := of_ev m u u0 u1
  obtain ⟨y, hy, hY⟩ := of_ev n v v0 v1
  have hsy := sign_eq hY
  have s1 := sgn_cases (sv n v)
  have hsv : sv n v = 0 ↔ v = 0 := by unfold sv; cases n <;> simp
  by_cases hz : v = 0
  · have hd : Ev (fun k => wide_DivMod.f k m (spl0 u) (spl1 u) (spl2 u) (spl3 u) n (spl0 v) (spl1 v) (spl2 v) (spl3 v)) (false, 0, 0, 0, 0, false, 0, 0, 0, 0, 2) := by
      refine Ev.congr (f := fun _ => some (false, 0, 0, 0, 0, false, 0, 0, 0, 0, 2)) (fun k => ?_) (Ev.now _)
      unfold wide_DivMod.f
      rw [none_spl v0 v1, decide_eq_true hz]
      rfl
    have hev : Ev (fun k => parquetlaw01_WideDivs.f k m (spl0 u) (spl1 u) (spl2 u) (spl3 u) n (spl0 v) (spl1 v) (spl2 v) (spl3 v)) true := by
      unfold parquetlaw01_WideDivs.f
      refine Ev.bind hd ?_
      refine Ev.bind hx ?_
      refine Ev.bind hy ?_
      refine Ev.got_ hsy ?_
      refine Ev.yes_ (by have := hsv.2 hz; omega) ?_
      refine Ev.yes_ (by decide) ?_
      refine Ev.yes_ (by decide) ?_
      exact Ev.yes_ (by trivial) known_true_
    exact hev.rounds
  · obtain ⟨s, q, r, q0, q1, r0, r1, hqr, hd⟩ := divmod_ev m n u0 u1 (v := v) (by omega) v1
    obtain ⟨z, hz2, hZ⟩ := of_ev false r r0 (by omega)
    obtain ⟨o, ho, hO⟩ := of_ev s q q0 q1
    have hrv : sv false r = r := rfl
    rw [hrv] at hZ
    obtain ⟨t, ht, hT⟩ := times_ev hO hY (by decide) (by decide)
    obtain ⟨p, hp, hP⟩ := plus_ev hT hZ (by decide) (by decide)
    rw [hqr] at hP
    have c1 := cmp_ev hP hX (by decide) (by decide)
    rw [Int.sub_self] at c1
    have hsz := sign_eq hZ
    have s2 := sgn_cases r
    have hj0 : ∀ (bb : Bool) (ll : List Int), NumP 16 bb ll v → Ev (fun k => parquetlaw01_WideDivs.j0 k 0 s (spl0 q) (spl1 q) (spl2 q) (spl3 q) x.1 x.2 y.1 y.2 z.1 z.2 bb ll) true := by
      intro bb ll hB
      have c2 := cmp_ev hZ hB (by decide) (by decide)
      have s3 := sgn_cases (r - v)
      refine Ev.step (f := fun k => (parquetref01_Of.f k s (spl0 q) (spl1 q) (spl2 q) (spl3 q)).bind fun bt761 => ((parquetref01_Num_Times.f k bt761.1 bt761.2 y.1 y.2).bind fun bt765 => ((parquetref01_Num_Plus.f k bt765.1 bt765.2 z.1 z.2).bind fun bt769 => (if (0 : Int) = 0 then ((parquetref01_Num_Cmp.f k bt769.1 bt769.2 x.1 x.2).bind fun t774 => (if t774 = 0 then ((parquetref01_Num_Sign.f z.1 z.2).bind fun t775 => (if t775 ≥ 0 then ((parquetref01_Num_Cmp.f k z.1 z.2 bb ll).bind fun t776 => (if t776 < 0 then ((parquetlaw01_known.f).bind fun t777 => (some t777)) else (some false))) else (some false))) else (some false))) else (some false))))) (fun k => rfl) ?_
      refine Ev.bind ho ?_
      refine Ev.bind ht ?_
      refine Ev.bind hp ?_
      refine Ev.yes_ rfl ?_
      refine Ev.bind c1 ?_
      refine Ev.yes_ rfl ?_
      refine Ev.got_ hsz ?_
      refine Ev.yes_ (by omega) ?_
      refine Ev.bind c2 ?_
      exact Ev.yes_ (by omega) known_true_
    have hev : Ev (fun k => parquetlaw01_WideDivs.f k m (spl0 u) (spl1 u) (spl2 u) (spl3 u) n (spl0 v) (spl1 v) (spl2 v) (spl3 v)) true := by
      unfold parquetlaw01_WideDivs.f
      refine Ev.bind hd ?_
      refine Ev.bind hx ?_
      refine Ev.bind hy ?_
      refine Ev.got_ hsy ?_
      refine Ev.no_ (by have := mt hsv.1 hz; omega) ?_
      refine Ev.no_ (show ¬ (0 : Int) = 10 by decide) ?_
      refine Ev.bind hz2 ?_
      refine Ev.got_ hsy ?_
      by_cases hneg : sgn (sv n v) < 0
      · refine Ev.yes_ hneg ?_
        obtain ⟨w, hw, hW⟩ := neg_eq hY
        refine Ev.got_ hw ?_
        refine hj0 w.1 w.2 ?_
        have : -sv n v = v := by unfold sv at s1 hneg ⊢; cases n <;> simp at s1 hneg ⊢ <;> omega
        rw [this] at hW
        exact hW
      · refine Ev.no_ hneg ?_
        refine hj0 y.1 y.2 ?_
        have : sv n v = v := by unfold sv at s1 hneg ⊢; cases n <;> simp at s1 hneg ⊢ <;> omega
        rw [this] at hY
        exact hY
    exact hev.rounds
end Pure
end Go.Proofs.Ytmpbbodafenonaa

/- The law WideCmps of the given program, as a plain statement on numbers of 256 bits, is proved at every input; no condition. -/
import Derived.Test.YtmpbbodafenonaaWP2
import Derived.Test.YtmpbbodafenonaaMT25
set_option linter.unusedVariables false
namespace Go.Proofs.Ytmpbbodafenonaa
open Go Go.RowKit Go.Proofs.Ytmpbbodafenonaa.MT Go.Proofs.YtmpbbodafenonaaW.PrintWords Go.Proofs.YtmpbbodafenonaaW.PrintLast
theorem limbs {a b c d : Int} (h : U a ∧ U b ∧ U c ∧ U d) : ∃ v, 0 ≤ v ∧ v < top4 ∧ a = spl0 v ∧ b = spl1 v ∧ c = spl2 v ∧ d = spl3 v :=
  ⟨val4 a b c d, (val4_bound h.1 h.2.1 h.2.2.1 h.2.2.2).1, (val4_bound h.1 h.2.1 h.2.2.1 h.2.2.2).2, spl_val4 h.1 h.2.1 h.2.2.1 h.2.2.2⟩
theorem Ev.yes {α : Type} {c : Prop} [Decidable c] {f g : Nat → Option α} {r : α} (h : c) (k : Ev f r) : Ev (fun n => if c then f n else g n) r := by simpa only [if_pos h] using k
theorem Ev.no {α : Type} {c : Prop} [Decidable c] {f g : Nat → Option α} {r : α} (h : ¬ c) (k : Ev g r) : Ev (fun n => if c then f n else g n) r := by simpa only [if_neg h] using k
theorem known_true : Ev (fun _ : Nat => (parquetlaw01_known.f).bind fun t => some t) true := Ev.now true
namespace Pure
theorem WideCmps (m : Bool) (a b c d : Int) (n : Bool) (e f g h : Int) (hu : U a ∧ U b ∧ U c ∧ U d) (hv : U e ∧ U f ∧ U g ∧ U h) : ∃ k, parquetlaw01_WideCmps.f k m a b c d n e f g h = some true := by
  obtain ⟨u, u0, u1, rfl, rfl, rfl, rfl⟩ := limbs hu
  obtain ⟨v, v0, v1, rfl, rfl, rfl, rfl⟩ := limbs hv
  obtain ⟨x, hx, hX⟩ := of_ev m u u0 u1
  obtain ⟨y, hy, hY⟩ := of_ev n v v0 v1
  have hc := cmp_ev hX hY (by decide) (by decide)
  have s1 := sgn_cases (sv m u - sv n v)
  have s2 := sgn_cases (sv n v - sv m u)
  have hw : sgn (sv n v - sv m u) = wrap64 (-sgn (sv m u - sv n v)) := by rw [w64 (by omega) (by omega)]; omega
  exact (Ev.bind hx (Ev.bind hy (Ev.bind hc (Ev.bind (cmp_spl m n u0 u1 v0 v1) (Ev.yes rfl (Ev.bind (cmp_spl n m v0 v1 u0 u1) (Ev.yes hw known_true))))))).rounds
end Pure
end Go.Proofs.Ytmpbbodafenonaa

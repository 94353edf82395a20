/- Plain words on a law's last steps. -/
import Derived.Test.YtmpbbodafenonaaWP3
import Derived.Test.YtmpbbodafenonaaMT9
set_option linter.unusedVariables false
set_option linter.unusedSimpArgs false
namespace Go.Proofs.Ytmpbbodafenonaa
open Go Go.RowKit Go.Proofs.Ytmpbbodafenonaa.MT Go.Proofs.YtmpbbodafenonaaW.PrintWords Go.Proofs.YtmpbbodafenonaaW.PrintLast
theorem limbs {a b c d : Int} (h : U a ∧ U b ∧ U c ∧ U d) : ∃ v, 0 ≤ v ∧ v < top4 ∧ a = spl0 v ∧ b = spl1 v ∧ c = spl2 v ∧ d = spl3 v :=
  ⟨val4 a b c d, (val4_bound h.1 h.2.1 h.2.2.1 h.2.2.2).1, (val4_bound h.1 h.2.1 h.2.2.1 h.2.2.2).2, spl_val4 h.1 h.2.1 h.2.2.1 h.2.2.2⟩
theorem Ev.yes {α : Type} {c : Prop} [Decidable c] {f g : Nat → Option α} {r : α} (h : c) (k : Ev f r) : Ev (fun n => if c then f n else g n) r := by simpa only [if_pos h] using k
theorem Ev.no {α : Type} {c : Prop} [Decidable c] {f g : Nat → Option α} {r : α} (h : ¬ c) (k : Ev g r) : Ev (fun n => if c then f n else g n) r := by simpa only [if_neg h] using k
theorem Ev.got {α β : Type} {x : Option α} {a : α} {F : Nat → α → Option β} {r : β} (h : x = some a) (k : Ev (fun n => F n a) r) : Ev (fun n => x.bind (F n)) r := by subst h; exact k
theorem known_true : Ev (fun _ : Nat => (parquetlaw01_known.f).bind fun t => some t) true := Ev.now true
end Go.Proofs.Ytmpbbodafenonaa

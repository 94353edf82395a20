/- The law WideTexts of the given program, as a plain statement on texts and numbers of 256 bits, is proved at every input; no condition. -/
import Derived.Test.YtmpbbodafenonaaWText2
import Derived.Test.YtmpbbodafenonaaWText3
import Derived.Test.YtmpbbodafenonaaMT29
set_option linter.unusedVariables false
set_option linter.unusedSimpArgs false
namespace Go.Proofs.Ytmpbbodafenonaa
open Go Go.RowKit Go.Proofs.Ytmpbbodafenonaa.MT Go.Proofs.YtmpbbodafenonaaW.PrintWords Go.Proofs.YtmpbbodafenonaaW.PrintLast
theorem limbs_ {a b c d : Int} (h : U a ∧ U b ∧ U c ∧ U d) : ∃ v, 0 ≤ v ∧ v < top4 ∧ a = spl0 v ∧ b = spl1 v ∧ c = spl2 v ∧ d = spl3 v :=
  ⟨val4 a b c d, (val4_bound h.1 h.2.1 h.2.2.1 h.2.2.2).1, (val4_bound h.1 h.2.1 h.2.2.1 h.2.2.2).2, spl_val4 h.1 h.2.1 h.2.2.1 h.2.2.2⟩
theorem Ev.yes_ {α : Type} {c : Prop} [Decidable c] {f g : Nat → Option α} {r : α} (h : c) (k : Ev f r) : Ev (fun n => if c then f n else g n) r := by simpa only [if_pos h] using k
theorem Ev.no_ {α : Type} {c : Prop} [Decidable c] {f g : Nat → Option α} {r : α} (h : ¬ c) (k : Ev g r) : Ev (fun n => if c then f n else g n) r := by simpa only [if_neg h] using k
theorem Ev.got_ {α β : Type} {x : Option α} {a : α} {F : Nat → α → Option β} {r : β} (h : x = some a) (k : Ev (fun n => F n a) r) : Ev (fun n => x.bind (F n)) r := by subst h; exact k
theorem known_true_ : Ev (fun _ : Nat => (parquetlaw01_known.f).bind fun t => some t) true := Ev.now true
namespace Pure
theorem WideTexts (s : ByteArray) (m : Bool) (a b c d : Int) (hs : s.size ≤ 140737488351232) (hu : U a ∧ U b ∧ U c ∧ U d) : ∃ k, parquetlaw01_WideTexts.f k s m a b c d = some true := by
  by_cases hl : (s.size : Int) > 300
  · exact (Ev.yes_ (f := fun _ => (parquetlaw01_known.f).bind fun t => some t) hl known_true_).rounds
  · obtain ⟨v, v0, v1, rfl, rfl, rfl, rfl⟩ := limbs_ hu
    have hp : wide_Parse.f s = some (wparseS (bytesOf s)) := by unfold wide_Parse.f; rw [if_pos (by omega)]
    have hr := rparse_ev s (by omega)
    obtain ⟨D, t, ht, hb, hC, hsz⟩ := wtext_ev m v0 v1
    have hq := parse_text v0 v1 hb hC hsz
    obtain ⟨y, hy, hY⟩ := of_ev m v v0 v1
    have habs : ((sv m v).natAbs : Int) = v := by unfold sv; split <;> omega
    have hw := wide_num hY (by decide) (by rw [habs]; exact v1)
    rw [habs] at hw
    obtain ⟨X, hX⟩ : ∃ X, wparseS (bytesOf s) = X := ⟨_, rfl⟩
    rw [hX] at hp hr
    have hev : Ev (fun k => parquetlaw01_WideTexts.f k s m (spl0 v) (spl1 v) (spl2 v) (spl3 v)) true := by
      unfold parquetlaw01_WideTexts.f
      refine Ev.no_ hl ?_
      refine Ev.got_ hp ?_
      refine Ev.bind hr ?_
      refine Ev.bind ht ?_
      refine Ev.got_ hq ?_
      refine Ev.bind hy ?_
      refine Ev.got_ hw ?_
      refine Ev.yes_ (by simp) ?_
      refine Ev.yes_ rfl ?_
      refine Ev.yes_ (by simp) ?_
      exact Ev.yes_ rfl known_true_
    exact hev.rounds
end Pure
end Go.Proofs.Ytmpbbodafenonaa

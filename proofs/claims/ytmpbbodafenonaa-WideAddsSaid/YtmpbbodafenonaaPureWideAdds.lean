/- The law WideAdds of the given program, as a plain statement on numbers of 256 bits, is proved at every input; no condition. -/
import Derived.Test.YtmpbbodafenonaaWP4
import Derived.Test.YtmpbbodafenonaaMT33
set_option linter.unusedVariables false
namespace Go.Proofs.Ytmpbbodafenonaa.Pure
open Go Go.RowKit Go.Proofs.Ytmpbbodafenonaa.MT Go.Proofs.YtmpbbodafenonaaW.PrintWords Go.Proofs.YtmpbbodafenonaaW.PrintLast
set_option maxRecDepth 100000 in
theorem WideAdds (l : List S27) (m : Bool) (a b c d : Int) (n : Bool) (e f g h : Int) (hok : ∀ x ∈ l, OkS x) (hu : U a ∧ U b ∧ U c ∧ U d) (hv : U e ∧ U f ∧ U g ∧ U h) : ∃ k, parquetlaw01_WideAdds.f k l m a b c d n e f g h = some true := by
  by_cases hl : (l.length : Int) > 200
  · exact (Ev.yes (f := fun _ => (parquetlaw01_known.f).bind fun t => some t) hl known_true).rounds
  · obtain ⟨u, u0, u1, rfl, rfl, rfl, rfl⟩ := limbs hu
    obtain ⟨v, v0, v1, rfl, rfl, rfl, rfl⟩ := limbs hv
    obtain ⟨y, hy, hY⟩ := of_ev n v v0 v1
    obtain ⟨r, hr, hR⟩ := neg_eq hY
    have hq := wide_num hR (by decide) (by rw [Int.natAbs_neg, sv_abs n v0]; exact v1)
    rw [sv_neg n v0, Int.natAbs_neg, sv_abs n v0] at hq
    have hs := sub_ev m n u0 u1 v0 v1
    have ha := radd_ev [mk27 m u, mk27 (!n && !decide (v = 0)) v] (by simp) (fun x hx => by
      simp only [List.mem_cons, List.not_mem_nil, or_false] at hx
      rcases hx with rfl | rfl
      · exact ok27 m u
      · exact ok27 _ v)
    have he : [mk27 m u, mk27 (!n && !decide (v = 0)) v].map val27 = [sv m u, -sv n v] := by
      simp only [List.map_cons, List.map_nil]
      rw [val_mk27 m u0 u1, val_mk27 _ v0 v1]
      have : sv (!n && !decide (v = 0)) v = -sv n v := by
        unfold sv
        by_cases h : v = 0
        · subst h; cases n <;> rfl
        · cases n <;> simp [h] <;> omega
      rw [this]
    rw [he] at ha
    have hA := add_ev l (by omega) hok
    have hB := radd_ev l (by omega) hok
    obtain ⟨X, hX⟩ : ∃ X, resW (goOn (· + ·) (l.map val27) 0) = X := ⟨_, rfl⟩
    obtain ⟨Y, hYY⟩ : ∃ Y, resW (goOn (· + ·) [sv m u, -sv n v] 0) = Y := ⟨_, rfl⟩
    rw [hX] at hA hB
    rw [hYY] at hs ha
    have hev : Ev (fun k => parquetlaw01_WideAdds.f k l m (spl0 u) (spl1 u) (spl2 u) (spl3 u) n (spl0 v) (spl1 v) (spl2 v) (spl3 v)) true := by
      unfold parquetlaw01_WideAdds.f
      refine Ev.no hl ?_
      refine Ev.bind hA ?_
      refine Ev.bind hB ?_
      refine Ev.bind hy ?_
      refine Ev.got hr ?_
      refine Ev.got hq ?_
      refine Ev.bind hs ?_
      refine Ev.bind ha ?_
      refine Ev.yes (by simp) ?_
      refine Ev.yes rfl ?_
      refine Ev.yes rfl ?_
      refine Ev.yes (by simp) ?_
      exact Ev.yes rfl known_true
    exact hev.rounds
end Go.Proofs.Ytmpbbodafenonaa.Pure

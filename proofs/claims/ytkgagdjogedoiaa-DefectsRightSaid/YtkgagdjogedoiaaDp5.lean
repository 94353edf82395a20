/- How places of a row turn, by their numbers; the places of a triangle are among some. -/
import Derived.Test.YtkgagdjogedoiaaDp3
import Derived.Test.YtkgagdjogedoiaaDp4
set_option linter.unusedVariables false
set_option linter.unusedSimpArgs false
namespace Go.Proofs.Ytkgagdjogedoiaa
open Go Go.RowKit Go.Proofs.Ytkgagdjogedoiaa.Fx Go.Proofs.YtkgagdjogedoiaaW.PrintWords
/-- The place of a number. -/
def atP (P : List (Int × Int)) (i : Int) : Int × Int := (P[i.toNat]?).getD (0, 0)
def oP (P : List (Int × Int)) (a b c : Int) : Int := oriZ (atP P a).1 (atP P a).2 (atP P b).1 (atP P b).2 (atP P c).1 (atP P c).2
theorem oP_ori (P : List (Int × Int)) : Ori (oP P) := ⟨fun a b c => ori_cyc _ _ _ _ _ _, fun a b c => by
  unfold oP
  rw [← ori_cyc (atP P a).1, ori_flip, ← ori_cyc (atP P b).1, ← ori_cyc (atP P c).1], fun a b c => ori_one _ _ _ _ _ _⟩
theorem atP_of {P : List (Int × Int)} {k : Nat} {p : Int × Int} (h : P[k]? = some p) : atP P k = p := by unfold atP; rw [Int.toNat_natCast, h]; rfl
/-- A number that is a place's. -/
def InP (P : List (Int × Int)) (a : Int) : Prop := ∃ (u : Nat) (p : Int × Int), a = u ∧ P[u]? = some p
theorem inP {P : List (Int × Int)} {a : Int} (h : 0 ≤ a ∧ a < P.length) : InP P a := by
  obtain ⟨u, rfl⟩ := Int.eq_ofNat_of_zero_le h.1
  exact ⟨u, _, rfl, List.getElem?_eq_getElem (by omega)⟩
theorem inP_lt {P : List (Int × Int)} {a : Int} (h : InP P a) : 0 ≤ a ∧ a < P.length := by
  obtain ⟨u, p, rfl, hu⟩ := h
  have := (List.getElem?_eq_some_iff.1 hu).1
  omega
theorem oP_at {P : List (Int × Int)} {a b c : Int} {u v w : Nat} {p q r : Int × Int} (ha : a = u) (hb : b = v) (hc : c = w) (hp : P[u]? = some p) (hq : P[v]? = some q) (hr : P[w]? = some r) : oriZ p.1 p.2 q.1 q.2 r.1 r.2 = oP P a b c := by
  subst ha hb hc
  unfold oP
  rw [atP_of hp, atP_of hq, atP_of hr]
theorem miss_succ {α : Type} {q : α → Prop} {l : List α} {k : Nat} {t : α} (h : l[k]? = some t) (hn : ¬ q t) (hi : ∀ x ∈ l.take k, ¬ q x) : ∀ x ∈ l.take (k + 1), ¬ q x := fun x hx => by
  rw [take_succ' h, List.mem_append, List.mem_singleton] at hx
  rcases hx with hx | rfl
  · exact hi x hx
  · exact hn
end Go.Proofs.Ytkgagdjogedoiaa

/- The document's check of a mesh; walked. -/
import Derived.Test.YtkgagdjogedoiaaDf5
import Derived.Test.YtkgagdjogedoiaaDp6
set_option linter.unusedVariables false
set_option linter.unusedSimpArgs false
namespace Go.Proofs.Ytkgagdjogedoiaa
open Go Go.RowKit Go.Proofs.Ytkgagdjogedoiaa.Fx Go.Proofs.YtkgagdjogedoiaaW.PrintWords
theorem tG : Try.prog.eqGuardType Try.prog.depth 42 = false := by kernel_rfl
theorem eqTr (s u : Int × Int × Int) (W : World) : (Op.equalIn 10000 42 (trv s) (trv u)).run Try.prog W = .ok (s.1 == u.1 && (s.2.1 == u.2.1 && s.2.2 == u.2.2)) W := by
  rw [show (10000 : Nat) = 9998 + 2 from rfl]
  refine eqA_of Try.underlying42 (by kernel_rfl) ?_
  refine eqf_cons (by rfl) (by go_simp; rfl) (by go_simp; rfl) (by go_simp) ?_
  refine eqf_cons (by rfl) (by go_simp; rfl) (by go_simp; rfl) (by go_simp) ?_
  exact eqf_last (by rfl) (by go_simp; rfl) (by go_simp; rfl) (by go_simp)
theorem tr_ne {u t : Int × Int × Int} (h : u ≠ t) : (!(u.1 == t.1 && (u.2.1 == t.2.1 && u.2.2 == t.2.2))) = true := by
  rw [Bool.not_eq_true']
  refine Bool.eq_false_iff.2 fun h' => h ?_
  simp only [Bool.and_eq_true, beq_iff_eq] at h'
  exact Prod.ext h'.1 (Prod.ext h'.2.1 h'.2.2)
theorem tr_eq (t : Int × Int × Int) : (!(t.1 == t.1 && (t.2.1 == t.2.1 && t.2.2 == t.2.2))) = false := by simp
theorem fn_Tri' {P : List (Int × Int)} {a b c : Int} {u : Int × Int × Int} {r : Bool} (hl : P.length ≤ 1000000) (he : triR P.length (oP P) a b c = (u, r)) : FnC Try.prog 42 [pvec P, iv a, iv b, iv c] (.tup [.is (trv u), bv r]) := by
  have h := fn_Tri (P := P) (a := a) (b := b) (c := c) hl
  rw [he] at h
  exact h
theorem tri_cases (n : Nat) (o : Int → Int → Int → Int) (t : Int × Int × Int) : (∃ u, triR n o t.1 t.2.1 t.2.2 = (u, false)) ∨ (∃ u, u ≠ t ∧ triR n o t.1 t.2.1 t.2.2 = (u, true)) ∨ triR n o t.1 t.2.1 t.2.2 = (t, true) := by
  obtain ⟨u, b, he⟩ : ∃ u b, triR n o t.1 t.2.1 t.2.2 = (u, b) := ⟨_, _, rfl⟩
  cases b with
  | false => exact .inl ⟨u, he⟩
  | true =>
    by_cases h : u = t
    · exact .inr (.inr (h ▸ he))
    · exact .inr (.inl ⟨u, h, he⟩)
theorem prev_ways {α : Type} (R : α → α → Prop) {l : List α} {k : Nat} {t : α} (h : l[k]? = some t) : k = 0 ∨ (∃ (j : Nat) (s : α), k = j + 1 ∧ l[j]? = some s ∧ ¬ R s t) ∨ ∃ (j : Nat) (s : α), k = j + 1 ∧ l[j]? = some s ∧ R s t := by
  cases k with
  | zero => exact .inl rfl
  | succ j =>
    obtain ⟨s, hs⟩ : ∃ s, l[j]? = some s := ⟨_, List.getElem?_eq_getElem (by have := (List.getElem?_eq_some_iff.1 h).1; omega)⟩
    by_cases hr : R s t
    · exact .inr (.inr ⟨j, s, rfl, hs, hr⟩)
    · exact .inr (.inl ⟨j, s, rfl, hs, hr⟩)
theorem prev_zero {α : Type} {R : α → α → Prop} {l : List α} {k : Nat} {t : α} (hk : k = 0) : ∀ j s, k = j + 1 → l[j]? = some s → R s t := fun j s h => absurd h (by omega)
theorem prev_one {α : Type} {R : α → α → Prop} {l : List α} {k j : Nat} {s t : α} (hk : k = j + 1) (hs : l[j]? = some s) (hr : R s t) : ∀ j s, k = j + 1 → l[j]? = some s → R s t := fun j' s' h hs' => by
  obtain rfl : j' = j := by omega
  rw [hs] at hs'
  cases hs'
  exact hr
end Go.Proofs.Ytkgagdjogedoiaa

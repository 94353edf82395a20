/- The rings package: put, walked. -/
import Derived.Test.YtcifcohkjifadaaJx
import Derived.Test.YtcifcohkjifadaaRg1
set_option linter.unusedVariables false
set_option linter.unusedSimpArgs false
namespace Go.Proofs.Ytcifcohkjifadaa
open Go Go.RowKit Go.Proofs.Ytcifcohkjifadaa.Fx Go.Proofs.YtcifcohkjifadaaW.PrintWords
abbrev flat2 (l : List (Int × Int)) : List Value := (l.map sgc).flatten
theorem flat2_cons (s : Int × Int) (l : List (Int × Int)) : flat2 (s :: l) = ic s.1 :: ic s.2 :: flat2 l := rfl
theorem flat2_len (l : List (Int × Int)) : (flat2 l).length = l.length * 2 := by
  induction l with
  | nil => rfl
  | cons s l ih => simp at ih ⊢; omega
theorem flat2_0 : ∀ {l : List (Int × Int)} {k : Nat} {s : Int × Int}, l[k]? = some s → (flat2 l)[k * 2]? = some (ic s.1)
  | [], k, s, h => by simp at h
  | x :: l, 0, s, h => by simp at h; subst h; rfl
  | x :: l, k + 1, s, h => by
    have := flat2_0 (l := l) (k := k) (s := s) (by simpa using h)
    rw [show (k + 1) * 2 = k * 2 + 1 + 1 by omega, flat2_cons]
    simpa [flat2_cons] using this
theorem flat2_1 : ∀ {l : List (Int × Int)} {k : Nat} {s : Int × Int}, l[k]? = some s → (flat2 l)[k * 2 + 1]? = some (ic s.2)
  | [], k, s, h => by simp at h
  | x :: l, 0, s, h => by simp at h; subst h; rfl
  | x :: l, k + 1, s, h => by
    have := flat2_1 (l := l) (k := k) (s := s) (by simpa using h)
    rw [show (k + 1) * 2 + 1 = k * 2 + 1 + 1 + 1 by omega, flat2_cons]
    simpa [flat2_cons] using this
theorem flat2_set0 : ∀ {l : List (Int × Int)} {k : Nat} {s : Int × Int} {v : Int}, l[k]? = some s → (flat2 l).set (k * 2) (ic v) = flat2 (l.set k (v, s.2))
  | [], k, s, v, h => by simp at h
  | x :: l, 0, s, v, h => by simp at h; subst h; rfl
  | x :: l, k + 1, s, v, h => by
    have := flat2_set0 (l := l) (k := k) (s := s) (v := v) (by simpa using h)
    rw [show (k + 1) * 2 = k * 2 + 1 + 1 by omega, flat2_cons]
    simpa [flat2_cons] using this
theorem flat2_set1 : ∀ {l : List (Int × Int)} {k : Nat} {s : Int × Int} {v : Int}, l[k]? = some s → (flat2 l).set (k * 2 + 1) (ic v) = flat2 (l.set k (s.1, v))
  | [], k, s, v, h => by simp at h
  | x :: l, 0, s, v, h => by simp at h; subst h; rfl
  | x :: l, k + 1, s, v, h => by
    have := flat2_set1 (l := l) (k := k) (s := s) (v := v) (by simpa using h)
    rw [show (k + 1) * 2 + 1 = k * 2 + 1 + 1 + 1 by omega, flat2_cons]
    simpa [flat2_cons] using this
set_option maxRecDepth 100000 in
set_option maxHeartbeats 8000000 in
theorem fn_put {g cap n k : Nat} {xs : List (Int × Int)} {s : Int × Int} {v : Int} (hk : xs[k]? = some s) (ok : Nat → Prop) (W : World) (ob : Obj) (h1 : W.heap[g]? = some ob) (h2 : (HP.own 72 2 cap n (flat2 xs)).H ok ob W) :
    Calls Try.prog 27 [ptr g (k * 2), ic v].toArray W fun e W' => ∃ r, e = .returned r ∧ W.grownBy W' (some g) ∧ ∃ ob', W'.heap[g]? = some ob' ∧ (HP.own 72 2 cap n (flat2 (xs.set k (putP s v)))).H ok ob' W' := by
 refine WrC.of (N := 17) Try.func27 rfl rfl (Nat.le_of_ble_eq_true rfl) (fun W0 => ?_) ok W ob h1 h2
 refine Tr.rs [] (.k (mv .k (.b 2 rfl)) (.k (nilck .k (.g 0 rfl)) (.k (iaddr 0 .k arX (.g 1 rfl) rfl (by decide) rfl) (.k (ldn .k (.g 2 rfl) (.b 0 rfl) tyI (show (flat2 xs)[k * 2 + 0]? = _ from flat2_0 hk)) (.k (lt_ .k (.g 3 rfl) .c rfl) .n))))) [0, 1, 2, 3] [4] rfl rfl ?_
 refine Tr.cond 4 rfl (fun e8 => ?_) (fun e8 => ?_)
 ·
  rw [show putP s v = (v, s.2) from if_pos (of_decide_eq_true e8)]
  refine Tr.reg [(0, 4)] (.k (mv .k (.b 2 rfl)) (.k (mv .k (.b 3 rfl)) (.k (nilck .k (.g 0 rfl)) (.k (iaddr 0 .k arX (.g 2 rfl) rfl (by decide) rfl) (.k (sth1 .k (.g 3 rfl) (.b 0 rfl) (.g 1 rfl) szI rfl (by rw [flat2_len]; have := (List.getElem?_eq_some_iff.1 hk).1; omega) rfl (flat2_set0 hk)) .n))))) [1] [4] rfl rfl (end_wr 1 0 rfl rfl rfl)
 ·
  rw [show putP s v = (s.1, v) from if_neg (of_decide_eq_false e8)]
  refine Tr.reg [(0, 4)] (.k (mv .k (.b 2 rfl)) (.k (mv .k (.b 3 rfl)) (.k (nilck .k (.g 0 rfl)) (.k (iaddr 1 .k arX (.g 2 rfl) rfl (by decide) rfl) (.k (sth1 .k (.g 3 rfl) (.b 0 rfl) (.g 1 rfl) szI rfl (by rw [flat2_len]; have := (List.getElem?_eq_some_iff.1 hk).1; omega) rfl (flat2_set1 hk)) .n))))) [1] [4] rfl rfl (end_wr 1 0 rfl rfl rfl)
theorem flat2_two : ∀ {l : List (Int × Int)} {k : Nat} {s : Int × Int}, l[k]? = some s → ∀ (j : Nat) (u : Value), [ic s.1, ic s.2][j]? = some u → (flat2 l)[k * 2 + j]? = some u := fun {l k s} h j u hu => by
  match j, hu with
  | 0, hu => simp at hu; subst hu; exact flat2_0 h
  | 1, hu => simp at hu; subst hu; exact flat2_1 h
theorem fn_Deg_of {n : Int} {l : List (Int × Int)} {r : List Int × Int} (h : degR n l = r) (hl : l.length ≤ 100000) : FnC Try.prog 11 [iv n, svec l] (.tup [ivec r.1, iv r.2]) := h ▸ fn_Degrees n l hl
theorem fn_put' {g cap n k : Nat} {xs xs' : List (Int × Int)} {s : Int × Int} {v : Int} (hk : xs[k]? = some s) (he : xs.set k (putP s v) = xs') (ok : Nat → Prop) (W : World) (ob : Obj) (h1 : W.heap[g]? = some ob) (h2 : (HP.own 72 2 cap n (flat2 xs)).H ok ob W) :
    Calls Try.prog 27 [ptr g (k * 2), ic v].toArray W fun e W' => ∃ r, e = .returned r ∧ W.grownBy W' (some g) ∧ ∃ ob', W'.heap[g]? = some ob' ∧ (HP.own 72 2 cap n (flat2 xs')).H ok ob' W' := he ▸ fn_put hk ok W ob h1 h2
theorem flat2_setA : ∀ {l : List (Int × Int)} {k : Nat} {s : Int × Int}, k < l.length → (flat2 l).take (k * 2) ++ [ic s.1, ic s.2] ++ (flat2 l).drop (k * 2 + 2) = flat2 (l.set k s)
  | [], k, s, h => by simp at h
  | x :: l, 0, s, h => by simp [flat2_cons]
  | x :: l, k + 1, s, h => by
    have := flat2_setA (l := l) (k := k) (s := s) (by simpa using h)
    rw [show (k + 1) * 2 = k * 2 + 1 + 1 by omega, flat2_cons, List.set_cons_succ, flat2_cons, ← this]
    simp
theorem flat2_rep (m : Nat) (x : Int) : List.replicate (m * 2) (ic x) = flat2 (List.replicate m (x, x)) := by
  induction m with
  | zero => rfl
  | succ m ih => rw [show (m + 1) * 2 = m * 2 + 1 + 1 by omega, List.replicate_succ, List.replicate_succ, ih, List.replicate_succ, flat2_cons]
end Go.Proofs.Ytcifcohkjifadaa

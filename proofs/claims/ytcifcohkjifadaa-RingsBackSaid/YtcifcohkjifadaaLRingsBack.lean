/- RingsBack: rings' segments are found again as those rings; each place in them is in one, once; walked. -/
import Derived.Test.YtcifcohkjifadaaKn
import Derived.Test.YtcifcohkjifadaaSgRow
import Derived.Test.YtcifcohkjifadaaLx
import Derived.Test.YtcifcohkjifadaaRt4
set_option linter.unusedVariables false
set_option linter.unusedSimpArgs false
namespace Go.Proofs.Ytcifcohkjifadaa
open Go Go.RowKit Go.Proofs.Ytcifcohkjifadaa.Fx Go.Proofs.YtcifcohkjifadaaW.PrintWords
theorem fn_Rings_sm2 {n : Int} {l l' : List (Int × Int)} {r : List (List Int) × Int × Int} (e : ringsR n l = r) (h : Sm l l') (hl : l'.length ≤ 100000) : FnC Try.prog 13 [iv n, svec l'] (.tup [lvec r.1, iv (ringsR n l').2.1, iv r.2.2]) := by
  have := fn_Rings n l' hl
  rw [(ringsR_sm h n).1, (ringsR_sm h n).2, e] at this
  exact this
theorem fn_Deg_of3 {n : Int} {l : List (Int × Int)} {r : List Int × Int} (h : degR n l = r) (hl : l.length ≤ 100000) : FnC Try.prog 11 [iv n, svec l] (.tup [ivec r.1, iv r.2]) := h ▸ fn_Degrees n l hl
def cntN (s : List (Int × Int)) (x : Int × Int) : Nat := (s.map nrm).count x
theorem cntN_hit {s : List (Int × Int)} {k : Nat} {u : Int × Int} {x : Int × Int} (h : s[k]? = some u) (e : nrm u = x) : ((cntN (s.take k) x : Nat) : Int) + 1 = ((cntN (s.take (k + 1)) x : Nat) : Int) := by
  unfold cntN
  rw [take_succ' h, List.map_append, List.count_append]
  simp [e]
theorem cntN_miss {s : List (Int × Int)} {k : Nat} {u : Int × Int} {x : Int × Int} (h : s[k]? = some u) (e : nrm u ≠ x) : cntN (s.take (k + 1)) x = cntN (s.take k) x := by
  unfold cntN
  rw [take_succ' h, List.map_append, List.count_append]
  simp [e]
theorem cntN_le (s : List (Int × Int)) (x : Int × Int) (k : Nat) : cntN (s.take k) x ≤ s.length := by
  unfold cntN
  refine Nat.le_trans List.count_le_length ?_
  rw [List.length_map, List.length_take]
  omega
theorem cntN_one {m : Nat} {l s : List (Int × Int)} (T : Two m l) (h : Sm l s) {u : Int × Int} (hu : u ∈ l) : cntN s (nrm u) = 1 := by
  unfold cntN
  rw [← List.Perm.count_eq h]
  have hn : (l.map nrm).Nodup := by
    rw [List.nodup_iff_pairwise_ne, List.pairwise_iff_getElem]
    intro i j hi hj hij e
    rw [List.getElem_map, List.getElem_map] at e
    simp only [List.length_map] at hi hj
    exact T.S.once i j hij _ _ (List.getElem?_eq_getElem hi) (List.getElem?_eq_getElem hj) e
  rw [hn.count, if_pos (List.mem_map_of_mem hu)]
theorem pair_ways (u w : Int × Int) : ((u.1 == w.1 && u.2 == w.2) = true ∧ nrm u = nrm w) ∨ ((u.1 == w.1 && u.2 == w.2) = false ∧ (u.1 == w.2 && u.2 == w.1) = true ∧ nrm u = nrm w) ∨ ((u.1 == w.1 && u.2 == w.2) = false ∧ (u.1 == w.2 && u.2 == w.1) = false ∧ nrm u ≠ nrm w) := by
  obtain ⟨a, b⟩ := u
  obtain ⟨c, d⟩ := w
  simp only [ne_eq, nrm_eq, Bool.and_eq_true, beq_iff_eq, Bool.and_eq_false_iff, beq_eq_false_iff_ne]
  omega
def cntV (R : List (List Int)) (k : Nat) (q : List Int) (v : Int) : Nat := ((R.take k).flatten ++ q).count v
theorem cntV_hit {R : List (List Int)} {k : Nat} {q : List Int} {j : Nat} {x v : Int} (h : q[j]? = some x) (e : x = v) : ((cntV R k (q.take j) v : Nat) : Int) + 1 = ((cntV R k (q.take (j + 1)) v : Nat) : Int) := by
  unfold cntV
  rw [take_succ' h, ← List.append_assoc, List.count_append (l₁ := _ ++ _)]
  simp [e]
theorem cntV_miss {R : List (List Int)} {k : Nat} {q : List Int} {j : Nat} {x v : Int} (h : q[j]? = some x) (e : x ≠ v) : cntV R k (q.take (j + 1)) v = cntV R k (q.take j) v := by
  unfold cntV
  rw [take_succ' h, ← List.append_assoc, List.count_append (l₁ := _ ++ _)]
  simp [e]
theorem cntV_next {R : List (List Int)} {k : Nat} {q : List Int} {v : Int} (h : R[k]? = some q) : cntV R k q v = cntV R (k + 1) [] v := by
  unfold cntV
  rw [take_succ' h]
  simp
theorem cntV_le {R : List (List Int)} {k : Nat} {q : List Int} {v : Int} (h : R[k]? = some q) (j : Nat) : cntV R k (q.take j) v ≤ R.flatten.length := by
  unfold cntV
  refine Nat.le_trans List.count_le_length ?_
  have h1 : (R.take (k + 1)).flatten = (R.take k).flatten ++ q := by rw [take_succ' h]; simp
  have h2 : R.flatten = (R.take (k + 1)).flatten ++ (R.drop (k + 1)).flatten := by rw [← List.flatten_append, List.take_append_drop]
  rw [h2, h1]
  simp only [List.length_append, List.length_take]
  omega
theorem half_wrap {z : Int} (h : z = 0 ∨ z = 2) : IntKind.i64.wrap (z.tdiv 2) = z / 2 := by rcases h with rfl | rfl <;> rfl
set_option maxRecDepth 100000 in
set_option maxHeartbeats 8000000 in
theorem law_RingsBack (n : Int) (l : List (Int × Int)) : FnC Try.prog 8 [iv n, svec l] (bv true) := by
 refine FnC.of (N := 170) Try.func8 rfl rfl (Nat.le_of_ble_eq_true rfl) (fun w0 ok0 => ?_)
 refine Tr.rs [] (.k (asg .k .c) .n) [0, 1] [] rfl rfl ?_
 rcases (show n > 300 ∨ (¬ n > 300 ∧ (l.length : Int) > 150) ∨ (¬ n > 300 ∧ ¬ (l.length : Int) > 150) by omega) with h1 | ⟨h1, h2⟩ | ⟨h1, h2⟩
 ·
  refine Tr.seq (Tr.rs [] (.k (mv .k (.b 0 rfl)) (.k (gt_ .k (.g 0 rfl) .c (decide_eq_true h1)) (.k (mv .k (.g 1 rfl)) (.k (skp (.on (.g 2 rfl) rfl rfl)) (.k (skp (.on (.g 2 rfl) rfl rfl)) (.k (skp (.on (.g 2 rfl) rfl rfl)) (.k (pickT .k (.g 2 rfl) .c) .n))))))) [0, 1] [6] rfl rfl ?_)
  refine Tr.cond 2 rfl (fun _ => ?_) nofun
  refine Tr.rs [] (.k (cal .k Try.func10 rfl fn_known .n) (.k (asg .k (.g 0 rfl)) .n)) [] [1] rfl rfl ?_
  refine Tr.ret (end_tmp 0 rfl rfl)
 ·
  refine Tr.seq (Tr.rs [] (.k (mv .k (.b 0 rfl)) (.k (gt_ .k (.g 0 rfl) .c (decide_eq_false h1)) (.k (mv .k (.g 1 rfl)) (.k (mv (.on (.g 2 rfl) rfl rfl) (.b 1 rfl)) (.k (len_ (.on (.g 2 rfl) rfl rfl) rwS (.g 3 rfl) (by rw [List.length_map])) (.k (gt_ (.on (.g 2 rfl) rfl rfl) (.g 4 rfl) .c (decide_eq_true h2)) (.k (pickF .k (.g 2 rfl) (.g 5 rfl)) .n))))))) [0, 1] [6] rfl rfl ?_)
  refine Tr.cond 2 rfl (fun _ => ?_) nofun
  refine Tr.rs [] (.k (cal .k Try.func10 rfl fn_known .n) (.k (asg .k (.g 0 rfl)) .n)) [] [1] rfl rfl ?_
  refine Tr.ret (end_tmp 0 rfl rfl)
 ·
  refine Tr.seq (Tr.rs [] (.k (mv .k (.b 0 rfl)) (.k (gt_ .k (.g 0 rfl) .c (decide_eq_false h1)) (.k (mv .k (.g 1 rfl)) (.k (mv (.on (.g 2 rfl) rfl rfl) (.b 1 rfl)) (.k (len_ (.on (.g 2 rfl) rfl rfl) rwS (.g 3 rfl) (by rw [List.length_map])) (.k (gt_ (.on (.g 2 rfl) rfl rfl) (.g 4 rfl) .c (decide_eq_false h2)) (.k (pickF .k (.g 2 rfl) (.g 5 rfl)) .n))))))) [0, 1] [6] rfl rfl ?_)
  refine Tr.cond 2 rfl nofun (fun _ => ?_)
  refine Tr.skip (Nx.go (?_))
  rcases ring_ways n l with hA | ⟨m, rfl, hm, hok, hT | ⟨hT, hI | hI⟩⟩
  ·
   refine Tr.rs [] (.k (mv .k (.b 0 rfl)) (.k (mv .k (.b 1 rfl)) (.k (cal .k Try.func13 rfl (fn_Rings_of (ringsR_bad hA) (by omega)) (.k (.g 0 rfl) (.k (.g 1 rfl) .n))) (.k (mv .k (.g 2 rfl)) (.k (exx .k (.g 3 rfl) rfl) (.k (exx .k (.g 3 rfl) rfl) (.k (exx .k (.g 3 rfl) rfl) (.k (asg .k (.g 4 rfl)) (.k (asg .k (.g 5 rfl)) (.k (asg .k (.g 6 rfl)) .n)))))))))) [0, 1] [7, 8, 9] rfl rfl ?_
   refine Tr.seq (Tr.rs [] (.k (mv .k (.b 4 rfl)) (.k (ne_ .k (.g 0 rfl) .c rfl) .n)) [0, 1, 2, 3] [1] rfl rfl ?_)
   refine Tr.cond 4 rfl (fun _ => ?_) nofun
   refine Tr.rs [] (.k (mv .k (.b 2 rfl)) (.k (lenv .k rwL (.g 0 rfl) rfl) (.k (eq_ .k (.g 1 rfl) .c (show (_ == _) = true from rfl)) (.k (mv .k (.g 2 rfl)) (.k (cal (.on (.g 3 rfl) rfl rfl) Try.func10 rfl fn_known .n) (.k (pickT .k (.g 3 rfl) (.g 4 rfl)) (.k (asg .k (.g 5 rfl)) .n))))))) [] [6] rfl rfl ?_
   refine Tr.ret (end_tmp 0 rfl rfl)
  ·
   have hA := argBad_ok hm hok
   refine Tr.rs [] (.k (mv .k (.b 0 rfl)) (.k (mv .k (.b 1 rfl)) (.k (cal .k Try.func13 rfl (fn_Rings_of (ringsR_tw hA hT) (by omega)) (.k (.g 0 rfl) (.k (.g 1 rfl) .n))) (.k (mv .k (.g 2 rfl)) (.k (exx .k (.g 3 rfl) rfl) (.k (exx .k (.g 3 rfl) rfl) (.k (exx .k (.g 3 rfl) rfl) (.k (asg .k (.g 4 rfl)) (.k (asg .k (.g 5 rfl)) (.k (asg .k (.g 6 rfl)) .n)))))))))) [0, 1] [7, 8, 9] rfl rfl ?_
   refine Tr.seq (Tr.rs [] (.k (mv .k (.b 4 rfl)) (.k (ne_ .k (.g 0 rfl) .c rfl) .n)) [0, 1, 2, 3] [1] rfl rfl ?_)
   refine Tr.cond 4 rfl (fun _ => ?_) nofun
   refine Tr.rs [] (.k (mv .k (.b 2 rfl)) (.k (lenv .k rwL (.g 0 rfl) rfl) (.k (eq_ .k (.g 1 rfl) .c (show (_ == _) = true from rfl)) (.k (mv .k (.g 2 rfl)) (.k (cal (.on (.g 3 rfl) rfl rfl) Try.func10 rfl fn_known .n) (.k (pickT .k (.g 3 rfl) (.g 4 rfl)) (.k (asg .k (.g 5 rfl)) .n))))))) [] [6] rfl rfl ?_
   refine Tr.ret (end_tmp 0 rfl rfl)
  ·
   have hA := argBad_ok hm hok
   refine Tr.rs [] (.k (mv .k (.b 0 rfl)) (.k (mv .k (.b 1 rfl)) (.k (cal .k Try.func13 rfl (fn_Rings_of (ringsR_ix hA hT hI) (by omega)) (.k (.g 0 rfl) (.k (.g 1 rfl) .n))) (.k (mv .k (.g 2 rfl)) (.k (exx .k (.g 3 rfl) rfl) (.k (exx .k (.g 3 rfl) rfl) (.k (exx .k (.g 3 rfl) rfl) (.k (asg .k (.g 4 rfl)) (.k (asg .k (.g 5 rfl)) (.k (asg .k (.g 6 rfl)) .n)))))))))) [0, 1] [7, 8, 9] rfl rfl ?_
   refine Tr.seq (Tr.rs [] (.k (mv .k (.b 4 rfl)) (.k (ne_ .k (.g 0 rfl) .c rfl) .n)) [0, 1, 2, 3] [1] rfl rfl ?_)
   refine Tr.cond 4 rfl (fun _ => ?_) nofun
   refine Tr.rs [] (.k (mv .k (.b 2 rfl)) (.k (lenv .k rwL (.g 0 rfl) rfl) (.k (eq_ .k (.g 1 rfl) .c (show (_ == _) = true from rfl)) (.k (mv .k (.g 2 rfl)) (.k (cal (.on (.g 3 rfl) rfl rfl) Try.func10 rfl fn_known .n) (.k (pickT .k (.g 3 rfl) (.g 4 rfl)) (.k (asg .k (.g 5 rfl)) .n))))))) [] [6] rfl rfl ?_
   refine Tr.ret (end_tmp 0 rfl rfl)
  ·
   have hA := argBad_ok hm hok
   have hR := ringsR_ok hA hT hI
   have T := two_ok hok hT hI
   have hP := T.parts m (Nat.le_refl _)
   have hsm := hP.sm T
   have hRl := outF_len (nbF m l) (degs m l) m
   have hfl := outF_flat (nbF m l) (degs m l) m
   have hRr : ∀ r ∈ outF (nbF m l) (degs m l) m, r.length ≤ 9000000 := fun r hr => by have := outF_each _ _ m r hr; rw [nbF_len] at this; omega
   have hsl : l.length = (segsR (outF (nbF m l) (degs m l) m)).length := by have := List.Perm.length_eq hsm; simpa using this
   rw [nbF_len] at hfl
   have hfl2 : (outF (nbF m l) (degs m l) m).flatten.length ≤ 100000 := Nat.le_trans hfl (Nat.le_trans (Nat.mul_le_mul (show m ≤ 300 by omega) (show m + 1 ≤ 301 by omega)) (by decide))
   generalize outF (nbF m l) (degs m l) m = R at *
   have hRl : R.length ≤ 1000000 := by omega
   obtain ⟨s, hs⟩ : ∃ s, s = segsR R := ⟨_, rfl⟩
   rw [← hs] at hsm hsl
   refine Tr.rs [] (.k (mv .k (.b 0 rfl)) (.k (mv .k (.b 1 rfl)) (.k (cal .k Try.func13 rfl (fn_Rings_of hR (by omega)) (.k (.g 0 rfl) (.k (.g 1 rfl) .n))) (.k (mv .k (.g 2 rfl)) (.k (exx .k (.g 3 rfl) rfl) (.k (exx .k (.g 3 rfl) rfl) (.k (exx .k (.g 3 rfl) rfl) (.k (asg .k (.g 4 rfl)) (.k (asg .k (.g 5 rfl)) (.k (asg .k (.g 6 rfl)) .n)))))))))) [0, 1] [7, 8, 9] rfl rfl ?_
   refine Tr.seq (Tr.rs [] (.k (mv .k (.b 4 rfl)) (.k (ne_ .k (.g 0 rfl) .c rfl) .n)) [0, 1, 2, 3] [1] rfl rfl ?_)
   refine Tr.cond 4 rfl nofun (fun _ => ?_)
   refine Tr.skip (Nx.go (Tr.rs [] (.k (mv .k (.b 2 rfl)) (.k (cal .k Try.func23 rfl (fn_Segs R hRl (by rw [← hs]; omega)) (.k (.g 0 rfl) .n)) (.k (asg .k (.g 1 rfl)) .n))) [0, 1, 2, 3] [2] rfl rfl ?_))
   rw [← hs]
   refine Tr.rs [] (.k (mv .k (.b 0 rfl)) (.k (mv .k (.b 4 rfl)) (.k (cal .k Try.func13 rfl (fn_Rings_sm2 hR hsm (by omega)) (.k (.g 0 rfl) (.k (.g 1 rfl) .n))) (.k (mv .k (.g 2 rfl)) (.k (exx .k (.g 3 rfl) rfl) (.k (exx .k (.g 3 rfl) rfl) (.k (exx .k (.g 3 rfl) rfl) (.k (asg .k (.g 4 rfl)) (.k (asg .k (.g 5 rfl)) (.k (asg .k (.g 6 rfl)) .n)))))))))) [0, 1, 2, 3, 4] [7, 9] rfl rfl ?_
   refine Tr.rs [] (.k (mv .k (.b 0 rfl)) (.k (mv .k (.b 1 rfl)) (.k (cal .k Try.func11 rfl (fn_Deg_of3 (degR_ok hm hok) (by omega)) (.k (.g 0 rfl) (.k (.g 1 rfl) .n))) (.k (mv .k (.g 2 rfl)) (.k (exx .k (.g 3 rfl) rfl) (.k (exx .k (.g 3 rfl) rfl) (.k (asg .k (.g 4 rfl)) (.k (asg .k (.g 5 rfl)) .n)))))))) [0, 1, 2, 3, 4, 5, 6] [6, 7] rfl rfl ?_
   refine Tr.seq (Tr.rs [] (.k (mv .k (.b 3 rfl)) (.k (ne_ .k (.g 0 rfl) .c rfl) (.k (mv .k (.g 1 rfl)) (.k (mv (.on (.g 2 rfl) rfl rfl) (.b 6 rfl)) (.k (ne_ (.on (.g 2 rfl) rfl rfl) (.g 3 rfl) .c rfl) (.k (pickF .k (.g 2 rfl) (.g 4 rfl)) (.k (mv .k (.g 5 rfl)) (.k (mv (.on (.g 6 rfl) rfl rfl) (.b 8 rfl)) (.k (ne_ (.on (.g 6 rfl) rfl rfl) (.g 7 rfl) .c rfl) (.k (pickF .k (.g 6 rfl) (.g 8 rfl)) (.k (mv .k (.g 9 rfl)) (.k (mv (.on (.g 10 rfl) rfl rfl) (.b 2 rfl)) (.k (mv (.on (.g 10 rfl) rfl rfl) (.b 5 rfl)) (.k (cal (.on (.g 10 rfl) rfl rfl) Try.func16 rfl (decide_eq_true (Eq.refl R) ▸ fn_same R R (by omega) hRr) (.k (.g 11 rfl) (.k (.g 12 rfl) .n))) (.k (not_ (.on (.g 10 rfl) rfl rfl) (.g 13 rfl)) (.k (pickF .k (.g 10 rfl) (.g 14 rfl)) (.k (mv .k (.g 15 rfl)) (.k (mv (.on (.g 16 rfl) rfl rfl) (.b 4 rfl)) (.k (len_ (.on (.g 16 rfl) rfl rfl) rwS (.g 17 rfl) (by rw [List.length_map])) (.k (mv (.on (.g 16 rfl) rfl rfl) (.b 1 rfl)) (.k (len_ (.on (.g 16 rfl) rfl rfl) rwS (.g 19 rfl) (by rw [List.length_map])) (.k (ne_ (.on (.g 16 rfl) rfl rfl) (.g 18 rfl) (.g 20 rfl) (bne_eq_false_iff_eq.2 (by omega))) (.k (pickF .k (.g 16 rfl) (.g 21 rfl)) (.k (mv .k (.g 22 rfl)) (.k (mv (.on (.g 23 rfl) rfl rfl) (.b 7 rfl)) (.k (len_ (.on (.g 23 rfl) rfl rfl) rwI (.g 24 rfl) (by rw [List.length_map])) (.k (mv (.on (.g 23 rfl) rfl rfl) (.b 0 rfl)) (.k (ne_ (.on (.g 23 rfl) rfl rfl) (.g 25 rfl) (.g 26 rfl) (bne_eq_false_iff_eq.2 (by rw [degs_len]))) (.k (pickF .k (.g 23 rfl) (.g 27 rfl)) .n))))))))))))))))))))))))))))) [0, 1, 2, 4, 7] [28] rfl rfl ?_)
   refine Tr.cond 5 rfl nofun (fun _ => ?_)
   refine Tr.skip (Nx.go (Tr.seq (Tr.rs [] (.k (asg .k .c) .n) [0, 1, 2, 3, 4] [0] rfl rfl ?_)))
   refine Tr.block (?_)
   refine Tr.loop (fun n_ F_ => ∃ i : Nat, (i ≤ l.length) ∧ n_ = l.length - i ∧ F_ = [.s 0 (iv ((m : Nat) : Int)), .s 1 (svec l), .s 5 (lvec R), .s 8 (svec s), .s 12 (ivec (degs m l)), .s 14 (iv ((i : Nat) : Int))]) (l.length - 0) (F0 := [.s 0 (iv ((m : Nat) : Int)), .s 1 (svec l), .s 5 (lvec R), .s 8 (svec s), .s 12 (ivec (degs m l)), .s 14 (iv ((0 : Nat) : Int))]) ⟨0, Nat.zero_le _, rfl, rfl⟩ (Sub.all (.cons 0 rfl (.cons 1 rfl (.cons 2 rfl (.cons 3 rfl (.cons 4 rfl (.cons 5 rfl .nil))))))) (fun n_ F_ hI => ?_)
   obtain ⟨i, hinv, rfl, rfl⟩ := hI
   refine Tr.seq (Tr.rs [] (.k (mv .k (.b 5 rfl)) (.k (mv .k (.b 1 rfl)) (.k (len_ .k rwS (.g 1 rfl) (by rw [List.length_map])) (.k (lt_ .k (.g 0 rfl) (.g 2 rfl) rfl) .n)))) [0, 1, 2, 3, 4, 5] [3] rfl rfl ?_)
   refine Tr.cond 6 rfl (fun e91 => ?_) (fun e91 => ?_)
   ·
    have hi2 : i < l.length := by have := of_decide_eq_true e91; omega
    refine Tr.skip (Nx.go (Tr.seq (Tr.block (?_))))
    obtain ⟨w, p1⟩ : ∃ w, l[i]? = some w := ⟨_, List.getElem?_eq_getElem hi2⟩
    refine Tr.rs [] (.k (asg .k .c) .n) [0, 1, 2, 3, 4, 5] [0] rfl rfl ?_
    refine Tr.seq (Tr.rs [] (.k (asg .k .c) .n) [0, 1, 2, 3, 4, 5, 6] [0] rfl rfl ?_)
    refine Tr.block (?_)
    refine Tr.loop (fun n_ F_ => ∃ k : Nat, (k ≤ s.length) ∧ n_ = s.length - k ∧ F_ = [.s 0 (iv ((m : Nat) : Int)), .s 1 (svec l), .s 5 (lvec R), .s 8 (svec s), .s 12 (ivec (degs m l)), .s 14 (iv ((i : Nat) : Int)), .s 15 (iv ((cntN (s.take k) (nrm w) : Nat) : Int)), .s 16 (iv ((k : Nat) : Int))]) (s.length - 0) (F0 := [.s 0 (iv ((m : Nat) : Int)), .s 1 (svec l), .s 5 (lvec R), .s 8 (svec s), .s 12 (ivec (degs m l)), .s 14 (iv ((i : Nat) : Int)), .s 15 (iv ((cntN (s.take 0) (nrm w) : Nat) : Int)), .s 16 (iv ((0 : Nat) : Int))]) ⟨0, Nat.zero_le _, rfl, rfl⟩ (Sub.all (.cons 0 rfl (.cons 1 rfl (.cons 2 rfl (.cons 3 rfl (.cons 4 rfl (.cons 5 rfl (.cons 6 rfl (.cons 7 rfl .nil))))))))) (fun n_ F_ hI => ?_)
    obtain ⟨k, hkv, rfl, rfl⟩ := hI
    refine Tr.seq (Tr.rs [] (.k (mv .k (.b 7 rfl)) (.k (mv .k (.b 3 rfl)) (.k (len_ .k rwS (.g 1 rfl) (by rw [List.length_map])) (.k (lt_ .k (.g 0 rfl) (.g 2 rfl) rfl) .n)))) [0, 1, 2, 3, 4, 5, 6, 7] [3] rfl rfl ?_)
    refine Tr.cond 8 rfl (fun e97 => ?_) (fun e97 => ?_)
    ·
     have hk2 : k < s.length := by have := of_decide_eq_true e97; omega
     refine Tr.skip (Nx.go (Tr.seq (Tr.block (?_))))
     obtain ⟨u, p2⟩ : ∃ u, s[k]? = some u := ⟨_, List.getElem?_eq_getElem hk2⟩; have hle := cntN_le s (nrm w) k; rcases pair_ways u w with ⟨h1, h2⟩ | ⟨h1, h3, h2⟩ | ⟨h1, h3, h2⟩
     ·
      refine Tr.ds hmx [] (.k (mv .k (.b 3 rfl)) (.k (mv .k (.b 7 rfl)) (.k (idx_ .k rwS (.g 0 rfl) (.g 1 rfl) rfl (by rw [List.getElem?_map, p2]; rfl)) (.k (ld_at .k (.g 2 rfl) tyS rfl (show _ = sgv (_, _) from rfl)) (.k (mv .k (.b 1 rfl)) (.k (mv .k (.b 5 rfl)) (.k (idx_ .k rwS (.g 4 rfl) (.g 5 rfl) rfl (by rw [List.getElem?_map, p1]; rfl)) (.k (ld_at .k (.g 6 rfl) tyS rfl (show _ = sgv (_, _) from rfl)) (.k (eqS_ .k sG (.g 3 rfl) (.g 7 rfl) (eqSg _ _) h1) (.k (mv .k (.g 8 rfl)) (.k (skp (.on (.g 9 rfl) rfl rfl)) (.k (skp (.on (.g 9 rfl) rfl rfl)) (.k (skp (.on (.g 9 rfl) rfl rfl)) (.k (skp (.on (.g 9 rfl) rfl rfl)) (.k (skp (.on (.g 9 rfl) rfl rfl)) (.k (skp (.on (.g 9 rfl) rfl rfl)) (.k (skp (.on (.g 9 rfl) rfl rfl)) (.k (skp (.on (.g 9 rfl) rfl rfl)) (.k (skp (.on (.g 9 rfl) rfl rfl)) (.k (skp (.on (.g 9 rfl) rfl rfl)) (.k (skp (.on (.g 9 rfl) rfl rfl)) (.k (skp (.on (.g 9 rfl) rfl rfl)) (.k (skp (.on (.g 9 rfl) rfl rfl)) (.k (skp (.on (.g 9 rfl) rfl rfl)) (.k (skp (.on (.g 9 rfl) rfl rfl)) (.k (skp (.on (.g 9 rfl) rfl rfl)) (.k (pickT .k (.g 9 rfl) .c) .n))))))))))))))))))))))))))) [0, 1, 2, 3, 4, 5, 6, 7] [26] rfl rfl ?_
      refine Tr.cond 8 rfl (fun _ => ?_) nofun
      refine Tr.reg [(6, 2)] (.k (mv .k (.b 6 rfl)) (.k (add_ .k (.g 0 rfl) .c ((IntWalk.i64_in _ (by omega)).trans (cntN_hit p2 h2))) (.k (asg .k (.g 1 rfl)) .n))) [0, 1, 2, 3, 4, 5, 7] [2] rfl rfl (Nx.bkN (Nx.go (Tr.reg [(6, 2)] (.k (mv .k (.b 6 rfl)) (.k (add_ .k (.g 0 rfl) .c (show IntKind.i64.wrap ((k : Int) + 1) = ((k + 1 : Nat) : Int) by rw [IntWalk.i64_in _ (by omega)]; omega)) (.k (asg .k (.g 1 rfl)) .n))) [0, 1, 2, 3, 4, 5, 7] [2] rfl rfl (Nx.again (s.length - (k + 1)) (by omega) [.s 0 (iv ((m : Nat) : Int)), .s 1 (svec l), .s 5 (lvec R), .s 8 (svec s), .s 12 (ivec (degs m l)), .s 14 (iv ((i : Nat) : Int)), .s 15 (iv ((cntN (s.take (k + 1)) (nrm w) : Nat) : Int)), .s 16 (iv (((k + 1) : Nat) : Int))] ⟨(k + 1), (by omega), rfl, rfl⟩ (Sub.all (.cons 0 rfl (.cons 1 rfl (.cons 2 rfl (.cons 3 rfl (.cons 4 rfl (.cons 5 rfl (.cons 6 rfl (.cons 7 rfl .nil)))))))))))))
     ·
      refine Tr.ds hmx [] (.k (mv .k (.b 3 rfl)) (.k (mv .k (.b 7 rfl)) (.k (idx_ .k rwS (.g 0 rfl) (.g 1 rfl) rfl (by rw [List.getElem?_map, p2]; rfl)) (.k (ld_at .k (.g 2 rfl) tyS rfl (show _ = sgv (_, _) from rfl)) (.k (mv .k (.b 1 rfl)) (.k (mv .k (.b 5 rfl)) (.k (idx_ .k rwS (.g 4 rfl) (.g 5 rfl) rfl (by rw [List.getElem?_map, p1]; rfl)) (.k (ld_at .k (.g 6 rfl) tyS rfl (show _ = sgv (_, _) from rfl)) (.k (eqS_ .k sG (.g 3 rfl) (.g 7 rfl) (eqSg _ _) h1) (.k (mv .k (.g 8 rfl)) (.k (mv (.on (.g 9 rfl) rfl rfl) (.b 3 rfl)) (.k (mv (.on (.g 9 rfl) rfl rfl) (.b 7 rfl)) (.k (idx_ (.on (.g 9 rfl) rfl rfl) rwS (.g 10 rfl) (.g 11 rfl) rfl (by rw [List.getElem?_map, p2]; rfl)) (.k (ld_at (.on (.g 9 rfl) rfl rfl) (.g 12 rfl) tyS rfl (show _ = sgv (_, _) from rfl)) (.k (mv (.on (.g 9 rfl) rfl rfl) (.b 1 rfl)) (.k (mv (.on (.g 9 rfl) rfl rfl) (.b 5 rfl)) (.k (idx_ (.on (.g 9 rfl) rfl rfl) rwS (.g 14 rfl) (.g 15 rfl) rfl (by rw [List.getElem?_map, p1]; rfl)) (.k (fat (.on (.g 9 rfl) rfl rfl) (.g 16 rfl) aSB rfl) (.k (ldc_at (.on (.g 9 rfl) rfl rfl) (.g 17 rfl) tyI) (.k (mv (.on (.g 9 rfl) rfl rfl) (.b 1 rfl)) (.k (mv (.on (.g 9 rfl) rfl rfl) (.b 5 rfl)) (.k (idx_ (.on (.g 9 rfl) rfl rfl) rwS (.g 19 rfl) (.g 20 rfl) rfl (by rw [List.getElem?_map, p1]; rfl)) (.k (fat (.on (.g 9 rfl) rfl rfl) (.g 21 rfl) aSA rfl) (.k (ldc_at (.on (.g 9 rfl) rfl rfl) (.g 22 rfl) tyI) (.k (bld (.on (.g 9 rfl) rfl rfl) (.k (.g 18 rfl) (.k (.g 23 rfl) .n)) (bS _ _) (aS _ _)) (.k (eqS_ (.on (.g 9 rfl) rfl rfl) sG (.g 13 rfl) (.g 24 rfl) (eqSg _ _) h3) (.k (pickF .k (.g 9 rfl) (.g 25 rfl)) .n))))))))))))))))))))))))))) [0, 1, 2, 3, 4, 5, 6, 7] [26] rfl rfl ?_
      refine Tr.cond 8 rfl (fun _ => ?_) nofun
      refine Tr.reg [(6, 2)] (.k (mv .k (.b 6 rfl)) (.k (add_ .k (.g 0 rfl) .c ((IntWalk.i64_in _ (by omega)).trans (cntN_hit p2 h2))) (.k (asg .k (.g 1 rfl)) .n))) [0, 1, 2, 3, 4, 5, 7] [2] rfl rfl (Nx.bkN (Nx.go (Tr.reg [(6, 2)] (.k (mv .k (.b 6 rfl)) (.k (add_ .k (.g 0 rfl) .c (show IntKind.i64.wrap ((k : Int) + 1) = ((k + 1 : Nat) : Int) by rw [IntWalk.i64_in _ (by omega)]; omega)) (.k (asg .k (.g 1 rfl)) .n))) [0, 1, 2, 3, 4, 5, 7] [2] rfl rfl (Nx.again (s.length - (k + 1)) (by omega) [.s 0 (iv ((m : Nat) : Int)), .s 1 (svec l), .s 5 (lvec R), .s 8 (svec s), .s 12 (ivec (degs m l)), .s 14 (iv ((i : Nat) : Int)), .s 15 (iv ((cntN (s.take (k + 1)) (nrm w) : Nat) : Int)), .s 16 (iv (((k + 1) : Nat) : Int))] ⟨(k + 1), (by omega), rfl, rfl⟩ (Sub.all (.cons 0 rfl (.cons 1 rfl (.cons 2 rfl (.cons 3 rfl (.cons 4 rfl (.cons 5 rfl (.cons 6 rfl (.cons 7 rfl .nil)))))))))))))
     ·
      rw [← cntN_miss p2 h2]
      refine Tr.ds hmx [] (.k (mv .k (.b 3 rfl)) (.k (mv .k (.b 7 rfl)) (.k (idx_ .k rwS (.g 0 rfl) (.g 1 rfl) rfl (by rw [List.getElem?_map, p2]; rfl)) (.k (ld_at .k (.g 2 rfl) tyS rfl (show _ = sgv (_, _) from rfl)) (.k (mv .k (.b 1 rfl)) (.k (mv .k (.b 5 rfl)) (.k (idx_ .k rwS (.g 4 rfl) (.g 5 rfl) rfl (by rw [List.getElem?_map, p1]; rfl)) (.k (ld_at .k (.g 6 rfl) tyS rfl (show _ = sgv (_, _) from rfl)) (.k (eqS_ .k sG (.g 3 rfl) (.g 7 rfl) (eqSg _ _) h1) (.k (mv .k (.g 8 rfl)) (.k (mv (.on (.g 9 rfl) rfl rfl) (.b 3 rfl)) (.k (mv (.on (.g 9 rfl) rfl rfl) (.b 7 rfl)) (.k (idx_ (.on (.g 9 rfl) rfl rfl) rwS (.g 10 rfl) (.g 11 rfl) rfl (by rw [List.getElem?_map, p2]; rfl)) (.k (ld_at (.on (.g 9 rfl) rfl rfl) (.g 12 rfl) tyS rfl (show _ = sgv (_, _) from rfl)) (.k (mv (.on (.g 9 rfl) rfl rfl) (.b 1 rfl)) (.k (mv (.on (.g 9 rfl) rfl rfl) (.b 5 rfl)) (.k (idx_ (.on (.g 9 rfl) rfl rfl) rwS (.g 14 rfl) (.g 15 rfl) rfl (by rw [List.getElem?_map, p1]; rfl)) (.k (fat (.on (.g 9 rfl) rfl rfl) (.g 16 rfl) aSB rfl) (.k (ldc_at (.on (.g 9 rfl) rfl rfl) (.g 17 rfl) tyI) (.k (mv (.on (.g 9 rfl) rfl rfl) (.b 1 rfl)) (.k (mv (.on (.g 9 rfl) rfl rfl) (.b 5 rfl)) (.k (idx_ (.on (.g 9 rfl) rfl rfl) rwS (.g 19 rfl) (.g 20 rfl) rfl (by rw [List.getElem?_map, p1]; rfl)) (.k (fat (.on (.g 9 rfl) rfl rfl) (.g 21 rfl) aSA rfl) (.k (ldc_at (.on (.g 9 rfl) rfl rfl) (.g 22 rfl) tyI) (.k (bld (.on (.g 9 rfl) rfl rfl) (.k (.g 18 rfl) (.k (.g 23 rfl) .n)) (bS _ _) (aS _ _)) (.k (eqS_ (.on (.g 9 rfl) rfl rfl) sG (.g 13 rfl) (.g 24 rfl) (eqSg _ _) h3) (.k (pickF .k (.g 9 rfl) (.g 25 rfl)) .n))))))))))))))))))))))))))) [0, 1, 2, 3, 4, 5, 6, 7] [26] rfl rfl ?_
      refine Tr.cond 8 rfl nofun (fun _ => ?_)
      refine Tr.skip (Nx.bkN (Nx.go (Tr.reg [(7, 2)] (.k (mv .k (.b 7 rfl)) (.k (add_ .k (.g 0 rfl) .c (show IntKind.i64.wrap ((k : Int) + 1) = ((k + 1 : Nat) : Int) by rw [IntWalk.i64_in _ (by omega)]; omega)) (.k (asg .k (.g 1 rfl)) .n))) [0, 1, 2, 3, 4, 5, 6] [2] rfl rfl (Nx.again (s.length - (k + 1)) (by omega) [.s 0 (iv ((m : Nat) : Int)), .s 1 (svec l), .s 5 (lvec R), .s 8 (svec s), .s 12 (ivec (degs m l)), .s 14 (iv ((i : Nat) : Int)), .s 15 (iv ((cntN (s.take (k + 1)) (nrm w) : Nat) : Int)), .s 16 (iv (((k + 1) : Nat) : Int))] ⟨(k + 1), (by omega), rfl, rfl⟩ (Sub.all (.cons 0 rfl (.cons 1 rfl (.cons 2 rfl (.cons 3 rfl (.cons 4 rfl (.cons 5 rfl (.cons 6 rfl (.cons 7 rfl .nil)))))))))))))
    ·
     obtain rfl : k = s.length := by have := of_decide_eq_false e97; omega
     refine Tr.exit (Nx.thX (Nx.thX (Nx.bkX (Nx.go (?_)))))
     rw [List.take_length, cntN_one T hsm (List.mem_of_getElem? p1)]
     refine Tr.rs [] (.k (mv .k (.b 6 rfl)) (.k (ne_ .k (.g 0 rfl) .c rfl) .n)) [0, 1, 2, 3, 4, 5] [1] rfl rfl ?_
     refine Tr.cond 6 rfl nofun (fun _ => ?_)
     refine Tr.skip (Nx.bkN (Nx.go (Tr.reg [(5, 2)] (.k (mv .k (.b 5 rfl)) (.k (add_ .k (.g 0 rfl) .c (show IntKind.i64.wrap ((i : Int) + 1) = ((i + 1 : Nat) : Int) by rw [IntWalk.i64_in _ (by omega)]; omega)) (.k (asg .k (.g 1 rfl)) .n))) [0, 1, 2, 3, 4] [2] rfl rfl (Nx.again (l.length - (i + 1)) (by omega) [.s 0 (iv ((m : Nat) : Int)), .s 1 (svec l), .s 5 (lvec R), .s 8 (svec s), .s 12 (ivec (degs m l)), .s 14 (iv (((i + 1) : Nat) : Int))] ⟨(i + 1), (by omega), rfl, rfl⟩ (Sub.all (.cons 0 rfl (.cons 1 rfl (.cons 2 rfl (.cons 3 rfl (.cons 4 rfl (.cons 5 rfl .nil)))))))))))
   ·
    obtain rfl : i = l.length := by have := of_decide_eq_false e91; omega
    refine Tr.exit (Nx.thX (Nx.thX (Nx.bkX (Nx.go (Tr.seq (Tr.rs [] (.k (asg .k .c) .n) [0, 2, 4] [0] rfl rfl ?_))))))
    refine Tr.block (?_)
    refine Tr.loop (fun n_ F_ => ∃ v : Nat, (v ≤ m) ∧ n_ = m - v ∧ F_ = [.s 0 (iv ((m : Nat) : Int)), .s 5 (lvec R), .s 12 (ivec (degs m l)), .s 17 (iv ((v : Nat) : Int))]) (m - 0) (F0 := [.s 0 (iv ((m : Nat) : Int)), .s 5 (lvec R), .s 12 (ivec (degs m l)), .s 17 (iv ((0 : Nat) : Int))]) ⟨0, Nat.zero_le _, rfl, rfl⟩ (Sub.all (.cons 0 rfl (.cons 1 rfl (.cons 2 rfl (.cons 3 rfl .nil))))) (fun n_ F_ hI => ?_)
    obtain ⟨v, hinv, rfl, rfl⟩ := hI
    refine Tr.seq (Tr.rs [] (.k (mv .k (.b 3 rfl)) (.k (mv .k (.b 0 rfl)) (.k (lt_ .k (.g 0 rfl) (.g 1 rfl) rfl) .n))) [0, 1, 2, 3] [2] rfl rfl ?_)
    refine Tr.cond 4 rfl (fun e133 => ?_) (fun e133 => ?_)
    ·
     have hv2 : v < m := by have := of_decide_eq_true e133; omega
     refine Tr.skip (Nx.go (Tr.seq (Tr.block (Tr.rs [] (.k (asg .k .c) .n) [0, 1, 2, 3] [0] rfl rfl ?_))))
     refine Tr.seq (Tr.rs [] (.k (asg .k .c) .n) [0, 1, 2, 3, 4] [0] rfl rfl ?_)
     refine Tr.block (?_)
     refine Tr.loop (fun n_ F_ => ∃ k : Nat, (k ≤ R.length) ∧ n_ = R.length - k ∧ F_ = [.s 0 (iv ((m : Nat) : Int)), .s 5 (lvec R), .s 12 (ivec (degs m l)), .s 17 (iv ((v : Nat) : Int)), .s 18 (iv ((cntV R k [] ((v : Nat) : Int) : Nat) : Int)), .s 19 (iv ((k : Nat) : Int))]) (R.length - 0) (F0 := [.s 0 (iv ((m : Nat) : Int)), .s 5 (lvec R), .s 12 (ivec (degs m l)), .s 17 (iv ((v : Nat) : Int)), .s 18 (iv ((cntV R 0 [] ((v : Nat) : Int) : Nat) : Int)), .s 19 (iv ((0 : Nat) : Int))]) ⟨0, Nat.zero_le _, rfl, rfl⟩ (Sub.all (.cons 0 rfl (.cons 1 rfl (.cons 2 rfl (.cons 3 rfl (.cons 4 rfl (.cons 5 rfl .nil))))))) (fun n_ F_ hI => ?_)
     obtain ⟨k, hkv, rfl, rfl⟩ := hI
     refine Tr.seq (Tr.rs [] (.k (mv .k (.b 5 rfl)) (.k (mv .k (.b 1 rfl)) (.k (lenv .k rwL (.g 1 rfl) (by rw [List.length_map])) (.k (lt_ .k (.g 0 rfl) (.g 2 rfl) rfl) .n)))) [0, 1, 2, 3, 4, 5] [3] rfl rfl ?_)
     refine Tr.cond 6 rfl (fun e139 => ?_) (fun e139 => ?_)
     ·
      have hk2 : k < R.length := by have := of_decide_eq_true e139; omega
      refine Tr.skip (Nx.go (Tr.seq (Tr.block (?_))))
      obtain ⟨q, p1⟩ : ∃ q, R[k]? = some q := ⟨_, List.getElem?_eq_getElem hk2⟩
      have hql := hRr q (List.mem_of_getElem? p1)
      refine Tr.rs [] (.k (asg .k .c) .n) [0, 1, 2, 3, 4, 5] [0] rfl rfl ?_
      refine Tr.block (?_)
      refine Tr.loop (fun n_ F_ => ∃ j : Nat, (j ≤ q.length) ∧ n_ = q.length - j ∧ F_ = [.s 0 (iv ((m : Nat) : Int)), .s 5 (lvec R), .s 12 (ivec (degs m l)), .s 17 (iv ((v : Nat) : Int)), .s 18 (iv ((cntV R k (q.take j) ((v : Nat) : Int) : Nat) : Int)), .s 19 (iv ((k : Nat) : Int)), .s 20 (iv ((j : Nat) : Int))]) (q.length - 0) (F0 := [.s 0 (iv ((m : Nat) : Int)), .s 5 (lvec R), .s 12 (ivec (degs m l)), .s 17 (iv ((v : Nat) : Int)), .s 18 (iv ((cntV R k (q.take 0) ((v : Nat) : Int) : Nat) : Int)), .s 19 (iv ((k : Nat) : Int)), .s 20 (iv ((0 : Nat) : Int))]) ⟨0, Nat.zero_le _, rfl, rfl⟩ (Sub.all (.cons 0 rfl (.cons 1 rfl (.cons 2 rfl (.cons 3 rfl (.cons 4 rfl (.cons 5 rfl (.cons 6 rfl .nil)))))))) (fun n_ F_ hI => ?_)
      obtain ⟨j, hjv, rfl, rfl⟩ := hI
      refine Tr.seq (Tr.rs [] (.k (mv .k (.b 6 rfl)) (.k (mv .k (.b 1 rfl)) (.k (mv .k (.b 5 rfl)) (.k (idxv .k rwL (.g 1 rfl) (.g 2 rfl) rfl (by rw [List.getElem?_map, p1]; rfl)) (.k (ldv .k (.g 3 rfl) tyL) (.k (len_ .k rwI (.g 4 rfl) (by rw [List.length_map])) (.k (lt_ .k (.g 0 rfl) (.g 5 rfl) rfl) .n))))))) [0, 1, 2, 3, 4, 5, 6] [6] rfl rfl ?_)
      refine Tr.cond 7 rfl (fun e148 => ?_) (fun e148 => ?_)
      ·
       have hj2 : j < q.length := by have := of_decide_eq_true e148; omega
       refine Tr.skip (Nx.go (Tr.seq (Tr.block (?_))))
       obtain ⟨x, p2⟩ : ∃ x, q[j]? = some x := ⟨_, List.getElem?_eq_getElem hj2⟩; have hle := cntV_le (v := ((v : Nat) : Int)) p1 j; by_cases hxv : x = ((v : Nat) : Int)
       ·
        refine Tr.rs [] (.k (mv .k (.b 1 rfl)) (.k (mv .k (.b 5 rfl)) (.k (idxv .k rwL (.g 0 rfl) (.g 1 rfl) rfl (by rw [List.getElem?_map, p1]; rfl)) (.k (ldv .k (.g 2 rfl) tyL) (.k (mv .k (.b 6 rfl)) (.k (idx_ .k rwI (.g 3 rfl) (.g 4 rfl) rfl (by rw [List.getElem?_map, p2]; rfl)) (.k (ldc_at .k (.g 5 rfl) tyI) (.k (mv .k (.b 3 rfl)) (.k (eq_ .k (.g 6 rfl) (.g 7 rfl) (beq_iff_eq.2 hxv)) .n))))))))) [0, 1, 2, 3, 4, 5, 6] [8] rfl rfl ?_
        refine Tr.cond 7 rfl (fun _ => ?_) nofun
        refine Tr.reg [(4, 2)] (.k (mv .k (.b 4 rfl)) (.k (add_ .k (.g 0 rfl) .c ((IntWalk.i64_in _ (by omega)).trans (cntV_hit p2 hxv))) (.k (asg .k (.g 1 rfl)) .n))) [0, 1, 2, 3, 5, 6] [2] rfl rfl (Nx.bkN (Nx.go (Tr.reg [(5, 2)] (.k (mv .k (.b 5 rfl)) (.k (add_ .k (.g 0 rfl) .c (show IntKind.i64.wrap ((j : Int) + 1) = ((j + 1 : Nat) : Int) by rw [IntWalk.i64_in _ (by omega)]; omega)) (.k (asg .k (.g 1 rfl)) .n))) [0, 1, 2, 3, 4, 6] [2] rfl rfl (Nx.again (q.length - (j + 1)) (by omega) [.s 0 (iv ((m : Nat) : Int)), .s 5 (lvec R), .s 12 (ivec (degs m l)), .s 17 (iv ((v : Nat) : Int)), .s 18 (iv ((cntV R k (q.take (j + 1)) ((v : Nat) : Int) : Nat) : Int)), .s 19 (iv ((k : Nat) : Int)), .s 20 (iv (((j + 1) : Nat) : Int))] ⟨(j + 1), (by omega), rfl, rfl⟩ (Sub.all (.cons 0 rfl (.cons 1 rfl (.cons 2 rfl (.cons 3 rfl (.cons 5 rfl (.cons 4 rfl (.cons 6 rfl .nil))))))))))))
       ·
        rw [← cntV_miss (R := R) (k := k) p2 hxv]
        refine Tr.rs [] (.k (mv .k (.b 1 rfl)) (.k (mv .k (.b 5 rfl)) (.k (idxv .k rwL (.g 0 rfl) (.g 1 rfl) rfl (by rw [List.getElem?_map, p1]; rfl)) (.k (ldv .k (.g 2 rfl) tyL) (.k (mv .k (.b 6 rfl)) (.k (idx_ .k rwI (.g 3 rfl) (.g 4 rfl) rfl (by rw [List.getElem?_map, p2]; rfl)) (.k (ldc_at .k (.g 5 rfl) tyI) (.k (mv .k (.b 3 rfl)) (.k (eq_ .k (.g 6 rfl) (.g 7 rfl) (beq_eq_false_iff_ne.2 hxv)) .n))))))))) [0, 1, 2, 3, 4, 5, 6] [8] rfl rfl ?_
        refine Tr.cond 7 rfl nofun (fun _ => ?_)
        refine Tr.skip (Nx.bkN (Nx.go (Tr.reg [(6, 2)] (.k (mv .k (.b 6 rfl)) (.k (add_ .k (.g 0 rfl) .c (show IntKind.i64.wrap ((j : Int) + 1) = ((j + 1 : Nat) : Int) by rw [IntWalk.i64_in _ (by omega)]; omega)) (.k (asg .k (.g 1 rfl)) .n))) [0, 1, 2, 3, 4, 5] [2] rfl rfl (Nx.again (q.length - (j + 1)) (by omega) [.s 0 (iv ((m : Nat) : Int)), .s 5 (lvec R), .s 12 (ivec (degs m l)), .s 17 (iv ((v : Nat) : Int)), .s 18 (iv ((cntV R k (q.take (j + 1)) ((v : Nat) : Int) : Nat) : Int)), .s 19 (iv ((k : Nat) : Int)), .s 20 (iv (((j + 1) : Nat) : Int))] ⟨(j + 1), (by omega), rfl, rfl⟩ (Sub.all (.cons 0 rfl (.cons 1 rfl (.cons 2 rfl (.cons 3 rfl (.cons 4 rfl (.cons 5 rfl (.cons 6 rfl .nil))))))))))))
      ·
       obtain rfl : j = q.length := by have := of_decide_eq_false e148; omega
       refine Tr.exit (Nx.thX (Nx.thX (Nx.bkX (Nx.bkN (Nx.go (?_))))))
       rw [List.take_length, cntV_next p1]
       refine Tr.reg [(5, 2)] (.k (mv .k (.b 5 rfl)) (.k (add_ .k (.g 0 rfl) .c (show IntKind.i64.wrap ((k : Int) + 1) = ((k + 1 : Nat) : Int) by rw [IntWalk.i64_in _ (by omega)]; omega)) (.k (asg .k (.g 1 rfl)) .n))) [0, 1, 2, 3, 4] [2] rfl rfl (Nx.again (R.length - (k + 1)) (by omega) [.s 0 (iv ((m : Nat) : Int)), .s 5 (lvec R), .s 12 (ivec (degs m l)), .s 17 (iv ((v : Nat) : Int)), .s 18 (iv ((cntV R (k + 1) [] ((v : Nat) : Int) : Nat) : Int)), .s 19 (iv (((k + 1) : Nat) : Int))] ⟨(k + 1), (by omega), rfl, rfl⟩ (Sub.all (.cons 0 rfl (.cons 1 rfl (.cons 2 rfl (.cons 3 rfl (.cons 4 rfl (.cons 5 rfl .nil))))))))
     ·
      obtain rfl : k = R.length := by have := of_decide_eq_false e139; omega
      refine Tr.exit (Nx.thX (Nx.thX (Nx.bkX (Nx.go (?_)))))
      rw [show ((cntV R R.length [] ((v : Nat) : Int) : Nat) : Int) = cntE l v / 2 by unfold cntV; rw [List.take_length, List.append_nil]; exact hP.count T hv2]
      refine Tr.rs [] (.k (mv .k (.b 4 rfl)) (.k (mv .k (.b 2 rfl)) (.k (mv .k (.b 3 rfl)) (.k (idx_ .k rwI (.g 1 rfl) (.g 2 rfl) rfl (by rw [List.getElem?_map, degs_at hv2]; rfl)) (.k (ldc_at .k (.g 3 rfl) tyI) (.k (quo_ .k (.g 4 rfl) .c (by decide) (half_wrap (T.two v hv2))) (.k (ne_ .k (.g 0 rfl) (.g 5 rfl) (bne_eq_false_iff_eq.2 rfl)) .n))))))) [0, 1, 2, 3] [6] rfl rfl ?_
      refine Tr.cond 4 rfl nofun (fun _ => ?_)
      refine Tr.skip (Nx.bkN (Nx.go (Tr.reg [(3, 2)] (.k (mv .k (.b 3 rfl)) (.k (add_ .k (.g 0 rfl) .c (show IntKind.i64.wrap ((v : Int) + 1) = ((v + 1 : Nat) : Int) by rw [IntWalk.i64_in _ (by omega)]; omega)) (.k (asg .k (.g 1 rfl)) .n))) [0, 1, 2] [2] rfl rfl (Nx.again (m - (v + 1)) (by omega) [.s 0 (iv ((m : Nat) : Int)), .s 5 (lvec R), .s 12 (ivec (degs m l)), .s 17 (iv (((v + 1) : Nat) : Int))] ⟨(v + 1), (by omega), rfl, rfl⟩ (Sub.all (.cons 0 rfl (.cons 1 rfl (.cons 2 rfl (.cons 3 rfl .nil)))))))))
    ·
     obtain rfl : m = v := by have := of_decide_eq_false e133; omega
     refine Tr.exit (Nx.thX (Nx.thX (Nx.bkX (Nx.go (Tr.rs [] (.k (cal .k Try.func10 rfl fn_known .n) (.k (asg .k (.g 0 rfl)) .n)) [] [1] rfl rfl ?_)))))
     refine Tr.ret (end_tmp 0 rfl rfl)
theorem ringsBack_any (n : Int) (l : List (Int × Int)) (v : Value) (W : World) (w0 : (Lit.int .i64 n).wf = true) (h : (svec l).H (fun _ => True) v W) (w : ∀ x ∈ l, I64 x.1 ∧ I64 x.2) : Calls Try.prog 8 #[.int .i64 n, v] W fun e w' => e = .returned (.bool true) ∧ Below W.heap.size W w' :=
  FnC.go (vs := [.int .i64 n, v]) (law_RingsBack n l) W ⟨rfl, h, trivial⟩
end Go.Proofs.Ytcifcohkjifadaa

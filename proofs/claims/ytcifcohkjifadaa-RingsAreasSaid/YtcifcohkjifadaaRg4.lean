/- Rows of numbers, and rows of these, against each other; segments of rings; the document's Degrees, like, beside: walked. -/
import Derived.Test.YtcifcohkjifadaaRg3
import Derived.Test.YtcifcohkjifadaaRt
set_option linter.unusedVariables false
set_option linter.unusedSimpArgs false
namespace Go.Proofs.Ytcifcohkjifadaa
open Go Go.RowKit Go.Proofs.Ytcifcohkjifadaa.Fx Go.Proofs.YtcifcohkjifadaaW.PrintWords
theorem fn_Rings (n : Int) (l : List (Int × Int)) (hl : l.length ≤ 100000) : FnC Try.prog 13 [iv n, svec l] (.tup [lvec (ringsR n l).1, iv (ringsR n l).2.1, iv (ringsR n l).2.2]) :=
  fn_Rings0 n l hl (fun m e hok hT hI i hi h => (two_ok hok hT hI).back hi h)
set_option maxRecDepth 100000 in
set_option maxHeartbeats 8000000 in
theorem fn_SameInts (a b : List Int) (ha : a.length ≤ 9000000) : FnC Try.prog 15 [ivec a, ivec b] (bv (decide (a = b))) := by
 refine FnC.of (N := 26) Try.func15 rfl rfl (Nat.le_of_ble_eq_true rfl) (fun w0 ok0 => ?_)
 refine Tr.rs [] (.k (asg .k .c) .n) [0, 1] [] rfl rfl ?_
 by_cases hl : a.length = b.length
 ·
  refine Tr.seq (Tr.rs [] (.k (mv .k (.b 0 rfl)) (.k (len_ .k rwI (.g 0 rfl) (by rw [List.length_map])) (.k (mv .k (.b 1 rfl)) (.k (len_ .k rwI (.g 2 rfl) (by rw [List.length_map])) (.k (ne_ .k (.g 1 rfl) (.g 3 rfl) (bne_eq_false_iff_eq.2 (by omega))) .n))))) [0, 1] [4] rfl rfl ?_)
  refine Tr.cond 2 rfl nofun (fun _ => ?_)
  refine Tr.skip (Nx.go (Tr.seq (Tr.rs [] (.k (asg .k .c) .n) [0, 1] [0] rfl rfl ?_)))
  refine Tr.block (?_)
  refine Tr.loop (fun n_ F_ => ∃ k : Nat, (k ≤ a.length ∧ a.take k = b.take k) ∧ n_ = a.length - k ∧ F_ = [.s 0 (ivec a), .s 1 (ivec b), .s 5 (iv ((k : Nat) : Int))]) (a.length - 0) (F0 := [.s 0 (ivec a), .s 1 (ivec b), .s 5 (iv ((0 : Nat) : Int))]) ⟨0, ⟨Nat.zero_le _, rfl⟩, rfl, rfl⟩ (Sub.all (.cons 0 rfl (.cons 1 rfl (.cons 2 rfl .nil)))) (fun n_ F_ hI => ?_)
  obtain ⟨k, hinv, rfl, rfl⟩ := hI
  refine Tr.seq (Tr.rs [] (.k (mv .k (.b 2 rfl)) (.k (mv .k (.b 0 rfl)) (.k (len_ .k rwI (.g 1 rfl) (by rw [List.length_map])) (.k (lt_ .k (.g 0 rfl) (.g 2 rfl) rfl) .n)))) [0, 1, 2] [3] rfl rfl ?_)
  refine Tr.cond 3 rfl (fun e14 => ?_) (fun e14 => ?_)
  ·
   have hk2 : k < a.length := by have := of_decide_eq_true e14; omega
   refine Tr.skip (Nx.go (Tr.seq (Tr.block (?_))))
   obtain ⟨⟨x, p1⟩, y, p2⟩ : (∃ x, a[k]? = some x) ∧ ∃ y, b[k]? = some y := ⟨⟨_, List.getElem?_eq_getElem hk2⟩, _, List.getElem?_eq_getElem (by omega)⟩; by_cases hxy : x = y
   ·
    refine Tr.ds hmx [] (.k (mv .k (.b 0 rfl)) (.k (mv .k (.b 2 rfl)) (.k (idx_ .k rwI (.g 0 rfl) (.g 1 rfl) rfl (by rw [List.getElem?_map, p1]; rfl)) (.k (ldc_at .k (.g 2 rfl) tyI) (.k (mv .k (.b 1 rfl)) (.k (mv .k (.b 2 rfl)) (.k (idx_ .k rwI (.g 4 rfl) (.g 5 rfl) rfl (by rw [List.getElem?_map, p2]; rfl)) (.k (ldc_at .k (.g 6 rfl) tyI) (.k (ne_ .k (.g 3 rfl) (.g 7 rfl) (bne_eq_false_iff_eq.2 hxy)) .n))))))))) [0, 1, 2] [8] rfl rfl ?_
    refine Tr.cond 3 rfl nofun (fun _ => ?_)
    refine Tr.skip (Nx.bkN (Nx.go (Tr.reg [(2, 2)] (.k (mv .k (.b 2 rfl)) (.k (add_ .k (.g 0 rfl) .c (show IntKind.i64.wrap ((k : Int) + 1) = ((k + 1 : Nat) : Int) by rw [IntWalk.i64_in _ (by omega)]; omega)) (.k (asg .k (.g 1 rfl)) .n))) [0, 1] [2] rfl rfl (Nx.again (a.length - (k + 1)) (by omega) [.s 0 (ivec a), .s 1 (ivec b), .s 5 (iv (((k + 1) : Nat) : Int))] ⟨(k + 1), ⟨by omega, take_same hinv.2 p1 p2 hxy⟩, rfl, rfl⟩ (Sub.all (.cons 0 rfl (.cons 1 rfl (.cons 2 rfl .nil))))))))
   ·
    rw [decide_eq_false (at_apart p1 p2 hxy)]
    refine Tr.ds hmx [] (.k (mv .k (.b 0 rfl)) (.k (mv .k (.b 2 rfl)) (.k (idx_ .k rwI (.g 0 rfl) (.g 1 rfl) rfl (by rw [List.getElem?_map, p1]; rfl)) (.k (ldc_at .k (.g 2 rfl) tyI) (.k (mv .k (.b 1 rfl)) (.k (mv .k (.b 2 rfl)) (.k (idx_ .k rwI (.g 4 rfl) (.g 5 rfl) rfl (by rw [List.getElem?_map, p2]; rfl)) (.k (ldc_at .k (.g 6 rfl) tyI) (.k (ne_ .k (.g 3 rfl) (.g 7 rfl) (bne_iff_ne.2 hxy)) .n))))))))) [0, 1, 2] [8] rfl rfl ?_
    refine Tr.cond 3 rfl (fun _ => ?_) nofun
    refine Tr.rs [] (.k (asg .k .c) .n) [] [0] rfl rfl ?_
    refine Tr.ret (end_tmp 0 rfl rfl)
  ·
   have hk2 : k = a.length := by have := of_decide_eq_false e14; omega
   refine Tr.exit (Nx.thX (Nx.thX (Nx.bkX (Nx.go (?_)))))
   subst hk2
   rw [decide_eq_true (take_whole hl hinv.2)]
   refine Tr.rs [] (.k (asg .k .c) .n) [] [0] rfl rfl ?_
   refine Tr.ret (end_tmp 0 rfl rfl)
 ·
  rw [decide_eq_false (p := a = b) (fun h => hl (by rw [h]))]
  refine Tr.seq (Tr.rs [] (.k (mv .k (.b 0 rfl)) (.k (len_ .k rwI (.g 0 rfl) (by rw [List.length_map])) (.k (mv .k (.b 1 rfl)) (.k (len_ .k rwI (.g 2 rfl) (by rw [List.length_map])) (.k (ne_ .k (.g 1 rfl) (.g 3 rfl) (bne_iff_ne.2 (by omega))) .n))))) [0, 1] [4] rfl rfl ?_)
  refine Tr.cond 2 rfl (fun _ => ?_) nofun
  refine Tr.rs [] (.k (asg .k .c) .n) [] [0] rfl rfl ?_
  refine Tr.ret (end_tmp 0 rfl rfl)
set_option maxRecDepth 100000 in
set_option maxHeartbeats 8000000 in
theorem fn_same (a b : List (List Int)) (ha : a.length ≤ 9000000) (hx : ∀ r ∈ a, r.length ≤ 9000000) : FnC Try.prog 16 [lvec a, lvec b] (bv (decide (a = b))) := by
 refine FnC.of (N := 27) Try.func16 rfl rfl (Nat.le_of_ble_eq_true rfl) (fun w0 ok0 => ?_)
 refine Tr.rs [] (.k (asg .k .c) .n) [0, 1] [] rfl rfl ?_
 by_cases hl : a.length = b.length
 ·
  refine Tr.seq (Tr.rs [] (.k (mv .k (.b 0 rfl)) (.k (lenv .k rwL (.g 0 rfl) (by rw [List.length_map])) (.k (mv .k (.b 1 rfl)) (.k (lenv .k rwL (.g 2 rfl) (by rw [List.length_map])) (.k (ne_ .k (.g 1 rfl) (.g 3 rfl) (bne_eq_false_iff_eq.2 (by omega))) .n))))) [0, 1] [4] rfl rfl ?_)
  refine Tr.cond 2 rfl nofun (fun _ => ?_)
  refine Tr.skip (Nx.go (Tr.seq (Tr.rs [] (.k (asg .k .c) .n) [0, 1] [0] rfl rfl ?_)))
  refine Tr.block (?_)
  refine Tr.loop (fun n_ F_ => ∃ k : Nat, (k ≤ a.length ∧ a.take k = b.take k) ∧ n_ = a.length - k ∧ F_ = [.s 0 (lvec a), .s 1 (lvec b), .s 5 (iv ((k : Nat) : Int))]) (a.length - 0) (F0 := [.s 0 (lvec a), .s 1 (lvec b), .s 5 (iv ((0 : Nat) : Int))]) ⟨0, ⟨Nat.zero_le _, rfl⟩, rfl, rfl⟩ (Sub.all (.cons 0 rfl (.cons 1 rfl (.cons 2 rfl .nil)))) (fun n_ F_ hI => ?_)
  obtain ⟨k, hinv, rfl, rfl⟩ := hI
  refine Tr.seq (Tr.rs [] (.k (mv .k (.b 2 rfl)) (.k (mv .k (.b 0 rfl)) (.k (lenv .k rwL (.g 1 rfl) (by rw [List.length_map])) (.k (lt_ .k (.g 0 rfl) (.g 2 rfl) rfl) .n)))) [0, 1, 2] [3] rfl rfl ?_)
  refine Tr.cond 3 rfl (fun e14 => ?_) (fun e14 => ?_)
  ·
   have hk2 : k < a.length := by have := of_decide_eq_true e14; omega
   refine Tr.skip (Nx.go (Tr.seq (Tr.block (?_))))
   obtain ⟨⟨x, p1⟩, y, p2⟩ : (∃ x, a[k]? = some x) ∧ ∃ y, b[k]? = some y := ⟨⟨_, List.getElem?_eq_getElem hk2⟩, _, List.getElem?_eq_getElem (by omega)⟩; by_cases hxy : x = y
   ·
    refine Tr.ds hmx [] (.k (mv .k (.b 0 rfl)) (.k (mv .k (.b 2 rfl)) (.k (idxv .k rwL (.g 0 rfl) (.g 1 rfl) rfl (by rw [List.getElem?_map, p1]; rfl)) (.k (ldv .k (.g 2 rfl) tyL) (.k (mv .k (.b 1 rfl)) (.k (mv .k (.b 2 rfl)) (.k (idxv .k rwL (.g 4 rfl) (.g 5 rfl) rfl (by rw [List.getElem?_map, p2]; rfl)) (.k (ldv .k (.g 6 rfl) tyL) (.k (cal .k Try.func15 rfl (decide_eq_true hxy ▸ fn_SameInts x y (hx _ (List.mem_of_getElem? p1))) (.k (.g 3 rfl) (.k (.g 7 rfl) .n))) (.k (not_ .k (.g 8 rfl)) .n)))))))))) [0, 1, 2] [9] rfl rfl ?_
    refine Tr.cond 3 rfl nofun (fun _ => ?_)
    refine Tr.skip (Nx.bkN (Nx.go (Tr.reg [(2, 2)] (.k (mv .k (.b 2 rfl)) (.k (add_ .k (.g 0 rfl) .c (show IntKind.i64.wrap ((k : Int) + 1) = ((k + 1 : Nat) : Int) by rw [IntWalk.i64_in _ (by omega)]; omega)) (.k (asg .k (.g 1 rfl)) .n))) [0, 1] [2] rfl rfl (Nx.again (a.length - (k + 1)) (by omega) [.s 0 (lvec a), .s 1 (lvec b), .s 5 (iv (((k + 1) : Nat) : Int))] ⟨(k + 1), ⟨by omega, take_same hinv.2 p1 p2 hxy⟩, rfl, rfl⟩ (Sub.all (.cons 0 rfl (.cons 1 rfl (.cons 2 rfl .nil))))))))
   ·
    rw [decide_eq_false (at_apart p1 p2 hxy)]
    refine Tr.ds hmx [] (.k (mv .k (.b 0 rfl)) (.k (mv .k (.b 2 rfl)) (.k (idxv .k rwL (.g 0 rfl) (.g 1 rfl) rfl (by rw [List.getElem?_map, p1]; rfl)) (.k (ldv .k (.g 2 rfl) tyL) (.k (mv .k (.b 1 rfl)) (.k (mv .k (.b 2 rfl)) (.k (idxv .k rwL (.g 4 rfl) (.g 5 rfl) rfl (by rw [List.getElem?_map, p2]; rfl)) (.k (ldv .k (.g 6 rfl) tyL) (.k (cal .k Try.func15 rfl (decide_eq_false hxy ▸ fn_SameInts x y (hx _ (List.mem_of_getElem? p1))) (.k (.g 3 rfl) (.k (.g 7 rfl) .n))) (.k (not_ .k (.g 8 rfl)) .n)))))))))) [0, 1, 2] [9] rfl rfl ?_
    refine Tr.cond 3 rfl (fun _ => ?_) nofun
    refine Tr.rs [] (.k (asg .k .c) .n) [] [0] rfl rfl ?_
    refine Tr.ret (end_tmp 0 rfl rfl)
  ·
   have hk2 : k = a.length := by have := of_decide_eq_false e14; omega
   refine Tr.exit (Nx.thX (Nx.thX (Nx.bkX (Nx.go (?_)))))
   subst hk2
   rw [decide_eq_true (take_whole hl hinv.2)]
   refine Tr.rs [] (.k (asg .k .c) .n) [] [0] rfl rfl ?_
   refine Tr.ret (end_tmp 0 rfl rfl)
 ·
  rw [decide_eq_false (p := a = b) (fun h => hl (by rw [h]))]
  refine Tr.seq (Tr.rs [] (.k (mv .k (.b 0 rfl)) (.k (lenv .k rwL (.g 0 rfl) (by rw [List.length_map])) (.k (mv .k (.b 1 rfl)) (.k (lenv .k rwL (.g 2 rfl) (by rw [List.length_map])) (.k (ne_ .k (.g 1 rfl) (.g 3 rfl) (bne_iff_ne.2 (by omega))) .n))))) [0, 1] [4] rfl rfl ?_)
  refine Tr.cond 2 rfl (fun _ => ?_) nofun
  refine Tr.rs [] (.k (asg .k .c) .n) [] [0] rfl rfl ?_
  refine Tr.ret (end_tmp 0 rfl rfl)
set_option maxRecDepth 100000 in
set_option maxHeartbeats 8000000 in
theorem fn_Segs (rs : List (List Int)) (hb : rs.length ≤ 1000000) (hl : (segsR rs).length ≤ 1000000) : FnC Try.prog 23 [lvec rs] (svec (segsR rs)) := by
 refine FnC.of (N := 37) Try.func23 rfl rfl (Nat.le_of_ble_eq_true rfl) (fun w0 ok0 => ?_)
 refine Tr.rs [] (.k (nilv (sz := 2) .k (.inl rfl)) .n) [0] [] rfl rfl ?_
 refine Tr.rs [] (.k (oini (sz := 2) (E := 36) .k (.inl rfl)) .n) [0] [0] rfl rfl ?_
 refine Tr.seq (Tr.rs [] (.k (mv .k (.b 0 rfl)) (.k (lenv .k rwL (.g 0 rfl) (by rw [List.length_map])) (.k (mv .k .c) .n))) [1] [0, 1, 2] rfl rfl ?_)
 refine Tr.block (?_)
 refine Tr.loop (fun n_ F_ => ∃ k : Nat, (k ≤ rs.length) ∧ n_ = rs.length - k ∧ F_ = [.o 3 2 36 ((segsR (rs.take k)).map sgc), .s 8 (lvec rs), .s 9 (iv ((rs.length : Nat) : Int)), .s 10 (iv ((k : Nat) : Int))]) (rs.length - 0) (F0 := [.o 3 2 36 ((segsR (rs.take 0)).map sgc), .s 8 (lvec rs), .s 9 (iv ((rs.length : Nat) : Int)), .s 10 (iv ((0 : Nat) : Int))]) ⟨0, Nat.zero_le _, rfl, rfl⟩ (Sub.all (.cons 0 rfl (.cons 1 rfl (.cons 2 rfl (.cons 3 rfl .nil))))) (fun n_ F_ hI => ?_)
 obtain ⟨k, hinv, rfl, rfl⟩ := hI
 refine Tr.rs [] (.k (lt_ .k (.b 3 rfl) (.b 2 rfl) rfl) .n) [0, 1, 2, 3] [0] rfl rfl ?_
 refine Tr.seq (Tr.cond 4 rfl (fun e11 => ?_) (fun e11 => ?_))
 ·
  have hk2 : k < rs.length := by have := of_decide_eq_true e11; omega
  refine Tr.skip (Nx.go (Tr.seq (Tr.block (?_))))
  obtain ⟨r, p0⟩ : ∃ r, rs[k]? = some r := ⟨_, List.getElem?_eq_getElem hk2⟩
  have hrl := segs_bound p0 (Nat.le_refl _)
  refine Tr.rs [] (.k (idxv .k rwL (.b 1 rfl) (.b 3 rfl) rfl (by rw [List.getElem?_map, p0]; rfl)) (.k (ldv .k (.g 0 rfl) tyL) (.k (asg .k (.g 1 rfl)) .n))) [0, 1, 2, 3] [2] rfl rfl ?_
  rw [show segsR (rs.take k) = segsR (rs.take k) ++ segTo r 0 by simp [segTo]]
  refine Tr.rs [] (.k (mv .k (.b 4 rfl)) (.k (len_ .k rwI (.g 0 rfl) (by rw [List.length_map])) (.k (mv .k .c) .n))) [0, 1, 2, 3, 4] [0, 1, 2] rfl rfl ?_
  refine Tr.block (?_)
  refine Tr.loop (fun n_ F_ => ∃ j : Nat, (j ≤ r.length) ∧ n_ = r.length - j ∧ F_ = [.o 3 2 36 ((segsR (rs.take k) ++ segTo r j).map sgc), .s 8 (lvec rs), .s 9 (iv ((rs.length : Nat) : Int)), .s 10 (iv ((k : Nat) : Int)), .s 5 (ivec r), .s 14 (ivec r), .s 15 (iv ((r.length : Nat) : Int)), .s 16 (iv ((j : Nat) : Int))]) (r.length - 0) (F0 := [.o 3 2 36 ((segsR (rs.take k) ++ segTo r 0).map sgc), .s 8 (lvec rs), .s 9 (iv ((rs.length : Nat) : Int)), .s 10 (iv ((k : Nat) : Int)), .s 5 (ivec r), .s 14 (ivec r), .s 15 (iv ((r.length : Nat) : Int)), .s 16 (iv ((0 : Nat) : Int))]) ⟨0, Nat.zero_le _, rfl, rfl⟩ (Sub.all (.cons 0 rfl (.cons 1 rfl (.cons 2 rfl (.cons 3 rfl (.cons 4 rfl (.cons 5 rfl (.cons 6 rfl (.cons 7 rfl .nil))))))))) (fun n_ F_ hI => ?_)
  obtain ⟨j, hjv, rfl, rfl⟩ := hI
  refine Tr.rs [] (.k (lt_ .k (.b 7 rfl) (.b 6 rfl) rfl) .n) [0, 1, 2, 3, 4, 5, 6, 7] [0] rfl rfl ?_
  refine Tr.seq (Tr.cond 8 rfl (fun e17 => ?_) (fun e17 => ?_))
  ·
   have hj2 : j < r.length := by have := of_decide_eq_true e17; omega
   refine Tr.skip (Nx.go (Tr.seq (Tr.block (?_))))
   obtain ⟨x, p1⟩ : ∃ x, r[j]? = some x := ⟨_, List.getElem?_eq_getElem hj2⟩
   obtain ⟨y, p2⟩ : ∃ y, r[(j + 1) % r.length]? = some y := ⟨_, List.getElem?_eq_getElem (Nat.mod_lt _ (by omega))⟩
   refine Tr.rs [] (.k (mv .k (.b 7 rfl)) (.k (idx_ .k rwI (.b 5 rfl) (.b 7 rfl) rfl (by rw [List.getElem?_map, p1]; rfl)) (.k (ldc_at .k (.g 1 rfl) tyI) (.k (asg .k (.g 0 rfl)) (.k (asg .k (.g 2 rfl)) .n))))) [0, 1, 2, 3, 4, 5, 6, 7] [3, 4] rfl rfl ?_
   refine Tr.go (Go.k (omv .k (.inr rfl) (.b 0 rfl)) [1, 2, 3, 4, 5, 6, 7, 8, 9] rfl rfl (Go.k (mv .k (.b 9 rfl)) [0, 1, 2, 3, 4, 5, 6, 7, 8] rfl rfl (Go.k (mv .k (.b 5 rfl)) [0, 1, 2, 3, 4, 5, 6, 7, 8, 9] rfl rfl (Go.k (mv .k (.b 10 rfl)) [0, 1, 2, 3, 4, 5, 6, 7, 8, 9] rfl rfl (Go.k (add_ .k (.b 0 rfl) .c (show IntKind.i64.wrap ((j : Int) + 1) = ((j + 1 : Nat) : Int) by rw [IntWalk.i64_in _ (by omega)]; omega)) [1, 2, 3, 4, 5, 6, 7, 8, 9, 10] rfl rfl (Go.k (mv .k (.b 7 rfl)) [0, 1, 2, 3, 4, 5, 6, 7, 8, 9, 10] rfl rfl (Go.k (len_ .k rwI (.b 0 rfl) (by rw [List.length_map])) [1, 2, 3, 4, 5, 6, 7, 8, 9, 10, 11] rfl rfl (Go.k (rem_ .k (.b 1 rfl) (.b 0 rfl) (by omega) (tmod_nat _ _)) [2, 3, 4, 5, 6, 7, 8, 9, 10, 11] rfl rfl (Go.k (idx_ .k rwI (.b 1 rfl) (.b 0 rfl) rfl (by rw [List.getElem?_map, p2]; rfl)) [2, 3, 4, 5, 6, 7, 8, 9, 10] rfl rfl (Go.k (ldc_at .k (.b 0 rfl) tyI) [1, 2, 3, 4, 5, 6, 7, 8, 9] rfl rfl (Go.k (bld .k (.k (.b 1 rfl) (.k (.b 0 rfl) .n)) (bS _ _) (aS _ _)) [2, 3, 4, 5, 6, 7, 8, 9] rfl rfl (Go.k (mkrow .k rwS (.k (.b 0 rfl) .n) rfl rfl (by kernel_rfl)) [1, 2, 3, 4, 5, 6, 7, 8] rfl rfl (Go.k (oapp_ .k apS (.b 1 rfl) (.b 0 rfl) (by decide) ⟨by rw [← segTo_succ p1 p2, ← List.append_assoc, List.map_append (l₁ := _ ++ _)]; rfl, ⟨rfl, rfl⟩, by rw [List.length_map, List.length_append, segTo_len]; omega⟩) [2, 3, 4, 5, 6, 7, 8] rfl rfl (Go.k (omv .k (.inl rfl) (.b 0 rfl)) [1, 2, 3, 4, 5, 6, 7] rfl rfl (Go.end_ (Nx.bkN (Nx.go (Tr.reg [(7, 1)] (.k (add_ .k (.b 7 rfl) .c (show IntKind.i64.wrap ((j : Int) + 1) = ((j + 1 : Nat) : Int) by rw [IntWalk.i64_in _ (by omega)]; omega)) (.k (mv .k (.g 0 rfl)) .n)) [0, 1, 2, 3, 4, 5, 6] [1] rfl rfl (Nx.again (r.length - (j + 1)) (by omega) [.o 3 2 36 ((segsR (rs.take k) ++ segTo r (j + 1)).map sgc), .s 8 (lvec rs), .s 9 (iv ((rs.length : Nat) : Int)), .s 10 (iv ((k : Nat) : Int)), .s 5 (ivec r), .s 14 (ivec r), .s 15 (iv ((r.length : Nat) : Int)), .s 16 (iv (((j + 1) : Nat) : Int))] ⟨(j + 1), (by omega), rfl, rfl⟩ (Sub.all (.cons 0 rfl (.cons 1 rfl (.cons 2 rfl (.cons 3 rfl (.cons 4 rfl (.cons 5 rfl (.cons 6 rfl (.cons 7 rfl .nil))))))))))))))))))))))))))))
  ·
   obtain rfl : j = r.length := by have := of_decide_eq_false e17; omega
   refine Tr.exit (Nx.thX (Nx.thX (Nx.bkX (Nx.bkN (Nx.go (?_))))))
   rw [segsR_succ p0]
   refine Tr.reg [(3, 1)] (.k (add_ .k (.b 3 rfl) .c (show IntKind.i64.wrap ((k : Int) + 1) = ((k + 1 : Nat) : Int) by rw [IntWalk.i64_in _ (by omega)]; omega)) (.k (mv .k (.g 0 rfl)) .n)) [0, 1, 2] [1] rfl rfl (Nx.again (rs.length - (k + 1)) (by omega) [.o 3 2 36 ((segsR (rs.take (k + 1))).map sgc), .s 8 (lvec rs), .s 9 (iv ((rs.length : Nat) : Int)), .s 10 (iv (((k + 1) : Nat) : Int))] ⟨(k + 1), (by omega), rfl, rfl⟩ (Sub.all (.cons 0 rfl (.cons 1 rfl (.cons 2 rfl (.cons 3 rfl .nil))))))
 ·
  obtain rfl : k = rs.length := by have := of_decide_eq_false e11; omega
  refine Tr.exit (Nx.thX (Nx.thX (Nx.bkX (Nx.go (?_)))))
  rw [List.take_length]
  refine Tr.rs [(0, 0)] (.k (frz .k (.inr rfl) (.b 0 rfl)) (.k (asg .k (.g 0 rfl)) .n)) [] [1] rfl rfl ?_
  refine Tr.ret (end_tmp 0 rfl rfl)
set_option maxRecDepth 100000 in
set_option maxHeartbeats 8000000 in
theorem fn_rDegrees (n : Int) (l : List (Int × Int)) (hl : l.length ≤ 100000) : FnC Try.prog 12 [iv n, svec l] (.tup [ivec (degR n l).1, iv (degR n l).2]) := by
 refine FnC.of (N := 82) Try.func12 rfl rfl (Nat.le_of_ble_eq_true rfl) (fun w0 ok0 => ?_)
 refine Tr.rs [] (.k (nilv (sz := 1) .k (.inl rfl)) (.k (asg .k .c) .n)) [0, 1] [] rfl rfl ?_
 rcases deg_ways n with h | ⟨h0, h⟩ | ⟨m, rfl, hm⟩
 ·
  rw [degR_neg (.inl h)]
  refine Tr.seq (Tr.rs [] (.k (mv .k (.b 0 rfl)) (.k (lt_ .k (.g 0 rfl) .c (decide_eq_true h)) (.k (mv .k (.g 1 rfl)) (.k (skp (.on (.g 2 rfl) rfl rfl)) (.k (skp (.on (.g 2 rfl) rfl rfl)) (.k (pickT .k (.g 2 rfl) .c) .n)))))) [0, 1] [5] rfl rfl ?_)
  refine Tr.cond 2 rfl (fun _ => ?_) nofun
  refine Tr.rs [] (.k (nilv (sz := 1) .k (.inl rfl)) (.k (asg .k .c) .n)) [] [0, 1] rfl rfl ?_
  refine Tr.ret (end_tmp2 0 1 rfl rfl rfl)
 ·
  rw [degR_neg (.inr h)]
  refine Tr.seq (Tr.rs [] (.k (mv .k (.b 0 rfl)) (.k (lt_ .k (.g 0 rfl) .c (decide_eq_false h0)) (.k (mv .k (.g 1 rfl)) (.k (mv (.on (.g 2 rfl) rfl rfl) (.b 0 rfl)) (.k (gt_ (.on (.g 2 rfl) rfl rfl) (.g 3 rfl) .c (decide_eq_true h)) (.k (pickF .k (.g 2 rfl) (.g 4 rfl)) .n)))))) [0, 1] [5] rfl rfl ?_)
  refine Tr.cond 2 rfl (fun _ => ?_) nofun
  refine Tr.rs [] (.k (nilv (sz := 1) .k (.inl rfl)) (.k (asg .k .c) .n)) [] [0, 1] rfl rfl ?_
  refine Tr.ret (end_tmp2 0 1 rfl rfl rfl)
 ·
  refine Tr.seq (Tr.rs [] (.k (mv .k (.b 0 rfl)) (.k (lt_ .k (.g 0 rfl) .c (decide_eq_false (by omega))) (.k (mv .k (.g 1 rfl)) (.k (mv (.on (.g 2 rfl) rfl rfl) (.b 0 rfl)) (.k (gt_ (.on (.g 2 rfl) rfl rfl) (.g 3 rfl) .c (decide_eq_false (by omega))) (.k (pickF .k (.g 2 rfl) (.g 4 rfl)) .n)))))) [0, 1] [5] rfl rfl ?_)
  refine Tr.cond 2 rfl nofun (fun _ => ?_)
  refine Tr.skip (Nx.go (Tr.seq (Tr.rs [] (.k (asg .k .c) .n) [0, 1] [0] rfl rfl ?_)))
  refine Tr.block (?_)
  refine Tr.loop (fun n_ F_ => ∃ k : Nat, (k ≤ l.length ∧ (l.take k).any (segBad (m : Int)) = false) ∧ n_ = l.length - k ∧ F_ = [.s 0 (iv ((m : Nat) : Int)), .s 1 (svec l), .s 6 (iv ((k : Nat) : Int))]) (l.length - 0) (F0 := [.s 0 (iv ((m : Nat) : Int)), .s 1 (svec l), .s 6 (iv ((0 : Nat) : Int))]) ⟨0, ⟨Nat.zero_le _, rfl⟩, rfl, rfl⟩ (Sub.all (.cons 0 rfl (.cons 1 rfl (.cons 2 rfl .nil)))) (fun n_ F_ hI => ?_)
  obtain ⟨k, hinv, rfl, rfl⟩ := hI
  refine Tr.seq (Tr.rs [] (.k (mv .k (.b 2 rfl)) (.k (mv .k (.b 1 rfl)) (.k (len_ .k rwS (.g 1 rfl) (by rw [List.length_map])) (.k (lt_ .k (.g 0 rfl) (.g 2 rfl) rfl) .n)))) [0, 1, 2] [3] rfl rfl ?_)
  refine Tr.cond 3 rfl (fun e19 => ?_) (fun e19 => ?_)
  ·
   have hk2 : k < l.length := by have := of_decide_eq_true e19; omega
   refine Tr.skip (Nx.go (Tr.seq (Tr.block (?_))))
   obtain ⟨⟨A, B⟩, p1⟩ : ∃ s, l[k]? = some s := ⟨_, List.getElem?_eq_getElem hk2⟩
   refine Tr.rs [] (.k (mv .k (.b 1 rfl)) (.k (mv .k (.b 2 rfl)) (.k (idx_ .k rwS (.g 0 rfl) (.g 1 rfl) rfl (by rw [List.getElem?_map, p1]; rfl)) (.k (ld_at .k (.g 2 rfl) tyS rfl (show _ = sgv (_, _) from rfl)) (.k (ala .k zS) (.k (sta .k (.g 4 rfl) (.g 3 rfl) tyS) .n)))))) [0, 1, 2] [5] rfl rfl ?_
   rcases seg_ways2 m A B with h | h | h | h | h | h
   ·
    rw [degR_bad p1 (by simp [segBad]; omega)]
    refine Tr.rs [] (.k (faddr .k (.b 3 rfl) rfl fSA) (.k (ldc .k (.g 0 rfl) (.b 3 rfl) tyI) (.k (faddr .k (.b 3 rfl) rfl fSB) (.k (ldc .k (.g 2 rfl) (.b 3 rfl) tyI) (.k (eq_ .k (.g 1 rfl) (.g 3 rfl) (beq_iff_eq.2 h)) (.k (mv .k (.g 4 rfl)) (.k (skp (.on (.g 5 rfl) rfl rfl)) (.k (skp (.on (.g 5 rfl) rfl rfl)) (.k (skp (.on (.g 5 rfl) rfl rfl)) (.k (pickT .k (.g 5 rfl) .c) (.k (mv .k (.g 9 rfl)) (.k (skp (.on (.g 10 rfl) rfl rfl)) (.k (skp (.on (.g 10 rfl) rfl rfl)) (.k (skp (.on (.g 10 rfl) rfl rfl)) (.k (skp (.on (.g 10 rfl) rfl rfl)) (.k (pickT .k (.g 10 rfl) .c) (.k (mv .k (.g 15 rfl)) (.k (skp (.on (.g 16 rfl) rfl rfl)) (.k (skp (.on (.g 16 rfl) rfl rfl)) (.k (skp (.on (.g 16 rfl) rfl rfl)) (.k (pickT .k (.g 16 rfl) .c) (.k (mv .k (.g 20 rfl)) (.k (skp (.on (.g 21 rfl) rfl rfl)) (.k (skp (.on (.g 21 rfl) rfl rfl)) (.k (skp (.on (.g 21 rfl) rfl rfl)) (.k (skp (.on (.g 21 rfl) rfl rfl)) (.k (pickT .k (.g 21 rfl) .c) .n))))))))))))))))))))))))))) [0, 1, 2] [26] rfl rfl ?_
    refine Tr.cond 3 rfl (fun _ => ?_) nofun
    refine Tr.rs [] (.k (nilv (sz := 1) .k (.inl rfl)) (.k (asg .k .c) .n)) [] [0, 1] rfl rfl ?_
    refine Tr.ret (end_tmp2 0 1 rfl rfl rfl)
   ·
    obtain ⟨h0, h⟩ := h
    rw [degR_bad p1 (by simp [segBad]; omega)]
    refine Tr.rs [] (.k (faddr .k (.b 3 rfl) rfl fSA) (.k (ldc .k (.g 0 rfl) (.b 3 rfl) tyI) (.k (faddr .k (.b 3 rfl) rfl fSB) (.k (ldc .k (.g 2 rfl) (.b 3 rfl) tyI) (.k (eq_ .k (.g 1 rfl) (.g 3 rfl) (beq_eq_false_iff_ne.2 h0)) (.k (mv .k (.g 4 rfl)) (.k (faddr (.on (.g 5 rfl) rfl rfl) (.b 3 rfl) rfl fSA) (.k (ldc (.on (.g 5 rfl) rfl rfl) (.g 6 rfl) (.b 3 rfl) tyI) (.k (lt_ (.on (.g 5 rfl) rfl rfl) (.g 7 rfl) .c (decide_eq_true h)) (.k (pickF .k (.g 5 rfl) (.g 8 rfl)) (.k (mv .k (.g 9 rfl)) (.k (skp (.on (.g 10 rfl) rfl rfl)) (.k (skp (.on (.g 10 rfl) rfl rfl)) (.k (skp (.on (.g 10 rfl) rfl rfl)) (.k (skp (.on (.g 10 rfl) rfl rfl)) (.k (pickT .k (.g 10 rfl) .c) (.k (mv .k (.g 15 rfl)) (.k (skp (.on (.g 16 rfl) rfl rfl)) (.k (skp (.on (.g 16 rfl) rfl rfl)) (.k (skp (.on (.g 16 rfl) rfl rfl)) (.k (pickT .k (.g 16 rfl) .c) (.k (mv .k (.g 20 rfl)) (.k (skp (.on (.g 21 rfl) rfl rfl)) (.k (skp (.on (.g 21 rfl) rfl rfl)) (.k (skp (.on (.g 21 rfl) rfl rfl)) (.k (skp (.on (.g 21 rfl) rfl rfl)) (.k (pickT .k (.g 21 rfl) .c) .n))))))))))))))))))))))))))) [0, 1, 2] [26] rfl rfl ?_
    refine Tr.cond 3 rfl (fun _ => ?_) nofun
    refine Tr.rs [] (.k (nilv (sz := 1) .k (.inl rfl)) (.k (asg .k .c) .n)) [] [0, 1] rfl rfl ?_
    refine Tr.ret (end_tmp2 0 1 rfl rfl rfl)
   ·
    obtain ⟨h0, h1, h⟩ := h
    rw [degR_bad p1 (by simp [segBad]; omega)]
    refine Tr.rs [] (.k (faddr .k (.b 3 rfl) rfl fSA) (.k (ldc .k (.g 0 rfl) (.b 3 rfl) tyI) (.k (faddr .k (.b 3 rfl) rfl fSB) (.k (ldc .k (.g 2 rfl) (.b 3 rfl) tyI) (.k (eq_ .k (.g 1 rfl) (.g 3 rfl) (beq_eq_false_iff_ne.2 h0)) (.k (mv .k (.g 4 rfl)) (.k (faddr (.on (.g 5 rfl) rfl rfl) (.b 3 rfl) rfl fSA) (.k (ldc (.on (.g 5 rfl) rfl rfl) (.g 6 rfl) (.b 3 rfl) tyI) (.k (lt_ (.on (.g 5 rfl) rfl rfl) (.g 7 rfl) .c (decide_eq_false h1)) (.k (pickF .k (.g 5 rfl) (.g 8 rfl)) (.k (mv .k (.g 9 rfl)) (.k (faddr (.on (.g 10 rfl) rfl rfl) (.b 3 rfl) rfl fSA) (.k (ldc (.on (.g 10 rfl) rfl rfl) (.g 11 rfl) (.b 3 rfl) tyI) (.k (mv (.on (.g 10 rfl) rfl rfl) (.b 0 rfl)) (.k (ge_ (.on (.g 10 rfl) rfl rfl) (.g 12 rfl) (.g 13 rfl) (decide_eq_true h)) (.k (pickF .k (.g 10 rfl) (.g 14 rfl)) (.k (mv .k (.g 15 rfl)) (.k (skp (.on (.g 16 rfl) rfl rfl)) (.k (skp (.on (.g 16 rfl) rfl rfl)) (.k (skp (.on (.g 16 rfl) rfl rfl)) (.k (pickT .k (.g 16 rfl) .c) (.k (mv .k (.g 20 rfl)) (.k (skp (.on (.g 21 rfl) rfl rfl)) (.k (skp (.on (.g 21 rfl) rfl rfl)) (.k (skp (.on (.g 21 rfl) rfl rfl)) (.k (skp (.on (.g 21 rfl) rfl rfl)) (.k (pickT .k (.g 21 rfl) .c) .n))))))))))))))))))))))))))) [0, 1, 2] [26] rfl rfl ?_
    refine Tr.cond 3 rfl (fun _ => ?_) nofun
    refine Tr.rs [] (.k (nilv (sz := 1) .k (.inl rfl)) (.k (asg .k .c) .n)) [] [0, 1] rfl rfl ?_
    refine Tr.ret (end_tmp2 0 1 rfl rfl rfl)
   ·
    obtain ⟨h0, h1, h2, h⟩ := h
    rw [degR_bad p1 (by simp [segBad]; omega)]
    refine Tr.rs [] (.k (faddr .k (.b 3 rfl) rfl fSA) (.k (ldc .k (.g 0 rfl) (.b 3 rfl) tyI) (.k (faddr .k (.b 3 rfl) rfl fSB) (.k (ldc .k (.g 2 rfl) (.b 3 rfl) tyI) (.k (eq_ .k (.g 1 rfl) (.g 3 rfl) (beq_eq_false_iff_ne.2 h0)) (.k (mv .k (.g 4 rfl)) (.k (faddr (.on (.g 5 rfl) rfl rfl) (.b 3 rfl) rfl fSA) (.k (ldc (.on (.g 5 rfl) rfl rfl) (.g 6 rfl) (.b 3 rfl) tyI) (.k (lt_ (.on (.g 5 rfl) rfl rfl) (.g 7 rfl) .c (decide_eq_false h1)) (.k (pickF .k (.g 5 rfl) (.g 8 rfl)) (.k (mv .k (.g 9 rfl)) (.k (faddr (.on (.g 10 rfl) rfl rfl) (.b 3 rfl) rfl fSA) (.k (ldc (.on (.g 10 rfl) rfl rfl) (.g 11 rfl) (.b 3 rfl) tyI) (.k (mv (.on (.g 10 rfl) rfl rfl) (.b 0 rfl)) (.k (ge_ (.on (.g 10 rfl) rfl rfl) (.g 12 rfl) (.g 13 rfl) (decide_eq_false h2)) (.k (pickF .k (.g 10 rfl) (.g 14 rfl)) (.k (mv .k (.g 15 rfl)) (.k (faddr (.on (.g 16 rfl) rfl rfl) (.b 3 rfl) rfl fSB) (.k (ldc (.on (.g 16 rfl) rfl rfl) (.g 17 rfl) (.b 3 rfl) tyI) (.k (lt_ (.on (.g 16 rfl) rfl rfl) (.g 18 rfl) .c (decide_eq_true h)) (.k (pickF .k (.g 16 rfl) (.g 19 rfl)) (.k (mv .k (.g 20 rfl)) (.k (skp (.on (.g 21 rfl) rfl rfl)) (.k (skp (.on (.g 21 rfl) rfl rfl)) (.k (skp (.on (.g 21 rfl) rfl rfl)) (.k (skp (.on (.g 21 rfl) rfl rfl)) (.k (pickT .k (.g 21 rfl) .c) .n))))))))))))))))))))))))))) [0, 1, 2] [26] rfl rfl ?_
    refine Tr.cond 3 rfl (fun _ => ?_) nofun
    refine Tr.rs [] (.k (nilv (sz := 1) .k (.inl rfl)) (.k (asg .k .c) .n)) [] [0, 1] rfl rfl ?_
    refine Tr.ret (end_tmp2 0 1 rfl rfl rfl)
   ·
    obtain ⟨h0, h1, h2, h3, h⟩ := h
    rw [degR_bad p1 (by simp [segBad]; omega)]
    refine Tr.rs [] (.k (faddr .k (.b 3 rfl) rfl fSA) (.k (ldc .k (.g 0 rfl) (.b 3 rfl) tyI) (.k (faddr .k (.b 3 rfl) rfl fSB) (.k (ldc .k (.g 2 rfl) (.b 3 rfl) tyI) (.k (eq_ .k (.g 1 rfl) (.g 3 rfl) (beq_eq_false_iff_ne.2 h0)) (.k (mv .k (.g 4 rfl)) (.k (faddr (.on (.g 5 rfl) rfl rfl) (.b 3 rfl) rfl fSA) (.k (ldc (.on (.g 5 rfl) rfl rfl) (.g 6 rfl) (.b 3 rfl) tyI) (.k (lt_ (.on (.g 5 rfl) rfl rfl) (.g 7 rfl) .c (decide_eq_false h1)) (.k (pickF .k (.g 5 rfl) (.g 8 rfl)) (.k (mv .k (.g 9 rfl)) (.k (faddr (.on (.g 10 rfl) rfl rfl) (.b 3 rfl) rfl fSA) (.k (ldc (.on (.g 10 rfl) rfl rfl) (.g 11 rfl) (.b 3 rfl) tyI) (.k (mv (.on (.g 10 rfl) rfl rfl) (.b 0 rfl)) (.k (ge_ (.on (.g 10 rfl) rfl rfl) (.g 12 rfl) (.g 13 rfl) (decide_eq_false h2)) (.k (pickF .k (.g 10 rfl) (.g 14 rfl)) (.k (mv .k (.g 15 rfl)) (.k (faddr (.on (.g 16 rfl) rfl rfl) (.b 3 rfl) rfl fSB) (.k (ldc (.on (.g 16 rfl) rfl rfl) (.g 17 rfl) (.b 3 rfl) tyI) (.k (lt_ (.on (.g 16 rfl) rfl rfl) (.g 18 rfl) .c (decide_eq_false h3)) (.k (pickF .k (.g 16 rfl) (.g 19 rfl)) (.k (mv .k (.g 20 rfl)) (.k (faddr (.on (.g 21 rfl) rfl rfl) (.b 3 rfl) rfl fSB) (.k (ldc (.on (.g 21 rfl) rfl rfl) (.g 22 rfl) (.b 3 rfl) tyI) (.k (mv (.on (.g 21 rfl) rfl rfl) (.b 0 rfl)) (.k (ge_ (.on (.g 21 rfl) rfl rfl) (.g 23 rfl) (.g 24 rfl) (decide_eq_true h)) (.k (pickF .k (.g 21 rfl) (.g 25 rfl)) .n))))))))))))))))))))))))))) [0, 1, 2] [26] rfl rfl ?_
    refine Tr.cond 3 rfl (fun _ => ?_) nofun
    refine Tr.rs [] (.k (nilv (sz := 1) .k (.inl rfl)) (.k (asg .k .c) .n)) [] [0, 1] rfl rfl ?_
    refine Tr.ret (end_tmp2 0 1 rfl rfl rfl)
   ·
    obtain ⟨a, b, rfl, rfl, ha, hb, hab⟩ := h
    refine Tr.rs [] (.k (faddr .k (.b 3 rfl) rfl fSA) (.k (ldc .k (.g 0 rfl) (.b 3 rfl) tyI) (.k (faddr .k (.b 3 rfl) rfl fSB) (.k (ldc .k (.g 2 rfl) (.b 3 rfl) tyI) (.k (eq_ .k (.g 1 rfl) (.g 3 rfl) (beq_eq_false_iff_ne.2 (by omega))) (.k (mv .k (.g 4 rfl)) (.k (faddr (.on (.g 5 rfl) rfl rfl) (.b 3 rfl) rfl fSA) (.k (ldc (.on (.g 5 rfl) rfl rfl) (.g 6 rfl) (.b 3 rfl) tyI) (.k (lt_ (.on (.g 5 rfl) rfl rfl) (.g 7 rfl) .c (decide_eq_false (by omega))) (.k (pickF .k (.g 5 rfl) (.g 8 rfl)) (.k (mv .k (.g 9 rfl)) (.k (faddr (.on (.g 10 rfl) rfl rfl) (.b 3 rfl) rfl fSA) (.k (ldc (.on (.g 10 rfl) rfl rfl) (.g 11 rfl) (.b 3 rfl) tyI) (.k (mv (.on (.g 10 rfl) rfl rfl) (.b 0 rfl)) (.k (ge_ (.on (.g 10 rfl) rfl rfl) (.g 12 rfl) (.g 13 rfl) (decide_eq_false (by omega))) (.k (pickF .k (.g 10 rfl) (.g 14 rfl)) (.k (mv .k (.g 15 rfl)) (.k (faddr (.on (.g 16 rfl) rfl rfl) (.b 3 rfl) rfl fSB) (.k (ldc (.on (.g 16 rfl) rfl rfl) (.g 17 rfl) (.b 3 rfl) tyI) (.k (lt_ (.on (.g 16 rfl) rfl rfl) (.g 18 rfl) .c (decide_eq_false (by omega))) (.k (pickF .k (.g 16 rfl) (.g 19 rfl)) (.k (mv .k (.g 20 rfl)) (.k (faddr (.on (.g 21 rfl) rfl rfl) (.b 3 rfl) rfl fSB) (.k (ldc (.on (.g 21 rfl) rfl rfl) (.g 22 rfl) (.b 3 rfl) tyI) (.k (mv (.on (.g 21 rfl) rfl rfl) (.b 0 rfl)) (.k (ge_ (.on (.g 21 rfl) rfl rfl) (.g 23 rfl) (.g 24 rfl) (decide_eq_false (by omega))) (.k (pickF .k (.g 21 rfl) (.g 25 rfl)) .n))))))))))))))))))))))))))) [0, 1, 2] [26] rfl rfl ?_
    refine Tr.cond 3 rfl nofun (fun _ => ?_)
    refine Tr.skip (Nx.bkN (Nx.go (Tr.reg [(2, 2)] (.k (mv .k (.b 2 rfl)) (.k (add_ .k (.g 0 rfl) .c (show IntKind.i64.wrap ((k : Int) + 1) = ((k + 1 : Nat) : Int) by rw [IntWalk.i64_in _ (by omega)]; omega)) (.k (asg .k (.g 1 rfl)) .n))) [0, 1] [2] rfl rfl (Nx.again (l.length - (k + 1)) (by omega) [.s 0 (iv ((m : Nat) : Int)), .s 1 (svec l), .s 6 (iv (((k + 1) : Nat) : Int))] ⟨(k + 1), ⟨by omega, bad_succ hinv.2 p1 hab ha hb⟩, rfl, rfl⟩ (Sub.all (.cons 0 rfl (.cons 1 rfl (.cons 2 rfl .nil))))))))
  ·
   obtain rfl : k = l.length := by have := of_decide_eq_false e19; omega
   refine Tr.exit (Nx.thX (Nx.thX (Nx.bkX (Nx.go (?_)))))
   have hok := hinv.2
   rw [List.take_length] at hok
   refine Tr.gos (Go.k (mv .k (.b 0 rfl)) [1] rfl rfl (Go.mk 1 .k mkI (.b 0 rfl) (.b 0 rfl) rfl rfl (by omega) (by unfold maxLen; omega) [1] rfl rfl fun g1 => (Go.k (asg .k (.b 0 rfl)) [1, 2] rfl rfl (Go.end_ (Nx.go (?_))))))
   rw [show List.replicate (m * 1) (Value.int IntKind.i64 0) = (degs m (l.take 0)).map ic by rw [List.take_zero, degs_nil, Nat.mul_one, List.map_replicate]]
   refine Tr.seq (Tr.rs [] (.k (asg .k .c) .n) [0, 1, 2] [0] rfl rfl ?_)
   refine Tr.block (?_)
   refine Tr.loop (fun n_ F_ => ∃ k : Nat, (k ≤ l.length) ∧ n_ = l.length - k ∧ F_ = [.s 1 (svec l), .s 8 (.is (.slice (some ⟨g1, 0, none⟩) m m)), .s 9 (iv ((k : Nat) : Int)), .h 1 g1 (HP.own 3 1 m m ((degs m (l.take k)).map ic))]) (l.length - 0) (F0 := [.s 1 (svec l), .s 8 (.is (.slice (some ⟨g1, 0, none⟩) m m)), .s 9 (iv ((0 : Nat) : Int)), .h 1 g1 (HP.own 3 1 m m ((degs m (l.take 0)).map ic))]) ⟨0, Nat.zero_le _, rfl, rfl⟩ (Sub.all (.cons 2 rfl (.cons 0 rfl (.cons 3 rfl (.cons 1 rfl .nil))))) (fun n_ F_ hI => ?_)
   obtain ⟨k, hinv, rfl, rfl⟩ := hI
   refine Tr.seq (Tr.rs [] (.k (mv .k (.b 2 rfl)) (.k (mv .k (.b 0 rfl)) (.k (len_ .k rwS (.g 1 rfl) (by rw [List.length_map])) (.k (lt_ .k (.g 0 rfl) (.g 2 rfl) rfl) .n)))) [0, 1, 2, 3] [3] rfl rfl ?_)
   refine Tr.cond 4 rfl (fun e58 => ?_) (fun e58 => ?_)
   ·
    have hk2 : k < l.length := by have := of_decide_eq_true e58; omega
    refine Tr.skip (Nx.go (Tr.seq (Tr.block (?_))))
    obtain ⟨s, p1⟩ : ∃ s, l[k]? = some s := ⟨_, List.getElem?_eq_getElem hk2⟩
    obtain ⟨a, b, rfl, ha, hb, hab⟩ := seg_ok hok (List.mem_of_getElem? p1)
    have hca := cnt_small hl k a
    have hcb := cnt_small hl k b
    refine Tr.rs [(3, 10)] (.k (mv .k (.b 1 rfl)) (.k (mv .k (.b 0 rfl)) (.k (mv .k (.b 2 rfl)) (.k (idx_ .k rwS (.g 1 rfl) (.g 2 rfl) rfl (by rw [List.getElem?_map, p1]; rfl)) (.k (fat .k (.g 3 rfl) aSA rfl) (.k (ldc_at .k (.g 4 rfl) tyI) (.k (idxn .k rwI (.g 0 rfl) (.g 5 rfl) rfl ha (Nat.mul_one _)) (.k (ldn .k (.g 6 rfl) (.b 3 rfl) tyI (by rw [List.getElem?_map, degs_at ha]; rfl)) (.k (add_ .k (.g 7 rfl) .c (show IntKind.i64.wrap (cntE (l.take k) a + 1) = cntE (l.take k) a + 1 from IntWalk.i64_in _ (by omega))) (.k (idxn .k rwI (.g 0 rfl) (.g 5 rfl) rfl ha (Nat.mul_one _)) (.k (sth1 .k (.g 9 rfl) (.b 3 rfl) (.g 8 rfl) szI rfl (by rw [List.length_map, degs_len]; exact ha) rfl rfl) .n))))))))))) [0, 1, 2] [10] rfl rfl ?_
    refine Tr.reg [(3, 10)] (.k (mv .k (.b 1 rfl)) (.k (mv .k (.b 0 rfl)) (.k (mv .k (.b 2 rfl)) (.k (idx_ .k rwS (.g 1 rfl) (.g 2 rfl) rfl (by rw [List.getElem?_map, p1]; rfl)) (.k (fat .k (.g 3 rfl) aSB rfl) (.k (ldc_at .k (.g 4 rfl) tyI) (.k (idxn .k rwI (.g 0 rfl) (.g 5 rfl) rfl hb (Nat.mul_one _)) (.k (ldn .k (.g 6 rfl) (.b 3 rfl) tyI (by rw [List.getElem?_set_ne hab, List.getElem?_map, degs_at hb]; rfl)) (.k (add_ .k (.g 7 rfl) .c (show IntKind.i64.wrap (cntE (l.take k) b + 1) = cntE (l.take k) b + 1 from IntWalk.i64_in _ (by omega))) (.k (idxn .k rwI (.g 0 rfl) (.g 5 rfl) rfl hb (Nat.mul_one _)) (.k (sth1 .k (.g 9 rfl) (.b 3 rfl) (.g 8 rfl) szI rfl (by rw [List.length_set, List.length_map, degs_len]; exact hb) rfl (degs_succ ic p1 hab ha hb)) .n))))))))))) [0, 1, 2] [10] rfl rfl (Nx.bkN (Nx.go (Tr.reg [(2, 2)] (.k (mv .k (.b 2 rfl)) (.k (add_ .k (.g 0 rfl) .c (show IntKind.i64.wrap ((k : Int) + 1) = ((k + 1 : Nat) : Int) by rw [IntWalk.i64_in _ (by omega)]; omega)) (.k (asg .k (.g 1 rfl)) .n))) [0, 1, 3] [2] rfl rfl (Nx.again (l.length - (k + 1)) (by omega) [.s 1 (svec l), .s 8 (.is (.slice (some ⟨g1, 0, none⟩) m m)), .s 9 (iv (((k + 1) : Nat) : Int)), .h 1 g1 (HP.own 3 1 m m ((degs m (l.take (k + 1))).map ic))] ⟨(k + 1), (by omega), rfl, rfl⟩ (Sub.all (.cons 0 rfl (.cons 1 rfl (.cons 3 rfl (.cons 2 rfl .nil)))))))))
   ·
    obtain rfl : k = l.length := by have := of_decide_eq_false e58; omega
    refine Tr.exit (Nx.thX (Nx.thX (Nx.bkX (Nx.go (?_)))))
    rw [degR_ok hm hok, List.take_length]
    refine Tr.frz ((degs m l).map fun z => [ic z]) 1 3 [0, 2, 4] rfl rfl rfl (flat1 _) (by rw [List.length_map, degs_len]) (one1 _) ?_
    refine Tr.rs [] (.k (mv .k (.b 0 rfl)) (.k (asg .k (.g 0 rfl)) (.k (asg .k .c) .n))) [] [1, 2] rfl rfl ?_
    refine Tr.ret (end_tmp2 0 1 rfl rfl rfl)
set_option maxRecDepth 100000 in
set_option maxHeartbeats 8000000 in
theorem fn_like (s t : Int × Int) : FnC Try.prog 29 [.is (sgv s), .is (sgv t)] (bv (decide (nrm s = nrm t))) := by
 refine FnC.of (N := 31) Try.func29 rfl rfl (Nat.le_of_ble_eq_true rfl) (fun w0 ok0 => ?_)
 refine Tr.rs [] (.k (bxx .k (.b 0 rfl)) (.k (bxx .k (.b 1 rfl)) (.k (asg .k .c) .n))) [] [0, 1] rfl rfl ?_
 rcases like_ways s t with ⟨h1, h2, h⟩ | ⟨h1, h2, h3, h4, h⟩ | ⟨h1, h2, h3, h4, h⟩ | ⟨h1, h2, h3, h⟩ | ⟨h1, h3, h4, h⟩ | ⟨h1, h3, h4, h⟩ | ⟨h1, h3, h⟩
 ·
  rw [decide_eq_true h]
  refine Tr.rs [] (.k (faddr .k (.b 0 rfl) rfl fSA) (.k (ldc .k (.g 0 rfl) (.b 0 rfl) tyI) (.k (faddr .k (.b 1 rfl) rfl fSA) (.k (ldc .k (.g 2 rfl) (.b 1 rfl) tyI) (.k (eq_ .k (.g 1 rfl) (.g 3 rfl) (beq_iff_eq.2 h1)) (.k (mv .k (.g 4 rfl)) (.k (faddr (.on (.g 5 rfl) rfl rfl) (.b 0 rfl) rfl fSB) (.k (ldc (.on (.g 5 rfl) rfl rfl) (.g 6 rfl) (.b 0 rfl) tyI) (.k (faddr (.on (.g 5 rfl) rfl rfl) (.b 1 rfl) rfl fSB) (.k (ldc (.on (.g 5 rfl) rfl rfl) (.g 8 rfl) (.b 1 rfl) tyI) (.k (eq_ (.on (.g 5 rfl) rfl rfl) (.g 7 rfl) (.g 9 rfl) (beq_iff_eq.2 h2)) (.k (pickT .k (.g 5 rfl) (.g 10 rfl)) (.k (mv .k (.g 11 rfl)) (.k (skp (.on (.g 12 rfl) rfl rfl)) (.k (skp (.on (.g 12 rfl) rfl rfl)) (.k (skp (.on (.g 12 rfl) rfl rfl)) (.k (skp (.on (.g 12 rfl) rfl rfl)) (.k (skp (.on (.g 12 rfl) rfl rfl)) (.k (skpu (.on (.g 12 rfl) rfl rfl)) (.k (skpn (.g 18 rfl) rfl) (.k (skpn (.g 18 rfl) rfl) (.k (skpn (.g 18 rfl) rfl) (.k (skpn (.g 18 rfl) rfl) (.k (skpn (.g 18 rfl) rfl) (.k (skp (.on (.g 12 rfl) rfl rfl)) (.k (pickT .k (.g 12 rfl) .c) (.k (asg .k (.g 25 rfl)) .n))))))))))))))))))))))))))) [] [26] rfl rfl ?_
  refine Tr.ret (end_tmp 0 rfl rfl)
 ·
  rw [decide_eq_true h]
  refine Tr.rs [] (.k (faddr .k (.b 0 rfl) rfl fSA) (.k (ldc .k (.g 0 rfl) (.b 0 rfl) tyI) (.k (faddr .k (.b 1 rfl) rfl fSA) (.k (ldc .k (.g 2 rfl) (.b 1 rfl) tyI) (.k (eq_ .k (.g 1 rfl) (.g 3 rfl) (beq_iff_eq.2 h1)) (.k (mv .k (.g 4 rfl)) (.k (faddr (.on (.g 5 rfl) rfl rfl) (.b 0 rfl) rfl fSB) (.k (ldc (.on (.g 5 rfl) rfl rfl) (.g 6 rfl) (.b 0 rfl) tyI) (.k (faddr (.on (.g 5 rfl) rfl rfl) (.b 1 rfl) rfl fSB) (.k (ldc (.on (.g 5 rfl) rfl rfl) (.g 8 rfl) (.b 1 rfl) tyI) (.k (eq_ (.on (.g 5 rfl) rfl rfl) (.g 7 rfl) (.g 9 rfl) (beq_eq_false_iff_ne.2 h2)) (.k (pickT .k (.g 5 rfl) (.g 10 rfl)) (.k (mv .k (.g 11 rfl)) (.k (faddr (.on (.g 12 rfl) rfl rfl) (.b 0 rfl) rfl fSA) (.k (ldc (.on (.g 12 rfl) rfl rfl) (.g 13 rfl) (.b 0 rfl) tyI) (.k (faddr (.on (.g 12 rfl) rfl rfl) (.b 1 rfl) rfl fSB) (.k (ldc (.on (.g 12 rfl) rfl rfl) (.g 15 rfl) (.b 1 rfl) tyI) (.k (eq_ (.on (.g 12 rfl) rfl rfl) (.g 14 rfl) (.g 16 rfl) (beq_iff_eq.2 h3)) (.k (mv (.on (.g 12 rfl) rfl rfl) (.g 17 rfl)) (.k (faddr (.on (.g 18 rfl) rfl rfl) (.b 0 rfl) rfl fSB) (.k (ldc (.on (.g 18 rfl) rfl rfl) (.g 19 rfl) (.b 0 rfl) tyI) (.k (faddr (.on (.g 18 rfl) rfl rfl) (.b 1 rfl) rfl fSA) (.k (ldc (.on (.g 18 rfl) rfl rfl) (.g 21 rfl) (.b 1 rfl) tyI) (.k (eq_ (.on (.g 18 rfl) rfl rfl) (.g 20 rfl) (.g 22 rfl) (beq_iff_eq.2 h4)) (.k (pickT (.on (.g 12 rfl) rfl rfl) (.g 18 rfl) (.g 23 rfl)) (.k (pickF .k (.g 12 rfl) (.g 24 rfl)) (.k (asg .k (.g 25 rfl)) .n))))))))))))))))))))))))))) [] [26] rfl rfl ?_
  refine Tr.ret (end_tmp 0 rfl rfl)
 ·
  rw [decide_eq_false h]
  refine Tr.rs [] (.k (faddr .k (.b 0 rfl) rfl fSA) (.k (ldc .k (.g 0 rfl) (.b 0 rfl) tyI) (.k (faddr .k (.b 1 rfl) rfl fSA) (.k (ldc .k (.g 2 rfl) (.b 1 rfl) tyI) (.k (eq_ .k (.g 1 rfl) (.g 3 rfl) (beq_iff_eq.2 h1)) (.k (mv .k (.g 4 rfl)) (.k (faddr (.on (.g 5 rfl) rfl rfl) (.b 0 rfl) rfl fSB) (.k (ldc (.on (.g 5 rfl) rfl rfl) (.g 6 rfl) (.b 0 rfl) tyI) (.k (faddr (.on (.g 5 rfl) rfl rfl) (.b 1 rfl) rfl fSB) (.k (ldc (.on (.g 5 rfl) rfl rfl) (.g 8 rfl) (.b 1 rfl) tyI) (.k (eq_ (.on (.g 5 rfl) rfl rfl) (.g 7 rfl) (.g 9 rfl) (beq_eq_false_iff_ne.2 h2)) (.k (pickT .k (.g 5 rfl) (.g 10 rfl)) (.k (mv .k (.g 11 rfl)) (.k (faddr (.on (.g 12 rfl) rfl rfl) (.b 0 rfl) rfl fSA) (.k (ldc (.on (.g 12 rfl) rfl rfl) (.g 13 rfl) (.b 0 rfl) tyI) (.k (faddr (.on (.g 12 rfl) rfl rfl) (.b 1 rfl) rfl fSB) (.k (ldc (.on (.g 12 rfl) rfl rfl) (.g 15 rfl) (.b 1 rfl) tyI) (.k (eq_ (.on (.g 12 rfl) rfl rfl) (.g 14 rfl) (.g 16 rfl) (beq_iff_eq.2 h3)) (.k (mv (.on (.g 12 rfl) rfl rfl) (.g 17 rfl)) (.k (faddr (.on (.g 18 rfl) rfl rfl) (.b 0 rfl) rfl fSB) (.k (ldc (.on (.g 18 rfl) rfl rfl) (.g 19 rfl) (.b 0 rfl) tyI) (.k (faddr (.on (.g 18 rfl) rfl rfl) (.b 1 rfl) rfl fSA) (.k (ldc (.on (.g 18 rfl) rfl rfl) (.g 21 rfl) (.b 1 rfl) tyI) (.k (eq_ (.on (.g 18 rfl) rfl rfl) (.g 20 rfl) (.g 22 rfl) (beq_eq_false_iff_ne.2 h4)) (.k (pickT (.on (.g 12 rfl) rfl rfl) (.g 18 rfl) (.g 23 rfl)) (.k (pickF .k (.g 12 rfl) (.g 24 rfl)) (.k (asg .k (.g 25 rfl)) .n))))))))))))))))))))))))))) [] [26] rfl rfl ?_
  refine Tr.ret (end_tmp 0 rfl rfl)
 ·
  rw [decide_eq_false h]
  refine Tr.rs [] (.k (faddr .k (.b 0 rfl) rfl fSA) (.k (ldc .k (.g 0 rfl) (.b 0 rfl) tyI) (.k (faddr .k (.b 1 rfl) rfl fSA) (.k (ldc .k (.g 2 rfl) (.b 1 rfl) tyI) (.k (eq_ .k (.g 1 rfl) (.g 3 rfl) (beq_iff_eq.2 h1)) (.k (mv .k (.g 4 rfl)) (.k (faddr (.on (.g 5 rfl) rfl rfl) (.b 0 rfl) rfl fSB) (.k (ldc (.on (.g 5 rfl) rfl rfl) (.g 6 rfl) (.b 0 rfl) tyI) (.k (faddr (.on (.g 5 rfl) rfl rfl) (.b 1 rfl) rfl fSB) (.k (ldc (.on (.g 5 rfl) rfl rfl) (.g 8 rfl) (.b 1 rfl) tyI) (.k (eq_ (.on (.g 5 rfl) rfl rfl) (.g 7 rfl) (.g 9 rfl) (beq_eq_false_iff_ne.2 h2)) (.k (pickT .k (.g 5 rfl) (.g 10 rfl)) (.k (mv .k (.g 11 rfl)) (.k (faddr (.on (.g 12 rfl) rfl rfl) (.b 0 rfl) rfl fSA) (.k (ldc (.on (.g 12 rfl) rfl rfl) (.g 13 rfl) (.b 0 rfl) tyI) (.k (faddr (.on (.g 12 rfl) rfl rfl) (.b 1 rfl) rfl fSB) (.k (ldc (.on (.g 12 rfl) rfl rfl) (.g 15 rfl) (.b 1 rfl) tyI) (.k (eq_ (.on (.g 12 rfl) rfl rfl) (.g 14 rfl) (.g 16 rfl) (beq_eq_false_iff_ne.2 h3)) (.k (mv (.on (.g 12 rfl) rfl rfl) (.g 17 rfl)) (.k (skp (.on (.g 18 rfl) rfl rfl)) (.k (skp (.on (.g 18 rfl) rfl rfl)) (.k (skp (.on (.g 18 rfl) rfl rfl)) (.k (skp (.on (.g 18 rfl) rfl rfl)) (.k (skp (.on (.g 18 rfl) rfl rfl)) (.k (pickF (.on (.g 12 rfl) rfl rfl) (.g 18 rfl) .c) (.k (pickF .k (.g 12 rfl) (.g 24 rfl)) (.k (asg .k (.g 25 rfl)) .n))))))))))))))))))))))))))) [] [26] rfl rfl ?_
  refine Tr.ret (end_tmp 0 rfl rfl)
 ·
  rw [decide_eq_true h]
  refine Tr.rs [] (.k (faddr .k (.b 0 rfl) rfl fSA) (.k (ldc .k (.g 0 rfl) (.b 0 rfl) tyI) (.k (faddr .k (.b 1 rfl) rfl fSA) (.k (ldc .k (.g 2 rfl) (.b 1 rfl) tyI) (.k (eq_ .k (.g 1 rfl) (.g 3 rfl) (beq_eq_false_iff_ne.2 h1)) (.k (mv .k (.g 4 rfl)) (.k (skp (.on (.g 5 rfl) rfl rfl)) (.k (skp (.on (.g 5 rfl) rfl rfl)) (.k (skp (.on (.g 5 rfl) rfl rfl)) (.k (skp (.on (.g 5 rfl) rfl rfl)) (.k (skp (.on (.g 5 rfl) rfl rfl)) (.k (pickF .k (.g 5 rfl) .c) (.k (mv .k (.g 11 rfl)) (.k (faddr (.on (.g 12 rfl) rfl rfl) (.b 0 rfl) rfl fSA) (.k (ldc (.on (.g 12 rfl) rfl rfl) (.g 13 rfl) (.b 0 rfl) tyI) (.k (faddr (.on (.g 12 rfl) rfl rfl) (.b 1 rfl) rfl fSB) (.k (ldc (.on (.g 12 rfl) rfl rfl) (.g 15 rfl) (.b 1 rfl) tyI) (.k (eq_ (.on (.g 12 rfl) rfl rfl) (.g 14 rfl) (.g 16 rfl) (beq_iff_eq.2 h3)) (.k (mv (.on (.g 12 rfl) rfl rfl) (.g 17 rfl)) (.k (faddr (.on (.g 18 rfl) rfl rfl) (.b 0 rfl) rfl fSB) (.k (ldc (.on (.g 18 rfl) rfl rfl) (.g 19 rfl) (.b 0 rfl) tyI) (.k (faddr (.on (.g 18 rfl) rfl rfl) (.b 1 rfl) rfl fSA) (.k (ldc (.on (.g 18 rfl) rfl rfl) (.g 21 rfl) (.b 1 rfl) tyI) (.k (eq_ (.on (.g 18 rfl) rfl rfl) (.g 20 rfl) (.g 22 rfl) (beq_iff_eq.2 h4)) (.k (pickT (.on (.g 12 rfl) rfl rfl) (.g 18 rfl) (.g 23 rfl)) (.k (pickF .k (.g 12 rfl) (.g 24 rfl)) (.k (asg .k (.g 25 rfl)) .n))))))))))))))))))))))))))) [] [26] rfl rfl ?_
  refine Tr.ret (end_tmp 0 rfl rfl)
 ·
  rw [decide_eq_false h]
  refine Tr.rs [] (.k (faddr .k (.b 0 rfl) rfl fSA) (.k (ldc .k (.g 0 rfl) (.b 0 rfl) tyI) (.k (faddr .k (.b 1 rfl) rfl fSA) (.k (ldc .k (.g 2 rfl) (.b 1 rfl) tyI) (.k (eq_ .k (.g 1 rfl) (.g 3 rfl) (beq_eq_false_iff_ne.2 h1)) (.k (mv .k (.g 4 rfl)) (.k (skp (.on (.g 5 rfl) rfl rfl)) (.k (skp (.on (.g 5 rfl) rfl rfl)) (.k (skp (.on (.g 5 rfl) rfl rfl)) (.k (skp (.on (.g 5 rfl) rfl rfl)) (.k (skp (.on (.g 5 rfl) rfl rfl)) (.k (pickF .k (.g 5 rfl) .c) (.k (mv .k (.g 11 rfl)) (.k (faddr (.on (.g 12 rfl) rfl rfl) (.b 0 rfl) rfl fSA) (.k (ldc (.on (.g 12 rfl) rfl rfl) (.g 13 rfl) (.b 0 rfl) tyI) (.k (faddr (.on (.g 12 rfl) rfl rfl) (.b 1 rfl) rfl fSB) (.k (ldc (.on (.g 12 rfl) rfl rfl) (.g 15 rfl) (.b 1 rfl) tyI) (.k (eq_ (.on (.g 12 rfl) rfl rfl) (.g 14 rfl) (.g 16 rfl) (beq_iff_eq.2 h3)) (.k (mv (.on (.g 12 rfl) rfl rfl) (.g 17 rfl)) (.k (faddr (.on (.g 18 rfl) rfl rfl) (.b 0 rfl) rfl fSB) (.k (ldc (.on (.g 18 rfl) rfl rfl) (.g 19 rfl) (.b 0 rfl) tyI) (.k (faddr (.on (.g 18 rfl) rfl rfl) (.b 1 rfl) rfl fSA) (.k (ldc (.on (.g 18 rfl) rfl rfl) (.g 21 rfl) (.b 1 rfl) tyI) (.k (eq_ (.on (.g 18 rfl) rfl rfl) (.g 20 rfl) (.g 22 rfl) (beq_eq_false_iff_ne.2 h4)) (.k (pickT (.on (.g 12 rfl) rfl rfl) (.g 18 rfl) (.g 23 rfl)) (.k (pickF .k (.g 12 rfl) (.g 24 rfl)) (.k (asg .k (.g 25 rfl)) .n))))))))))))))))))))))))))) [] [26] rfl rfl ?_
  refine Tr.ret (end_tmp 0 rfl rfl)
 ·
  rw [decide_eq_false h]
  refine Tr.rs [] (.k (faddr .k (.b 0 rfl) rfl fSA) (.k (ldc .k (.g 0 rfl) (.b 0 rfl) tyI) (.k (faddr .k (.b 1 rfl) rfl fSA) (.k (ldc .k (.g 2 rfl) (.b 1 rfl) tyI) (.k (eq_ .k (.g 1 rfl) (.g 3 rfl) (beq_eq_false_iff_ne.2 h1)) (.k (mv .k (.g 4 rfl)) (.k (skp (.on (.g 5 rfl) rfl rfl)) (.k (skp (.on (.g 5 rfl) rfl rfl)) (.k (skp (.on (.g 5 rfl) rfl rfl)) (.k (skp (.on (.g 5 rfl) rfl rfl)) (.k (skp (.on (.g 5 rfl) rfl rfl)) (.k (pickF .k (.g 5 rfl) .c) (.k (mv .k (.g 11 rfl)) (.k (faddr (.on (.g 12 rfl) rfl rfl) (.b 0 rfl) rfl fSA) (.k (ldc (.on (.g 12 rfl) rfl rfl) (.g 13 rfl) (.b 0 rfl) tyI) (.k (faddr (.on (.g 12 rfl) rfl rfl) (.b 1 rfl) rfl fSB) (.k (ldc (.on (.g 12 rfl) rfl rfl) (.g 15 rfl) (.b 1 rfl) tyI) (.k (eq_ (.on (.g 12 rfl) rfl rfl) (.g 14 rfl) (.g 16 rfl) (beq_eq_false_iff_ne.2 h3)) (.k (mv (.on (.g 12 rfl) rfl rfl) (.g 17 rfl)) (.k (skp (.on (.g 18 rfl) rfl rfl)) (.k (skp (.on (.g 18 rfl) rfl rfl)) (.k (skp (.on (.g 18 rfl) rfl rfl)) (.k (skp (.on (.g 18 rfl) rfl rfl)) (.k (skp (.on (.g 18 rfl) rfl rfl)) (.k (pickF (.on (.g 12 rfl) rfl rfl) (.g 18 rfl) .c) (.k (pickF .k (.g 12 rfl) (.g 24 rfl)) (.k (asg .k (.g 25 rfl)) .n))))))))))))))))))))))))))) [] [26] rfl rfl ?_
  refine Tr.ret (end_tmp 0 rfl rfl)
theorem besF_succ_k {l : List (Int × Int)} {k : Nat} {s : Int × Int} {x v : Int} {row : List Int} (h : l[k]? = some s) (hb : bestK (besF (l.take k) x row) (cutK row (cand x s)) = v) : besF (l.take (k + 1)) x row = v := (besF_succ h x row).trans hb
set_option maxRecDepth 100000 in
set_option maxHeartbeats 8000000 in
theorem fn_beside (l : List (Int × Int)) (x : Int) (row : List Int) (hl : l.length ≤ 100000) (hr : row.length ≤ 9000000) : FnC Try.prog 30 [svec l, iv x, ivec row] (iv (besF l x row)) := by
 refine FnC.of (N := 66) Try.func30 rfl rfl (Nat.le_of_ble_eq_true rfl) (fun w0 ok0 => ?_)
 refine Tr.rs [] (.k (asg .k .c) .n) [0, 1, 2] [] rfl rfl ?_
 refine Tr.rs [] (.k (asg .k .c) .n) [0, 1, 2] [0] rfl rfl ?_
 refine Tr.seq (Tr.rs [] (.k (asg .k .c) .n) [0, 1, 2, 3] [0] rfl rfl ?_)
 refine Tr.block (?_)
 refine Tr.loop (fun n_ F_ => ∃ k : Nat, (k ≤ l.length) ∧ n_ = l.length - k ∧ F_ = [.s 0 (svec l), .s 1 (iv x), .s 2 (ivec row), .s 7 (iv (besF (l.take k) x row)), .s 8 (iv ((k : Nat) : Int))]) (l.length - 0) (F0 := [.s 0 (svec l), .s 1 (iv x), .s 2 (ivec row), .s 7 (iv (besF (l.take 0) x row)), .s 8 (iv ((0 : Nat) : Int))]) ⟨0, Nat.zero_le _, rfl, rfl⟩ (Sub.all (.cons 0 rfl (.cons 1 rfl (.cons 2 rfl (.cons 3 rfl (.cons 4 rfl .nil)))))) (fun n_ F_ hI => ?_)
 obtain ⟨k, hinv, rfl, rfl⟩ := hI
 refine Tr.seq (Tr.rs [] (.k (mv .k (.b 4 rfl)) (.k (mv .k (.b 0 rfl)) (.k (len_ .k rwS (.g 1 rfl) (by rw [List.length_map])) (.k (lt_ .k (.g 0 rfl) (.g 2 rfl) rfl) .n)))) [0, 1, 2, 3, 4] [3] rfl rfl ?_)
 refine Tr.cond 5 rfl (fun e14 => ?_) (fun e14 => ?_)
 ·
  have hk2 : k < l.length := by have := of_decide_eq_true e14; omega
  refine Tr.skip (Nx.go (Tr.seq (Tr.block (Tr.rs [] (.k (asg .k .c) .n) [0, 1, 2, 3, 4] [0] rfl rfl ?_))))
  obtain ⟨⟨A, B⟩, p1⟩ : ∃ s, l[k]? = some s := ⟨_, List.getElem?_eq_getElem hk2⟩
  refine Tr.cut [.s 0 (svec l), .s 1 (iv x), .s 2 (ivec row), .s 7 (iv (besF (l.take k) x row)), .s 8 (iv ((k : Nat) : Int)), .s 9 (iv (if A = x then B else -1))] ?_ ?_
  ·
   refine Tr.rs [] (.k (mv .k (.b 0 rfl)) (.k (mv .k (.b 4 rfl)) (.k (idx_ .k rwS (.g 0 rfl) (.g 1 rfl) rfl (by rw [List.getElem?_map, p1]; rfl)) (.k (fat .k (.g 2 rfl) aSA rfl) (.k (ldc_at .k (.g 3 rfl) tyI) (.k (mv .k (.b 1 rfl)) (.k (eq_ .k (.g 4 rfl) (.g 5 rfl) rfl) .n))))))) [0, 1, 2, 3, 4, 5] [6] rfl rfl ?_
   refine Tr.cond 6 rfl (fun e23 => ?_) (fun e23 => ?_)
   ·
    refine Tr.reg [(5, 5)] (.k (mv .k (.b 0 rfl)) (.k (mv .k (.b 4 rfl)) (.k (idx_ .k rwS (.g 0 rfl) (.g 1 rfl) rfl (by rw [List.getElem?_map, p1]; rfl)) (.k (fat .k (.g 2 rfl) aSB rfl) (.k (ldc_at .k (.g 3 rfl) tyI) (.k (asg .k (.g 4 rfl)) .n)))))) [0, 1, 2, 3, 4] [5] rfl rfl (?_)
    rw [if_pos (beq_iff_eq.1 e23)]
    refine Nx.met _ (Sub.all (.cons 0 rfl (.cons 1 rfl (.cons 2 rfl (.cons 3 rfl (.cons 4 rfl (.cons 5 rfl .nil)))))))
   ·
    refine Tr.skip (?_)
    rw [if_neg (beq_eq_false_iff_ne.1 e23)]
    refine Nx.met _ (Sub.all (.cons 0 rfl (.cons 1 rfl (.cons 2 rfl (.cons 3 rfl (.cons 4 rfl (.cons 5 rfl .nil)))))))
  ·
   refine Tr.cut [.s 0 (svec l), .s 1 (iv x), .s 2 (ivec row), .s 7 (iv (besF (l.take k) x row)), .s 8 (iv ((k : Nat) : Int)), .s 9 (iv (cand x (A, B)))] ?_ ?_
   ·
    refine Tr.rs [] (.k (mv .k (.b 0 rfl)) (.k (mv .k (.b 4 rfl)) (.k (idx_ .k rwS (.g 0 rfl) (.g 1 rfl) rfl (by rw [List.getElem?_map, p1]; rfl)) (.k (fat .k (.g 2 rfl) aSB rfl) (.k (ldc_at .k (.g 3 rfl) tyI) (.k (mv .k (.b 1 rfl)) (.k (eq_ .k (.g 4 rfl) (.g 5 rfl) rfl) .n))))))) [0, 1, 2, 3, 4, 5] [6] rfl rfl ?_
    refine Tr.cond 6 rfl (fun e35 => ?_) (fun e35 => ?_)
    ·
     refine Tr.reg [(5, 5)] (.k (mv .k (.b 0 rfl)) (.k (mv .k (.b 4 rfl)) (.k (idx_ .k rwS (.g 0 rfl) (.g 1 rfl) rfl (by rw [List.getElem?_map, p1]; rfl)) (.k (fat .k (.g 2 rfl) aSA rfl) (.k (ldc_at .k (.g 3 rfl) tyI) (.k (asg .k (.g 4 rfl)) .n)))))) [0, 1, 2, 3, 4] [5] rfl rfl (?_)
     rw [show cand x (A, B) = A from if_pos (beq_iff_eq.1 e35)]
     refine Nx.met _ (Sub.all (.cons 0 rfl (.cons 1 rfl (.cons 2 rfl (.cons 3 rfl (.cons 4 rfl (.cons 5 rfl .nil)))))))
    ·
     refine Tr.skip (?_)
     rw [show cand x (A, B) = if A = x then B else -1 from if_neg (beq_eq_false_iff_ne.1 e35)]
     refine Nx.met _ (Sub.all (.cons 0 rfl (.cons 1 rfl (.cons 2 rfl (.cons 3 rfl (.cons 4 rfl (.cons 5 rfl .nil)))))))
   ·
    rw [show cand x (A, B) = cutK (row.take 0) (cand x (A, B)) by simp [cutK]]
    refine Tr.seq (Tr.rs [] (.k (asg .k .c) .n) [0, 1, 2, 3, 4, 5] [0] rfl rfl ?_)
    refine Tr.block (?_)
    refine Tr.loop (fun n_ F_ => ∃ j : Nat, (j ≤ row.length) ∧ n_ = row.length - j ∧ F_ = [.s 0 (svec l), .s 1 (iv x), .s 2 (ivec row), .s 7 (iv (besF (l.take k) x row)), .s 8 (iv ((k : Nat) : Int)), .s 9 (iv (cutK (row.take j) (cand x (A, B)))), .s 10 (iv ((j : Nat) : Int))]) (row.length - 0) (F0 := [.s 0 (svec l), .s 1 (iv x), .s 2 (ivec row), .s 7 (iv (besF (l.take k) x row)), .s 8 (iv ((k : Nat) : Int)), .s 9 (iv (cutK (row.take 0) (cand x (A, B)))), .s 10 (iv ((0 : Nat) : Int))]) ⟨0, Nat.zero_le _, rfl, rfl⟩ (Sub.all (.cons 0 rfl (.cons 1 rfl (.cons 2 rfl (.cons 3 rfl (.cons 4 rfl (.cons 5 rfl (.cons 6 rfl .nil)))))))) (fun n_ F_ hI => ?_)
    obtain ⟨j, hjv, rfl, rfl⟩ := hI
    refine Tr.seq (Tr.rs [] (.k (mv .k (.b 6 rfl)) (.k (mv .k (.b 2 rfl)) (.k (len_ .k rwI (.g 1 rfl) (by rw [List.length_map])) (.k (lt_ .k (.g 0 rfl) (.g 2 rfl) rfl) .n)))) [0, 1, 2, 3, 4, 5, 6] [3] rfl rfl ?_)
    refine Tr.cond 7 rfl (fun e44 => ?_) (fun e44 => ?_)
    ·
     have hj2 : j < row.length := by have := of_decide_eq_true e44; omega
     refine Tr.skip (Nx.go (Tr.cut [.s 0 (svec l), .s 1 (iv x), .s 2 (ivec row), .s 7 (iv (besF (l.take k) x row)), .s 8 (iv ((k : Nat) : Int)), .s 9 (iv (cutK (row.take (j + 1)) (cand x (A, B)))), .s 10 (iv ((j : Nat) : Int))] ?_ ?_))
     ·
      refine Tr.block (?_)
      obtain ⟨y, p2⟩ : ∃ y, row[j]? = some y := ⟨_, List.getElem?_eq_getElem hj2⟩
      refine Tr.rs [] (.k (mv .k (.b 2 rfl)) (.k (mv .k (.b 6 rfl)) (.k (idx_ .k rwI (.g 0 rfl) (.g 1 rfl) rfl (by rw [List.getElem?_map, p2]; rfl)) (.k (ldc_at .k (.g 2 rfl) tyI) (.k (mv .k (.b 5 rfl)) (.k (eq_ .k (.g 3 rfl) (.g 4 rfl) rfl) .n)))))) [0, 1, 2, 3, 4, 5, 6] [5] rfl rfl ?_
      refine Tr.cond 7 rfl (fun e52 => ?_) (fun e52 => ?_)
      ·
       refine Tr.reg [(5, 0)] (.k (asg .k .c) .n) [0, 1, 2, 3, 4, 6] [0] rfl rfl (Nx.bkN (?_))
       rw [cutK_hit p2 (beq_iff_eq.1 e52)]
       refine Nx.met _ (Sub.all (.cons 0 rfl (.cons 1 rfl (.cons 2 rfl (.cons 3 rfl (.cons 4 rfl (.cons 6 rfl (.cons 5 rfl .nil))))))))
      ·
       refine Tr.skip (Nx.bkN (?_))
       rw [cutK_miss p2 (beq_eq_false_iff_ne.1 e52)]
       refine Nx.met _ (Sub.all (.cons 0 rfl (.cons 1 rfl (.cons 2 rfl (.cons 3 rfl (.cons 4 rfl (.cons 5 rfl (.cons 6 rfl .nil))))))))
     ·
      refine Tr.reg [(6, 2)] (.k (mv .k (.b 6 rfl)) (.k (add_ .k (.g 0 rfl) .c (show IntKind.i64.wrap ((j : Int) + 1) = ((j + 1 : Nat) : Int) by rw [IntWalk.i64_in _ (by omega)]; omega)) (.k (asg .k (.g 1 rfl)) .n))) [0, 1, 2, 3, 4, 5] [2] rfl rfl (Nx.again (row.length - (j + 1)) (by omega) [.s 0 (svec l), .s 1 (iv x), .s 2 (ivec row), .s 7 (iv (besF (l.take k) x row)), .s 8 (iv ((k : Nat) : Int)), .s 9 (iv (cutK (row.take (j + 1)) (cand x (A, B)))), .s 10 (iv (((j + 1) : Nat) : Int))] ⟨(j + 1), (by omega), rfl, rfl⟩ (Sub.all (.cons 0 rfl (.cons 1 rfl (.cons 2 rfl (.cons 3 rfl (.cons 4 rfl (.cons 5 rfl (.cons 6 rfl .nil)))))))))
    ·
     obtain rfl : j = row.length := by have := of_decide_eq_false e44; omega
     refine Tr.exit (Nx.thX (Nx.thX (Nx.bkX (Nx.go (?_)))))
     rw [List.take_length]
     rcases best_ways (besF (l.take k) x row) (cutK row (cand x (A, B))) with ⟨b1, b4⟩ | ⟨b1, b2, b4⟩ | ⟨b1, b2, b3, b4⟩ | ⟨b1, b2, b3, b4⟩
     ·
      refine Tr.rs [] (.k (mv .k (.b 5 rfl)) (.k (ge_ .k (.g 0 rfl) .c (decide_eq_false b1)) (.k (mv .k (.g 1 rfl)) (.k (skp (.on (.g 2 rfl) rfl rfl)) (.k (skp (.on (.g 2 rfl) rfl rfl)) (.k (skpu (.on (.g 2 rfl) rfl rfl)) (.k (skpn (.g 5 rfl) rfl) (.k (skpn (.g 5 rfl) rfl) (.k (skpn (.g 5 rfl) rfl) (.k (skp (.on (.g 2 rfl) rfl rfl)) (.k (pickF .k (.g 2 rfl) .c) .n))))))))))) [0, 1, 2, 3, 4, 5] [10] rfl rfl ?_
      refine Tr.cond 6 rfl nofun (fun _ => ?_)
      refine Tr.skip (Nx.bkN (Nx.go (?_)))
      rw [← besF_succ_k p1 b4]
      refine Tr.reg [(4, 2)] (.k (mv .k (.b 4 rfl)) (.k (add_ .k (.g 0 rfl) .c (show IntKind.i64.wrap ((k : Int) + 1) = ((k + 1 : Nat) : Int) by rw [IntWalk.i64_in _ (by omega)]; omega)) (.k (asg .k (.g 1 rfl)) .n))) [0, 1, 2, 3] [2] rfl rfl (Nx.again (l.length - (k + 1)) (by omega) [.s 0 (svec l), .s 1 (iv x), .s 2 (ivec row), .s 7 (iv (besF (l.take (k + 1)) x row)), .s 8 (iv (((k + 1) : Nat) : Int))] ⟨(k + 1), (by omega), rfl, rfl⟩ (Sub.all (.cons 0 rfl (.cons 1 rfl (.cons 2 rfl (.cons 3 rfl (.cons 4 rfl .nil)))))))
     ·
      refine Tr.rs [] (.k (mv .k (.b 5 rfl)) (.k (ge_ .k (.g 0 rfl) .c (decide_eq_true b1)) (.k (mv .k (.g 1 rfl)) (.k (mv (.on (.g 2 rfl) rfl rfl) (.b 3 rfl)) (.k (lt_ (.on (.g 2 rfl) rfl rfl) (.g 3 rfl) .c (decide_eq_true b2)) (.k (mv (.on (.g 2 rfl) rfl rfl) (.g 4 rfl)) (.k (skp (.on (.g 5 rfl) rfl rfl)) (.k (skp (.on (.g 5 rfl) rfl rfl)) (.k (skp (.on (.g 5 rfl) rfl rfl)) (.k (pickT (.on (.g 2 rfl) rfl rfl) (.g 5 rfl) .c) (.k (pickT .k (.g 2 rfl) (.g 9 rfl)) .n))))))))))) [0, 1, 2, 3, 4, 5] [10] rfl rfl ?_
      refine Tr.cond 6 rfl (fun _ => ?_) nofun
      refine Tr.reg [(3, 1)] (.k (mv .k (.b 5 rfl)) (.k (asg .k (.g 0 rfl)) .n)) [0, 1, 2, 4] [1] rfl rfl (Nx.bkN (Nx.go (?_)))
      rw [← besF_succ_k p1 b4]
      refine Tr.reg [(3, 2)] (.k (mv .k (.b 3 rfl)) (.k (add_ .k (.g 0 rfl) .c (show IntKind.i64.wrap ((k : Int) + 1) = ((k + 1 : Nat) : Int) by rw [IntWalk.i64_in _ (by omega)]; omega)) (.k (asg .k (.g 1 rfl)) .n))) [0, 1, 2, 4] [2] rfl rfl (Nx.again (l.length - (k + 1)) (by omega) [.s 0 (svec l), .s 1 (iv x), .s 2 (ivec row), .s 7 (iv (besF (l.take (k + 1)) x row)), .s 8 (iv (((k + 1) : Nat) : Int))] ⟨(k + 1), (by omega), rfl, rfl⟩ (Sub.all (.cons 0 rfl (.cons 1 rfl (.cons 2 rfl (.cons 3 rfl (.cons 4 rfl .nil)))))))
     ·
      refine Tr.rs [] (.k (mv .k (.b 5 rfl)) (.k (ge_ .k (.g 0 rfl) .c (decide_eq_true b1)) (.k (mv .k (.g 1 rfl)) (.k (mv (.on (.g 2 rfl) rfl rfl) (.b 3 rfl)) (.k (lt_ (.on (.g 2 rfl) rfl rfl) (.g 3 rfl) .c (decide_eq_false b2)) (.k (mv (.on (.g 2 rfl) rfl rfl) (.g 4 rfl)) (.k (mv (.on (.g 5 rfl) rfl rfl) (.b 5 rfl)) (.k (mv (.on (.g 5 rfl) rfl rfl) (.b 3 rfl)) (.k (lt_ (.on (.g 5 rfl) rfl rfl) (.g 6 rfl) (.g 7 rfl) (decide_eq_true b3)) (.k (pickF (.on (.g 2 rfl) rfl rfl) (.g 5 rfl) (.g 8 rfl)) (.k (pickT .k (.g 2 rfl) (.g 9 rfl)) .n))))))))))) [0, 1, 2, 3, 4, 5] [10] rfl rfl ?_
      refine Tr.cond 6 rfl (fun _ => ?_) nofun
      refine Tr.reg [(3, 1)] (.k (mv .k (.b 5 rfl)) (.k (asg .k (.g 0 rfl)) .n)) [0, 1, 2, 4] [1] rfl rfl (Nx.bkN (Nx.go (?_)))
      rw [← besF_succ_k p1 b4]
      refine Tr.reg [(3, 2)] (.k (mv .k (.b 3 rfl)) (.k (add_ .k (.g 0 rfl) .c (show IntKind.i64.wrap ((k : Int) + 1) = ((k + 1 : Nat) : Int) by rw [IntWalk.i64_in _ (by omega)]; omega)) (.k (asg .k (.g 1 rfl)) .n))) [0, 1, 2, 4] [2] rfl rfl (Nx.again (l.length - (k + 1)) (by omega) [.s 0 (svec l), .s 1 (iv x), .s 2 (ivec row), .s 7 (iv (besF (l.take (k + 1)) x row)), .s 8 (iv (((k + 1) : Nat) : Int))] ⟨(k + 1), (by omega), rfl, rfl⟩ (Sub.all (.cons 0 rfl (.cons 1 rfl (.cons 2 rfl (.cons 3 rfl (.cons 4 rfl .nil)))))))
     ·
      refine Tr.rs [] (.k (mv .k (.b 5 rfl)) (.k (ge_ .k (.g 0 rfl) .c (decide_eq_true b1)) (.k (mv .k (.g 1 rfl)) (.k (mv (.on (.g 2 rfl) rfl rfl) (.b 3 rfl)) (.k (lt_ (.on (.g 2 rfl) rfl rfl) (.g 3 rfl) .c (decide_eq_false b2)) (.k (mv (.on (.g 2 rfl) rfl rfl) (.g 4 rfl)) (.k (mv (.on (.g 5 rfl) rfl rfl) (.b 5 rfl)) (.k (mv (.on (.g 5 rfl) rfl rfl) (.b 3 rfl)) (.k (lt_ (.on (.g 5 rfl) rfl rfl) (.g 6 rfl) (.g 7 rfl) (decide_eq_false b3)) (.k (pickF (.on (.g 2 rfl) rfl rfl) (.g 5 rfl) (.g 8 rfl)) (.k (pickT .k (.g 2 rfl) (.g 9 rfl)) .n))))))))))) [0, 1, 2, 3, 4, 5] [10] rfl rfl ?_
      refine Tr.cond 6 rfl nofun (fun _ => ?_)
      refine Tr.skip (Nx.bkN (Nx.go (?_)))
      rw [← besF_succ_k p1 b4]
      refine Tr.reg [(4, 2)] (.k (mv .k (.b 4 rfl)) (.k (add_ .k (.g 0 rfl) .c (show IntKind.i64.wrap ((k : Int) + 1) = ((k + 1 : Nat) : Int) by rw [IntWalk.i64_in _ (by omega)]; omega)) (.k (asg .k (.g 1 rfl)) .n))) [0, 1, 2, 3] [2] rfl rfl (Nx.again (l.length - (k + 1)) (by omega) [.s 0 (svec l), .s 1 (iv x), .s 2 (ivec row), .s 7 (iv (besF (l.take (k + 1)) x row)), .s 8 (iv (((k + 1) : Nat) : Int))] ⟨(k + 1), (by omega), rfl, rfl⟩ (Sub.all (.cons 0 rfl (.cons 1 rfl (.cons 2 rfl (.cons 3 rfl (.cons 4 rfl .nil)))))))
 ·
  obtain rfl : k = l.length := by have := of_decide_eq_false e14; omega
  refine Tr.exit (Nx.thX (Nx.thX (Nx.bkX (Nx.go (?_)))))
  rw [List.take_length]
  refine Tr.rs [] (.k (mv .k (.b 3 rfl)) (.k (asg .k (.g 0 rfl)) .n)) [] [1] rfl rfl ?_
  refine Tr.ret (end_tmp 0 rfl rfl)
end Go.Proofs.Ytcifcohkjifadaa

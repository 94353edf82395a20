/- The document's Rings, walked. -/
import Derived.Test.YtcifcohkjifadaaRg4
import Derived.Test.YtcifcohkjifadaaRt2
set_option linter.unusedVariables false
set_option linter.unusedSimpArgs false
namespace Go.Proofs.Ytcifcohkjifadaa
open Go Go.RowKit Go.Proofs.Ytcifcohkjifadaa.Fx Go.Proofs.YtcifcohkjifadaaW.PrintWords
theorem fn_rDeg_of {n : Int} {l : List (Int × Int)} {r : List Int × Int} (h : degR n l = r) (hl : l.length ≤ 100000) : FnC Try.prog 12 [iv n, svec l] (.tup [ivec r.1, iv r.2]) := h ▸ fn_rDegrees n l hl
theorem arg_ways (n : Int) (l : List (Int × Int)) : argBad n l = true ∨ ∃ m : Nat, n = m ∧ m ≤ 1048576 ∧ l.any (segBad m) = false := by
  rcases ring_ways n l with h | ⟨m, h1, h2, h3, _⟩
  · exact .inl h
  · exact .inr ⟨m, h1, h2, h3⟩
theorem not_succ {l : List (Int × Int)} {j : Nat} {s u : Int × Int} (h : nrm s ∉ ((l.take j).map nrm).reverse) (hu : l[j]? = some u) (hne : ¬ nrm s = nrm u) : nrm s ∉ ((l.take (j + 1)).map nrm).reverse := by
  rw [← nrm_succ hu]
  intro hm
  rcases List.mem_cons.1 hm with e | e
  · exact hne e
  · exact h e
theorem bad_ways (d : List Int) {k : Nat} {z : Int} (h : d[k]? = some z) : (z = 0 ∧ badAt d k = false) ∨ (z ≠ 0 ∧ z = 2 ∧ badAt d k = false) ∨ (z ≠ 0 ∧ z ≠ 2 ∧ badAt d k = true) := by
  rw [badAt_at h]
  unfold ringBad
  by_cases h1 : z = 0
  · exact .inl ⟨h1, by rw [h1]; rfl⟩
  by_cases h2 : z = 2
  · exact .inr (.inl ⟨h1, h2, by rw [h2]; rfl⟩)
  · exact .inr (.inr ⟨h1, h2, by rw [bne_iff_ne.2 h1, bne_iff_ne.2 h2]; rfl⟩)
theorem in_succ {b : Bool} {r : List Int} {j : Nat} {z k : Int} (hin : (b || decide (k ∈ r.take j)) = false) (h : r[j]? = some z) : (z == k) = (b || decide (k ∈ r.take (j + 1))) := by
  rw [Bool.or_eq_false_iff] at hin
  have hn := of_decide_eq_false hin.2
  rw [hin.1, take_succ' h, Bool.false_or]
  by_cases e : z = k
  · rw [beq_iff_eq.2 e, decide_eq_true (by simp [e])]
  · rw [beq_eq_false_iff_ne.2 e, decide_eq_false (by simp [hn]; exact fun h => e h.symm)]
theorem in_succ2 {b : Bool} {r : List Int} {j : Nat} {z k : Int} (hin : (b || decide (k ∈ r.take j)) = true) (h : r[j]? = some z) : true = (b || decide (k ∈ r.take (j + 1))) := by
  rw [take_succ' h]
  rw [Bool.or_eq_true] at hin
  rcases hin with h | h
  · rw [h]; rfl
  · have := of_decide_eq_true h
    rw [decide_eq_true (List.mem_append_left _ this), Bool.or_true]
theorem in_yes {m k : Nat} {l : List (Int × Int)} {r : List Int} (hk : k < m) (h : (cntE l k == 0 || decide ((k : Int) ∈ r)) = true) : (degs m l).getD k 0 = 0 ∨ (k : Int) ∈ r := by
  rw [degs_getD hk]
  rw [Bool.or_eq_true] at h
  rcases h with h | h
  · exact .inl (beq_iff_eq.1 h)
  · exact .inr (of_decide_eq_true h)
theorem in_no {k : Nat} {l : List (Int × Int)} {r : List Int} (h : (cntE l k == 0 || decide ((k : Int) ∈ r)) = false) : cntE l k ≠ 0 ∧ ¬ (k : Int) ∈ r := by
  rw [Bool.or_eq_false_iff] at h
  exact ⟨beq_eq_false_iff_ne.1 h.1, of_decide_eq_false h.2⟩
set_option maxRecDepth 100000 in
set_option maxHeartbeats 8000000 in
theorem fn_rRings (n : Int) (l : List (Int × Int)) (hl : l.length ≤ 100000) (hn : n ≤ 1000 ∨ n > 1048576) : FnC Try.prog 14 [iv n, svec l] (.tup [lvec (ringsR n l).1, iv (ringsR n l).2.1, iv (ringsR n l).2.2]) := by
 refine FnC.of (N := 118) Try.func14 rfl rfl (Nat.le_of_ble_eq_true rfl) (fun w0 ok0 => ?_)
 refine Tr.rs [] (.k (nilvs .k (.inl rfl)) (.k (asg .k .c) (.k (asg .k .c) .n))) [0, 1] [] rfl rfl ?_
 rcases arg_ways n l with hA | ⟨m, rfl, hm, hok⟩
 ·
  rw [ringsR_bad hA]
  have hD : degR n l = ([], 2) := by unfold degR; rw [if_pos hA]
  refine Tr.rs [] (.k (mv .k (.b 0 rfl)) (.k (mv .k (.b 1 rfl)) (.k (cal .k Try.func12 rfl (fn_rDeg_of hD hl) (.k (.g 0 rfl) (.k (.g 1 rfl) .n))) (.k (mv .k (.g 2 rfl)) (.k (exx .k (.g 3 rfl) rfl) (.k (exx .k (.g 3 rfl) rfl) (.k (asg .k (.g 4 rfl)) (.k (asg .k (.g 5 rfl)) .n)))))))) [0, 1] [6, 7] rfl rfl ?_
  refine Tr.seq (Tr.rs [] (.k (mv .k (.b 3 rfl)) (.k (ne_ .k (.g 0 rfl) .c rfl) .n)) [0, 1, 2, 3] [1] rfl rfl ?_)
  refine Tr.cond 4 rfl (fun _ => ?_) nofun
  refine Tr.rs [] (.k (mv .k (.b 3 rfl)) (.k (nilvs .k (.inl rfl)) (.k (asg .k .c) (.k (asg .k (.g 0 rfl)) .n)))) [] [1, 2, 3] rfl rfl ?_
  refine Tr.ret (end_tmp3 0 1 2 rfl rfl rfl rfl)
 ·
  have hm2 : m ≤ 1000 := by omega
  have hA := argBad_ok hm hok
  have hD := degR_ok hm hok
  refine Tr.rs [] (.k (mv .k (.b 0 rfl)) (.k (mv .k (.b 1 rfl)) (.k (cal .k Try.func12 rfl (fn_rDeg_of hD hl) (.k (.g 0 rfl) (.k (.g 1 rfl) .n))) (.k (mv .k (.g 2 rfl)) (.k (exx .k (.g 3 rfl) rfl) (.k (exx .k (.g 3 rfl) rfl) (.k (asg .k (.g 4 rfl)) (.k (asg .k (.g 5 rfl)) .n)))))))) [0, 1] [6, 7] rfl rfl ?_
  refine Tr.seq (Tr.rs [] (.k (mv .k (.b 3 rfl)) (.k (ne_ .k (.g 0 rfl) .c rfl) .n)) [0, 1, 2, 3] [1] rfl rfl ?_)
  refine Tr.cond 4 rfl nofun (fun _ => ?_)
  refine Tr.skip (Nx.go (Tr.seq (Tr.rs [] (.k (asg .k .c) .n) [0, 1, 2] [0] rfl rfl ?_)))
  refine Tr.block (?_)
  refine Tr.loop (fun n_ F_ => ∃ k : Nat, (k ≤ l.length ∧ ∀ j, 0 ≤ j → j < k → isTw l j = false) ∧ n_ = l.length - k ∧ F_ = [.s 0 (iv ((m : Nat) : Int)), .s 1 (svec l), .s 7 (ivec (degs m l)), .s 9 (iv ((k : Nat) : Int))]) (l.length - 0) (F0 := [.s 0 (iv ((m : Nat) : Int)), .s 1 (svec l), .s 7 (ivec (degs m l)), .s 9 (iv ((0 : Nat) : Int))]) ⟨0, ⟨Nat.zero_le _, fun j _ h => by omega⟩, rfl, rfl⟩ (Sub.all (.cons 0 rfl (.cons 1 rfl (.cons 2 rfl (.cons 3 rfl .nil))))) (fun n_ F_ hI => ?_)
  obtain ⟨k, hinv, rfl, rfl⟩ := hI
  refine Tr.seq (Tr.rs [] (.k (mv .k (.b 3 rfl)) (.k (mv .k (.b 1 rfl)) (.k (len_ .k rwS (.g 1 rfl) (by rw [List.length_map])) (.k (lt_ .k (.g 0 rfl) (.g 2 rfl) rfl) .n)))) [0, 1, 2, 3] [3] rfl rfl ?_)
  refine Tr.cond 4 rfl (fun e31 => ?_) (fun e31 => ?_)
  ·
   have hk2 : k < l.length := by have := of_decide_eq_true e31; omega
   refine Tr.skip (Nx.go (Tr.seq (Tr.block (?_))))
   obtain ⟨s, p1⟩ : ∃ s, l[k]? = some s := ⟨_, List.getElem?_eq_getElem hk2⟩
   refine Tr.rs [] (.k (asg .k .c) .n) [0, 1, 2, 3] [0] rfl rfl ?_
   refine Tr.block (?_)
   refine Tr.loop (fun n_ F_ => ∃ j : Nat, (j ≤ k ∧ nrm s ∉ ((l.take j).map nrm).reverse) ∧ n_ = k - j ∧ F_ = [.s 0 (iv ((m : Nat) : Int)), .s 1 (svec l), .s 7 (ivec (degs m l)), .s 9 (iv ((k : Nat) : Int)), .s 10 (iv ((j : Nat) : Int))]) (k - 0) (F0 := [.s 0 (iv ((m : Nat) : Int)), .s 1 (svec l), .s 7 (ivec (degs m l)), .s 9 (iv ((k : Nat) : Int)), .s 10 (iv ((0 : Nat) : Int))]) ⟨0, ⟨Nat.zero_le _, by simp⟩, rfl, rfl⟩ (Sub.all (.cons 0 rfl (.cons 1 rfl (.cons 2 rfl (.cons 3 rfl (.cons 4 rfl .nil)))))) (fun n_ F_ hI => ?_)
   obtain ⟨j, hjv, rfl, rfl⟩ := hI
   refine Tr.seq (Tr.rs [] (.k (mv .k (.b 4 rfl)) (.k (mv .k (.b 3 rfl)) (.k (lt_ .k (.g 0 rfl) (.g 1 rfl) rfl) .n))) [0, 1, 2, 3, 4] [2] rfl rfl ?_)
   refine Tr.cond 5 rfl (fun e36 => ?_) (fun e36 => ?_)
   ·
    have hj2 : j < k := by have := of_decide_eq_true e36; omega
    refine Tr.skip (Nx.go (Tr.seq (Tr.block (?_))))
    obtain ⟨u, p2⟩ : ∃ u, l[j]? = some u := ⟨_, List.getElem?_eq_getElem (by omega)⟩; by_cases hlk : nrm s = nrm u
    ·
     have htw : isTw l k = true := by rw [isTw_at p1]; exact decide_eq_true (by rw [List.mem_reverse, hlk]; exact List.mem_map_of_mem (List.mem_of_getElem? (show (l.take k)[j]? = some u by rw [List.getElem?_take, if_pos hj2]; exact p2)))
     have hT : twF l = (k : Int) := first_at hinv.2 htw (Nat.zero_le _) (by omega)
     rw [ringsR_tw hA (by omega), hT]
     refine Tr.ds hmx [] (.k (mv .k (.b 1 rfl)) (.k (mv .k (.b 3 rfl)) (.k (idx_ .k rwS (.g 0 rfl) (.g 1 rfl) rfl (by rw [List.getElem?_map, p1]; rfl)) (.k (ld_at .k (.g 2 rfl) tyS rfl (show _ = sgv (_, _) from rfl)) (.k (mv .k (.b 1 rfl)) (.k (mv .k (.b 4 rfl)) (.k (idx_ .k rwS (.g 4 rfl) (.g 5 rfl) rfl (by rw [List.getElem?_map, p2]; rfl)) (.k (ld_at .k (.g 6 rfl) tyS rfl (show _ = sgv (_, _) from rfl)) (.k (cal .k Try.func29 rfl (decide_eq_true hlk ▸ fn_like s u) (.k (.g 3 rfl) (.k (.g 7 rfl) .n))) .n))))))))) [0, 1, 2, 3, 4] [8] rfl rfl ?_
     refine Tr.cond 5 rfl (fun _ => ?_) nofun
     refine Tr.rs [] (.k (mv .k (.b 3 rfl)) (.k (nilvs .k (.inl rfl)) (.k (asg .k (.g 0 rfl)) (.k (asg .k .c) .n)))) [] [1, 2, 3] rfl rfl ?_
     refine Tr.ret (end_tmp3 0 1 2 rfl rfl rfl rfl)
    ·
     refine Tr.ds hmx [] (.k (mv .k (.b 1 rfl)) (.k (mv .k (.b 3 rfl)) (.k (idx_ .k rwS (.g 0 rfl) (.g 1 rfl) rfl (by rw [List.getElem?_map, p1]; rfl)) (.k (ld_at .k (.g 2 rfl) tyS rfl (show _ = sgv (_, _) from rfl)) (.k (mv .k (.b 1 rfl)) (.k (mv .k (.b 4 rfl)) (.k (idx_ .k rwS (.g 4 rfl) (.g 5 rfl) rfl (by rw [List.getElem?_map, p2]; rfl)) (.k (ld_at .k (.g 6 rfl) tyS rfl (show _ = sgv (_, _) from rfl)) (.k (cal .k Try.func29 rfl (decide_eq_false hlk ▸ fn_like s u) (.k (.g 3 rfl) (.k (.g 7 rfl) .n))) .n))))))))) [0, 1, 2, 3, 4] [8] rfl rfl ?_
     refine Tr.cond 5 rfl nofun (fun _ => ?_)
     refine Tr.skip (Nx.bkN (Nx.go (Tr.reg [(4, 2)] (.k (mv .k (.b 4 rfl)) (.k (add_ .k (.g 0 rfl) .c (show IntKind.i64.wrap ((j : Int) + 1) = ((j + 1 : Nat) : Int) by rw [IntWalk.i64_in _ (by omega)]; omega)) (.k (asg .k (.g 1 rfl)) .n))) [0, 1, 2, 3] [2] rfl rfl (Nx.again (k - (j + 1)) (by omega) [.s 0 (iv ((m : Nat) : Int)), .s 1 (svec l), .s 7 (ivec (degs m l)), .s 9 (iv ((k : Nat) : Int)), .s 10 (iv (((j + 1) : Nat) : Int))] ⟨(j + 1), ⟨by omega, not_succ hjv.2 p2 hlk⟩, rfl, rfl⟩ (Sub.all (.cons 0 rfl (.cons 1 rfl (.cons 2 rfl (.cons 3 rfl (.cons 4 rfl .nil))))))))))
   ·
    obtain rfl : k = j := by have := of_decide_eq_false e36; omega
    refine Tr.exit (Nx.thX (Nx.thX (Nx.bkX (Nx.bkN (Nx.go (?_))))))
    have htw : isTw l k = false := (isTw_at p1).trans (decide_eq_false hjv.2)
    refine Tr.reg [(3, 2)] (.k (mv .k (.b 3 rfl)) (.k (add_ .k (.g 0 rfl) .c (show IntKind.i64.wrap ((k : Int) + 1) = ((k + 1 : Nat) : Int) by rw [IntWalk.i64_in _ (by omega)]; omega)) (.k (asg .k (.g 1 rfl)) .n))) [0, 1, 2] [2] rfl rfl (Nx.again (l.length - (k + 1)) (by omega) [.s 0 (iv ((m : Nat) : Int)), .s 1 (svec l), .s 7 (ivec (degs m l)), .s 9 (iv (((k + 1) : Nat) : Int))] ⟨(k + 1), ⟨by omega, none_succ hinv.2 htw⟩, rfl, rfl⟩ (Sub.all (.cons 0 rfl (.cons 1 rfl (.cons 2 rfl (.cons 3 rfl .nil))))))
  ·
   obtain rfl : k = l.length := by have := of_decide_eq_false e31; omega
   refine Tr.exit (Nx.thX (Nx.thX (Nx.bkX (Nx.go (?_)))))
   have hT : ¬ twF l ≥ 0 := by rw [show twF l = -1 from first_none fun j h0 h => hinv.2 j h0 (by omega)]; decide
   refine Tr.seq (Tr.rs [] (.k (asg .k .c) .n) [0, 1, 2] [0] rfl rfl ?_)
   refine Tr.block (?_)
   refine Tr.loop (fun n_ F_ => ∃ k : Nat, (k ≤ m ∧ ∀ j, 0 ≤ j → j < k → badAt (degs m l) j = false) ∧ n_ = m - k ∧ F_ = [.s 0 (iv ((m : Nat) : Int)), .s 1 (svec l), .s 7 (ivec (degs m l)), .s 11 (iv ((k : Nat) : Int))]) (m - 0) (F0 := [.s 0 (iv ((m : Nat) : Int)), .s 1 (svec l), .s 7 (ivec (degs m l)), .s 11 (iv ((0 : Nat) : Int))]) ⟨0, ⟨Nat.zero_le _, fun j _ h => by omega⟩, rfl, rfl⟩ (Sub.all (.cons 0 rfl (.cons 1 rfl (.cons 2 rfl (.cons 3 rfl .nil))))) (fun n_ F_ hI => ?_)
   obtain ⟨k, hinv, rfl, rfl⟩ := hI
   refine Tr.seq (Tr.rs [] (.k (mv .k (.b 3 rfl)) (.k (mv .k (.b 0 rfl)) (.k (lt_ .k (.g 0 rfl) (.g 1 rfl) rfl) .n))) [0, 1, 2, 3] [2] rfl rfl ?_)
   refine Tr.cond 4 rfl (fun e51 => ?_) (fun e51 => ?_)
   ·
    have hk2 : k < m := by have := of_decide_eq_true e51; omega
    refine Tr.skip (Nx.go (Tr.seq (Tr.block (?_))))
    rcases bad_ways (degs m l) (degs_at hk2) with ⟨h1, hrb⟩ | ⟨h1, h2, hrb⟩ | ⟨h1, h2, hrb⟩
    ·
     refine Tr.rs [] (.k (mv .k (.b 2 rfl)) (.k (mv .k (.b 3 rfl)) (.k (idx_ .k rwI (.g 0 rfl) (.g 1 rfl) rfl (by rw [List.getElem?_map, degs_at hk2]; rfl)) (.k (ldc_at .k (.g 2 rfl) tyI) (.k (ne_ .k (.g 3 rfl) .c (bne_eq_false_iff_eq.2 h1)) (.k (mv .k (.g 4 rfl)) (.k (skp (.on (.g 5 rfl) rfl rfl)) (.k (skp (.on (.g 5 rfl) rfl rfl)) (.k (skp (.on (.g 5 rfl) rfl rfl)) (.k (skp (.on (.g 5 rfl) rfl rfl)) (.k (skp (.on (.g 5 rfl) rfl rfl)) (.k (pickF .k (.g 5 rfl) .c) .n)))))))))))) [0, 1, 2, 3] [11] rfl rfl ?_
     refine Tr.cond 4 rfl nofun (fun _ => ?_)
     refine Tr.skip (Nx.bkN (Nx.go (Tr.reg [(3, 2)] (.k (mv .k (.b 3 rfl)) (.k (add_ .k (.g 0 rfl) .c (show IntKind.i64.wrap ((k : Int) + 1) = ((k + 1 : Nat) : Int) by rw [IntWalk.i64_in _ (by omega)]; omega)) (.k (asg .k (.g 1 rfl)) .n))) [0, 1, 2] [2] rfl rfl (Nx.again (m - (k + 1)) (by omega) [.s 0 (iv ((m : Nat) : Int)), .s 1 (svec l), .s 7 (ivec (degs m l)), .s 11 (iv (((k + 1) : Nat) : Int))] ⟨(k + 1), ⟨by omega, none_succ hinv.2 hrb⟩, rfl, rfl⟩ (Sub.all (.cons 0 rfl (.cons 1 rfl (.cons 2 rfl (.cons 3 rfl .nil)))))))))
    ·
     refine Tr.rs [] (.k (mv .k (.b 2 rfl)) (.k (mv .k (.b 3 rfl)) (.k (idx_ .k rwI (.g 0 rfl) (.g 1 rfl) rfl (by rw [List.getElem?_map, degs_at hk2]; rfl)) (.k (ldc_at .k (.g 2 rfl) tyI) (.k (ne_ .k (.g 3 rfl) .c (bne_iff_ne.2 h1)) (.k (mv .k (.g 4 rfl)) (.k (mv (.on (.g 5 rfl) rfl rfl) (.b 2 rfl)) (.k (mv (.on (.g 5 rfl) rfl rfl) (.b 3 rfl)) (.k (idx_ (.on (.g 5 rfl) rfl rfl) rwI (.g 6 rfl) (.g 7 rfl) rfl (by rw [List.getElem?_map, degs_at hk2]; rfl)) (.k (ldc_at (.on (.g 5 rfl) rfl rfl) (.g 8 rfl) tyI) (.k (ne_ (.on (.g 5 rfl) rfl rfl) (.g 9 rfl) .c (bne_eq_false_iff_eq.2 h2)) (.k (pickT .k (.g 5 rfl) (.g 10 rfl)) .n)))))))))))) [0, 1, 2, 3] [11] rfl rfl ?_
     refine Tr.cond 4 rfl nofun (fun _ => ?_)
     refine Tr.skip (Nx.bkN (Nx.go (Tr.reg [(3, 2)] (.k (mv .k (.b 3 rfl)) (.k (add_ .k (.g 0 rfl) .c (show IntKind.i64.wrap ((k : Int) + 1) = ((k + 1 : Nat) : Int) by rw [IntWalk.i64_in _ (by omega)]; omega)) (.k (asg .k (.g 1 rfl)) .n))) [0, 1, 2] [2] rfl rfl (Nx.again (m - (k + 1)) (by omega) [.s 0 (iv ((m : Nat) : Int)), .s 1 (svec l), .s 7 (ivec (degs m l)), .s 11 (iv (((k + 1) : Nat) : Int))] ⟨(k + 1), ⟨by omega, none_succ hinv.2 hrb⟩, rfl, rfl⟩ (Sub.all (.cons 0 rfl (.cons 1 rfl (.cons 2 rfl (.cons 3 rfl .nil)))))))))
    ·
     have hI : idxF (degs m l) = (k : Int) := first_at hinv.2 hrb (Nat.zero_le _) (by rw [degs_len]; omega)
     rw [ringsR_ix hA hT (by omega), hI]
     refine Tr.rs [] (.k (mv .k (.b 2 rfl)) (.k (mv .k (.b 3 rfl)) (.k (idx_ .k rwI (.g 0 rfl) (.g 1 rfl) rfl (by rw [List.getElem?_map, degs_at hk2]; rfl)) (.k (ldc_at .k (.g 2 rfl) tyI) (.k (ne_ .k (.g 3 rfl) .c (bne_iff_ne.2 h1)) (.k (mv .k (.g 4 rfl)) (.k (mv (.on (.g 5 rfl) rfl rfl) (.b 2 rfl)) (.k (mv (.on (.g 5 rfl) rfl rfl) (.b 3 rfl)) (.k (idx_ (.on (.g 5 rfl) rfl rfl) rwI (.g 6 rfl) (.g 7 rfl) rfl (by rw [List.getElem?_map, degs_at hk2]; rfl)) (.k (ldc_at (.on (.g 5 rfl) rfl rfl) (.g 8 rfl) tyI) (.k (ne_ (.on (.g 5 rfl) rfl rfl) (.g 9 rfl) .c (bne_iff_ne.2 h2)) (.k (pickT .k (.g 5 rfl) (.g 10 rfl)) .n)))))))))))) [0, 1, 2, 3] [11] rfl rfl ?_
     refine Tr.cond 4 rfl (fun _ => ?_) nofun
     refine Tr.rs [] (.k (mv .k (.b 3 rfl)) (.k (nilvs .k (.inl rfl)) (.k (asg .k (.g 0 rfl)) (.k (asg .k .c) .n)))) [] [1, 2, 3] rfl rfl ?_
     refine Tr.ret (end_tmp3 0 1 2 rfl rfl rfl rfl)
   ·
    obtain rfl : m = k := by have := of_decide_eq_false e51; omega
    refine Tr.exit (Nx.thX (Nx.thX (Nx.bkX (Nx.go (?_)))))
    have hI : ¬ idxF (degs m l) ≥ 0 := by rw [show idxF (degs m l) = -1 from first_none fun j h0 h => hinv.2 j h0 (by rw [degs_len] at h; omega)]; decide
    rw [ringsR_ok hA hT hI]
    have T := two_ok hok hT hI
    refine Tr.rs [] (.k (oini (sz := 1) (E := 24) .k (.inl rfl)) .n) [0, 1, 2] [0] rfl rfl ?_
    refine Tr.rs [] (.k (oini (sz := 1) (E := 3) .k (.inl rfl)) .n) [0, 1, 2, 3] [0] rfl rfl ?_
    refine Tr.vnil ?_
    refine Tr.seq (Tr.rs [] (.k (asg .k .c) .n) [0, 1, 2, 3, 4, 5] [0] rfl rfl ?_)
    refine Tr.block (?_)
    refine Tr.loop (fun n_ F_ => ∃ k : Nat, ∃ vs : List Value, (k ≤ m ∧ vs.length ≤ k) ∧ n_ = m - k ∧ F_ = [.s 0 (iv ((m : Nat) : Int)), .s 1 (svec l), .s 7 (ivec (degs m l)), .o 12 1 24 (vs.map fun v => [v]), .o 13 1 3 ((outF (nbF m l) (degs m l) k).flatten.map fun z => [ic z]), .s 14 (iv ((k : Nat) : Int)), .v vs ((outF (nbF m l) (degs m l) k).map ivec)]) (m - 0) (F0 := [.s 0 (iv ((m : Nat) : Int)), .s 1 (svec l), .s 7 (ivec (degs m l)), .o 12 1 24 ([].map fun v => [v]), .o 13 1 3 ((outF (nbF m l) (degs m l) 0).flatten.map fun z => [ic z]), .s 14 (iv ((0 : Nat) : Int)), .v [] ((outF (nbF m l) (degs m l) 0).map ivec)]) ⟨0, [], ⟨Nat.zero_le _, Nat.le_refl _⟩, rfl, rfl⟩ (Sub.all (.cons 1 rfl (.cons 2 rfl (.cons 3 rfl (.cons 4 rfl (.cons 5 rfl (.cons 6 rfl (.cons 0 rfl .nil)))))))) (fun n_ F_ hI => ?_)
    obtain ⟨k, vs, hinv, rfl, rfl⟩ := hI
    refine Tr.seq (Tr.rs [] (.k (mv .k (.b 5 rfl)) (.k (mv .k (.b 0 rfl)) (.k (lt_ .k (.g 0 rfl) (.g 1 rfl) rfl) .n))) [0, 1, 2, 3, 4, 5, 6] [2] rfl rfl ?_)
    refine Tr.cond 7 rfl (fun e69 => ?_) (fun e69 => ?_)
    ·
     have hk2 : k < m := by have := of_decide_eq_true e69; omega
     refine Tr.skip (Nx.go (Tr.seq (Tr.block (Tr.rs [] (.k (mv .k (.b 2 rfl)) (.k (mv .k (.b 5 rfl)) (.k (idx_ .k rwI (.g 0 rfl) (.g 1 rfl) rfl (by rw [List.getElem?_map, degs_at hk2]; rfl)) (.k (ldc_at .k (.g 2 rfl) tyI) (.k (eq_ .k (.g 3 rfl) .c rfl) (.k (asg .k (.g 4 rfl)) .n)))))) [0, 1, 2, 3, 4, 5, 6] [5] rfl rfl ?_))))
     rw [show (cntE l k == 0) = (cntE l k == 0 || decide (((k : Nat) : Int) ∈ (outF (nbF m l) (degs m l) k).flatten.take 0)) by simp]
     have hflat := outF_flat (nbF m l) (degs m l) k
     rw [nbF_len] at hflat
     have hfl2 : (outF (nbF m l) (degs m l) k).flatten.length ≤ 1100000 := Nat.le_trans hflat (Nat.le_trans (Nat.mul_le_mul (show k ≤ 1000 by omega) (show m + 1 ≤ 1001 by omega)) (by decide))
     refine Tr.seq (Tr.rs [] (.k (asg .k .c) .n) [0, 1, 2, 3, 4, 5, 6, 7] [0] rfl rfl ?_)
     refine Tr.block (?_)
     refine Tr.loop (fun n_ F_ => ∃ j : Nat, (j ≤ (outF (nbF m l) (degs m l) k).flatten.length) ∧ n_ = (outF (nbF m l) (degs m l) k).flatten.length - j ∧ F_ = [.s 0 (iv ((m : Nat) : Int)), .s 1 (svec l), .s 7 (ivec (degs m l)), .o 12 1 24 (vs.map fun v => [v]), .o 13 1 3 ((outF (nbF m l) (degs m l) k).flatten.map fun z => [ic z]), .s 14 (iv ((k : Nat) : Int)), .v vs ((outF (nbF m l) (degs m l) k).map ivec), .s 15 (bv (cntE l k == 0 || decide (((k : Nat) : Int) ∈ (outF (nbF m l) (degs m l) k).flatten.take j))), .s 16 (iv ((j : Nat) : Int))]) ((outF (nbF m l) (degs m l) k).flatten.length - 0) (F0 := [.s 0 (iv ((m : Nat) : Int)), .s 1 (svec l), .s 7 (ivec (degs m l)), .o 12 1 24 (vs.map fun v => [v]), .o 13 1 3 ((outF (nbF m l) (degs m l) k).flatten.map fun z => [ic z]), .s 14 (iv ((k : Nat) : Int)), .v vs ((outF (nbF m l) (degs m l) k).map ivec), .s 15 (bv (cntE l k == 0 || decide (((k : Nat) : Int) ∈ (outF (nbF m l) (degs m l) k).flatten.take 0))), .s 16 (iv ((0 : Nat) : Int))]) ⟨0, Nat.zero_le _, rfl, rfl⟩ (Sub.all (.cons 0 rfl (.cons 1 rfl (.cons 2 rfl (.cons 3 rfl (.cons 4 rfl (.cons 5 rfl (.cons 6 rfl (.cons 7 rfl (.cons 8 rfl .nil)))))))))) (fun n_ F_ hI => ?_)
     obtain ⟨j, hjv, rfl, rfl⟩ := hI
     refine Tr.seq (Tr.rs [] (.k (mv .k (.b 8 rfl)) (.k (pk .k (.inr rfl) (.b 4 rfl) rfl) (.k (lenA .k rwI (.g 1 rfl) (.b 4 rfl) (by rw [List.length_map])) (.k (lt_ .k (.g 0 rfl) (.g 2 rfl) rfl) .n)))) [0, 1, 2, 3, 4, 5, 6, 7, 8] [3] rfl rfl ?_)
     refine Tr.cond 9 rfl (fun e80 => ?_) (fun e80 => ?_)
     ·
      have hj2 : j < (outF (nbF m l) (degs m l) k).flatten.length := by have := of_decide_eq_true e80; omega
      refine Tr.skip (Nx.go (Tr.seq (Tr.block (?_))))
      obtain ⟨z, p1⟩ : ∃ z, (outF (nbF m l) (degs m l) k).flatten[j]? = some z := ⟨_, List.getElem?_eq_getElem hj2⟩; cases hin : (cntE l k == 0 || decide (((k : Nat) : Int) ∈ (outF (nbF m l) (degs m l) k).flatten.take j))
      ·
       refine Tr.reg [(7, 9)] (.k (mv .k (.b 7 rfl)) (.k (mv .k (.g 0 rfl)) (.k (pk (.on (.g 1 rfl) rfl rfl) (.inr rfl) (.b 4 rfl) rfl) (.k (mv (.on (.g 1 rfl) rfl rfl) (.b 8 rfl)) (.k (idxA (.on (.g 1 rfl) rfl rfl) rwI (.g 2 rfl) (.b 4 rfl) rfl (.g 3 rfl) rfl (by rw [List.getElem?_map, p1]; rfl) (Nat.mul_one _)) (.k (ldA (.on (.g 1 rfl) rfl rfl) (.g 4 rfl) (.b 4 rfl) tyI (by rw [← flat1, List.getElem?_map, p1]; rfl)) (.k (mv (.on (.g 1 rfl) rfl rfl) (.b 5 rfl)) (.k (eq_ (.on (.g 1 rfl) rfl rfl) (.g 5 rfl) (.g 6 rfl) rfl) (.k (pickF .k (.g 1 rfl) (.g 7 rfl)) (.k (asgk .k (.g 8 rfl) (in_succ hin p1)) .n)))))))))) [0, 1, 2, 3, 4, 5, 6, 8] [9] rfl rfl (Nx.bkN (Nx.go (Tr.reg [(7, 2)] (.k (mv .k (.b 7 rfl)) (.k (add_ .k (.g 0 rfl) .c (show IntKind.i64.wrap ((j : Int) + 1) = ((j + 1 : Nat) : Int) by rw [IntWalk.i64_in _ (by omega)]; omega)) (.k (asg .k (.g 1 rfl)) .n))) [0, 1, 2, 3, 4, 5, 6, 8] [2] rfl rfl (Nx.again ((outF (nbF m l) (degs m l) k).flatten.length - (j + 1)) (by omega) [.s 0 (iv ((m : Nat) : Int)), .s 1 (svec l), .s 7 (ivec (degs m l)), .o 12 1 24 (vs.map fun v => [v]), .o 13 1 3 ((outF (nbF m l) (degs m l) k).flatten.map fun z => [ic z]), .s 14 (iv ((k : Nat) : Int)), .v vs ((outF (nbF m l) (degs m l) k).map ivec), .s 15 (bv (cntE l k == 0 || decide (((k : Nat) : Int) ∈ (outF (nbF m l) (degs m l) k).flatten.take (j + 1)))), .s 16 (iv (((j + 1) : Nat) : Int))] ⟨(j + 1), (by omega), rfl, rfl⟩ (Sub.all (.cons 0 rfl (.cons 1 rfl (.cons 2 rfl (.cons 3 rfl (.cons 4 rfl (.cons 5 rfl (.cons 6 rfl (.cons 7 rfl (.cons 8 rfl .nil))))))))))))))
      ·
       refine Tr.reg [(7, 9)] (.k (mv .k (.b 7 rfl)) (.k (mv .k (.g 0 rfl)) (.k (skpv (.on (.g 1 rfl) rfl rfl)) (.k (skp (.on (.g 1 rfl) rfl rfl)) (.k (skp (.on (.g 1 rfl) rfl rfl)) (.k (skp (.on (.g 1 rfl) rfl rfl)) (.k (skp (.on (.g 1 rfl) rfl rfl)) (.k (skp (.on (.g 1 rfl) rfl rfl)) (.k (pickT .k (.g 1 rfl) .c) (.k (asgk .k (.g 8 rfl) (in_succ2 hin p1)) .n)))))))))) [0, 1, 2, 3, 4, 5, 6, 8] [9] rfl rfl (Nx.bkN (Nx.go (Tr.reg [(7, 2)] (.k (mv .k (.b 7 rfl)) (.k (add_ .k (.g 0 rfl) .c (show IntKind.i64.wrap ((j : Int) + 1) = ((j + 1 : Nat) : Int) by rw [IntWalk.i64_in _ (by omega)]; omega)) (.k (asg .k (.g 1 rfl)) .n))) [0, 1, 2, 3, 4, 5, 6, 8] [2] rfl rfl (Nx.again ((outF (nbF m l) (degs m l) k).flatten.length - (j + 1)) (by omega) [.s 0 (iv ((m : Nat) : Int)), .s 1 (svec l), .s 7 (ivec (degs m l)), .o 12 1 24 (vs.map fun v => [v]), .o 13 1 3 ((outF (nbF m l) (degs m l) k).flatten.map fun z => [ic z]), .s 14 (iv ((k : Nat) : Int)), .v vs ((outF (nbF m l) (degs m l) k).map ivec), .s 15 (bv (cntE l k == 0 || decide (((k : Nat) : Int) ∈ (outF (nbF m l) (degs m l) k).flatten.take (j + 1)))), .s 16 (iv (((j + 1) : Nat) : Int))] ⟨(j + 1), (by omega), rfl, rfl⟩ (Sub.all (.cons 0 rfl (.cons 1 rfl (.cons 2 rfl (.cons 3 rfl (.cons 4 rfl (.cons 5 rfl (.cons 6 rfl (.cons 7 rfl (.cons 8 rfl .nil))))))))))))))
     ·
      have hje : j = (outF (nbF m l) (degs m l) k).flatten.length := by have := of_decide_eq_false e80; omega
      refine Tr.exit (Nx.thX (Nx.thX (Nx.bkX (Nx.go (?_)))))
      subst hje
      rw [List.take_length]
      refine Tr.seq (Tr.rs [] (.k (mv .k (.b 7 rfl)) .n) [0, 1, 2, 3, 4, 5, 6] [0] rfl rfl ?_)
      refine Tr.cond 7 rfl (fun e92 => ?_) (fun e92 => ?_)
      ·
       rw [← outF_skip (nb := nbF m l) (d := degs m l) (k := k) (in_yes hk2 e92)]
       refine Tr.exit (Nx.thX (Nx.bkX (Nx.go (Tr.reg [(5, 2)] (.k (mv .k (.b 5 rfl)) (.k (add_ .k (.g 0 rfl) .c (show IntKind.i64.wrap ((k : Int) + 1) = ((k + 1 : Nat) : Int) by rw [IntWalk.i64_in _ (by omega)]; omega)) (.k (asg .k (.g 1 rfl)) .n))) [0, 1, 2, 3, 4, 6] [2] rfl rfl (Nx.again (m - (k + 1)) (by omega) [.s 0 (iv ((m : Nat) : Int)), .s 1 (svec l), .s 7 (ivec (degs m l)), .o 12 1 24 (vs.map fun v => [v]), .o 13 1 3 ((outF (nbF m l) (degs m l) (k + 1)).flatten.map fun z => [ic z]), .s 14 (iv (((k + 1) : Nat) : Int)), .v vs ((outF (nbF m l) (degs m l) (k + 1)).map ivec)] ⟨(k + 1), vs, ⟨by omega, by omega⟩, rfl, rfl⟩ (Sub.all (.cons 0 rfl (.cons 1 rfl (.cons 2 rfl (.cons 3 rfl (.cons 4 rfl (.cons 6 rfl (.cons 5 rfl .nil)))))))))))))
      ·
       obtain ⟨hd, hs⟩ := in_no e92; obtain ⟨q1, q2, q3⟩ := (T.back hk2 hd).len (nbF_len m l)
       refine Tr.skip (Nx.go (Tr.gos (Go.k (mv .k (.b 5 rfl)) [0, 1, 2, 3, 4, 5, 6] rfl rfl (Go.k (mkown .k rwI (.k (.b 0 rfl) .n) rfl rfl (by kernel_rfl) (by decide) (show _ = ((ringTo (nbF m l) ((k : Nat) : Int) 0).map fun z => [ic z]) from rfl)) [1, 2, 3, 4, 5, 6, 7] rfl rfl (Go.k (omv .k (.inl rfl) (.b 0 rfl)) [1, 2, 3, 4, 5, 6, 7] rfl rfl (Go.end_ (Nx.go (?_))))))))
       refine Tr.seq (Tr.block (?_))
       refine Tr.loop (fun n_ F_ => ∃ j : Nat, (j ≤ (lenR (nbF m l) ((k : Nat) : Int))) ∧ n_ = (lenR (nbF m l) ((k : Nat) : Int)) - j ∧ F_ = [.s 0 (iv ((m : Nat) : Int)), .s 1 (svec l), .s 7 (ivec (degs m l)), .o 12 1 24 (vs.map fun v => [v]), .o 13 1 3 ((outF (nbF m l) (degs m l) k).flatten.map fun z => [ic z]), .s 14 (iv ((k : Nat) : Int)), .v vs ((outF (nbF m l) (degs m l) k).map ivec), .o 17 1 3 ((ringTo (nbF m l) ((k : Nat) : Int) j).map fun z => [ic z])]) ((lenR (nbF m l) ((k : Nat) : Int)) - 0) (F0 := [.s 0 (iv ((m : Nat) : Int)), .s 1 (svec l), .s 7 (ivec (degs m l)), .o 12 1 24 (vs.map fun v => [v]), .o 13 1 3 ((outF (nbF m l) (degs m l) k).flatten.map fun z => [ic z]), .s 14 (iv ((k : Nat) : Int)), .v vs ((outF (nbF m l) (degs m l) k).map ivec), .o 17 1 3 ((ringTo (nbF m l) ((k : Nat) : Int) 0).map fun z => [ic z])]) ⟨0, Nat.zero_le _, rfl, rfl⟩ (Sub.all (.cons 1 rfl (.cons 2 rfl (.cons 3 rfl (.cons 4 rfl (.cons 5 rfl (.cons 6 rfl (.cons 7 rfl (.cons 0 rfl .nil))))))))) (fun n_ F_ hI => ?_)
       obtain ⟨j, hjv, rfl, rfl⟩ := hI
       refine Tr.block (?_)
       have hbes := T.bes hk2 hd hjv; by_cases hlt : j < (lenR (nbF m l) ((k : Nat) : Int))
       ·
        rw [if_pos hlt] at hbes
        obtain ⟨-, c, hc, hcn⟩ := q3 j hlt
        refine Tr.gos (Go.k (mv .k (.b 1 rfl)) [0, 1, 2, 3, 4, 5, 6, 7] rfl rfl (Go.k (pk .k (.inr rfl) (.b 8 rfl) rfl) [0, 1, 2, 3, 4, 5, 6, 7, 8] rfl rfl (Go.k (pk .k (.inr rfl) (.b 9 rfl) rfl) [0, 1, 2, 3, 4, 5, 6, 7, 8, 9] rfl rfl (Go.k (lenA .k rwI (.b 0 rfl) (.b 10 rfl) (by rw [List.length_map, ringTo_len])) [1, 2, 3, 4, 5, 6, 7, 8, 9, 10] rfl rfl (Go.k (sub_ .k (.b 0 rfl) .c (show IntKind.i64.wrap (((j + 1 : Nat) : Int) - 1) = ((j : Nat) : Int) by rw [IntWalk.i64_in _ (by omega)]; omega)) [1, 2, 3, 4, 5, 6, 7, 8, 9, 10] rfl rfl (Go.k (idxA .k rwI (.b 1 rfl) (.b 10 rfl) rfl (.b 0 rfl) rfl (by rw [List.getElem?_map, ringTo_last]; rfl) (Nat.mul_one _)) [2, 3, 4, 5, 6, 7, 8, 9, 10] rfl rfl (Go.k (ldA .k (.b 0 rfl) (.b 9 rfl) tyI (by rw [← flat1, List.getElem?_map, ringTo_last]; rfl)) [1, 2, 3, 4, 5, 6, 7, 8, 9] rfl rfl (Go.k (pk .k (.inr rfl) (.b 9 rfl) rfl) [0, 1, 2, 3, 4, 5, 6, 7, 8, 9] rfl rfl (Go.k (calw .k Try.func30 rfl (hbes ▸ fn_beside l (seqR (nbF m l) ((k : Nat) : Int) j).1 (ringTo (nbF m l) ((k : Nat) : Int) j) hl (by rw [ringTo_len]; omega)) (.k (.b 2 rfl) (.k (.b 1 rfl) (.a (.b 0 rfl) (.b 10 rfl) .n)))) [3, 4, 5, 6, 7, 8, 9, 10] rfl rfl (Go.k (asg .k (.b 0 rfl)) [1, 2, 3, 4, 5, 6, 7, 8] rfl rfl (Go.end_ (Nx.go (?_)))))))))))))
        refine Tr.seq (Tr.rs [] (.k (mv .k (.b 0 rfl)) (.k (lt_ .k (.g 0 rfl) .c (decide_eq_false (by omega))) .n)) [0, 1, 2, 3, 4, 5, 6, 7, 8] [1] rfl rfl ?_)
        refine Tr.cond 9 rfl nofun (fun _ => ?_)
        refine Tr.skip (Nx.go (Tr.go (Go.k (omv .k (.inr rfl) (.b 8 rfl)) [0, 1, 2, 3, 4, 5, 6, 7] rfl rfl (Go.k (mv .k (.b 1 rfl)) [0, 2, 3, 4, 5, 6, 7, 8] rfl rfl (Go.k (mkrow .k rwI (.k (.b 0 rfl) .n) rfl rfl (by kernel_rfl)) [1, 2, 3, 4, 5, 6, 7, 8] rfl rfl (Go.k (oapp_ .k apI (.b 1 rfl) (.b 0 rfl) (by decide) ⟨ringTo_succ (fun z => [ic z]) _ _ _, ⟨rfl, rfl⟩, by rw [List.length_map, ringTo_len]; omega⟩) [2, 3, 4, 5, 6, 7, 8] rfl rfl (Go.k (omv .k (.inl rfl) (.b 0 rfl)) [1, 2, 3, 4, 5, 6, 7] rfl rfl (Go.end_ (Nx.bkN (Nx.again ((lenR (nbF m l) ((k : Nat) : Int)) - (j + 1)) (by omega) [.s 0 (iv ((m : Nat) : Int)), .s 1 (svec l), .s 7 (ivec (degs m l)), .o 12 1 24 (vs.map fun v => [v]), .o 13 1 3 ((outF (nbF m l) (degs m l) k).flatten.map fun z => [ic z]), .s 14 (iv ((k : Nat) : Int)), .v vs ((outF (nbF m l) (degs m l) k).map ivec), .o 17 1 3 ((ringTo (nbF m l) ((k : Nat) : Int) (j + 1)).map fun z => [ic z])] ⟨(j + 1), (by omega), rfl, rfl⟩ (Sub.all (.cons 1 rfl (.cons 2 rfl (.cons 3 rfl (.cons 4 rfl (.cons 5 rfl (.cons 6 rfl (.cons 7 rfl (.cons 0 rfl .nil)))))))))))))))))))
       ·
        rw [if_neg hlt] at hbes
        refine Tr.gos (Go.k (mv .k (.b 1 rfl)) [0, 1, 2, 3, 4, 5, 6, 7] rfl rfl (Go.k (pk .k (.inr rfl) (.b 8 rfl) rfl) [0, 1, 2, 3, 4, 5, 6, 7, 8] rfl rfl (Go.k (pk .k (.inr rfl) (.b 9 rfl) rfl) [0, 1, 2, 3, 4, 5, 6, 7, 8, 9] rfl rfl (Go.k (lenA .k rwI (.b 0 rfl) (.b 10 rfl) (by rw [List.length_map, ringTo_len])) [1, 2, 3, 4, 5, 6, 7, 8, 9, 10] rfl rfl (Go.k (sub_ .k (.b 0 rfl) .c (show IntKind.i64.wrap (((j + 1 : Nat) : Int) - 1) = ((j : Nat) : Int) by rw [IntWalk.i64_in _ (by omega)]; omega)) [1, 2, 3, 4, 5, 6, 7, 8, 9, 10] rfl rfl (Go.k (idxA .k rwI (.b 1 rfl) (.b 10 rfl) rfl (.b 0 rfl) rfl (by rw [List.getElem?_map, ringTo_last]; rfl) (Nat.mul_one _)) [2, 3, 4, 5, 6, 7, 8, 9, 10] rfl rfl (Go.k (ldA .k (.b 0 rfl) (.b 9 rfl) tyI (by rw [← flat1, List.getElem?_map, ringTo_last]; rfl)) [1, 2, 3, 4, 5, 6, 7, 8, 9] rfl rfl (Go.k (pk .k (.inr rfl) (.b 9 rfl) rfl) [0, 1, 2, 3, 4, 5, 6, 7, 8, 9] rfl rfl (Go.k (calw .k Try.func30 rfl (hbes ▸ fn_beside l (seqR (nbF m l) ((k : Nat) : Int) j).1 (ringTo (nbF m l) ((k : Nat) : Int) j) hl (by rw [ringTo_len]; omega)) (.k (.b 2 rfl) (.k (.b 1 rfl) (.a (.b 0 rfl) (.b 10 rfl) .n)))) [3, 4, 5, 6, 7, 8, 9, 10] rfl rfl (Go.k (asg .k (.b 0 rfl)) [1, 2, 3, 4, 5, 6, 7, 8] rfl rfl (Go.end_ (Nx.go (?_)))))))))))))
        refine Tr.seq (Tr.rs [] (.k (mv .k (.b 0 rfl)) (.k (lt_ .k (.g 0 rfl) .c (decide_eq_true (by decide))) .n)) [0, 1, 2, 3, 4, 5, 6, 7, 8] [1] rfl rfl ?_)
        refine Tr.cond 9 rfl (fun _ => ?_) nofun
        refine Tr.exit (Nx.thX (Nx.bkO (by decide) (Nx.thX (Nx.bkX (Nx.go (?_))))))
        have hje : j = (lenR (nbF m l) ((k : Nat) : Int)) := Nat.le_antisymm hjv (by omega)
        subst hje
        refine Tr.frzo 8 [0, 1, 2, 3, 4, 5, 6, 7, 9] rfl rfl ?_
        have hout := outF_ring (nb := nbF m l) (d := degs m l) (k := k) (by rw [degs_getD hk2]; exact hd) hs
        refine Tr.name 0 rfl (fun A cap => ?_)
        refine Tr.vapp 10 1 rfl rfl ?_
        rw [show (outF (nbF m l) (degs m l) k).map ivec ++ [SP.vec 1 ((ringTo (nbF m l) ((k : Nat) : Int) (lenR (nbF m l) ((k : Nat) : Int))).map fun z => [ic z])] = (outF (nbF m l) (degs m l) (k + 1)).map ivec by rw [hout]; simp [ringAt]]
        refine Tr.gos (Go.k (omv .k (.inr rfl) (.b 8 rfl)) [0, 1, 3, 5, 6, 7, 9, 10] rfl rfl (Go.k (mv .k (.b 2 rfl)) [0, 1, 2, 3, 4, 5, 6, 7, 8] rfl rfl (Go.k (mkrow .k rwL (.k (.b 0 rfl) .n) rfl rfl (by kernel_rfl)) [1, 2, 3, 4, 5, 6, 7, 8, 9] rfl rfl (Go.k (oapp_ .k apL (.b 1 rfl) (.b 0 rfl) (by decide) ⟨(show _ = (vs ++ [Value.slice A ((ringTo (nbF m l) ((k : Nat) : Int) (lenR (nbF m l) ((k : Nat) : Int))).map fun z => [ic z]).length cap]).map (fun v => [v]) by rw [List.map_append]; rfl), ⟨rfl, rfl⟩, by rw [List.length_map]; omega⟩) [2, 3, 4, 5, 6, 7, 8, 9] rfl rfl (Go.k (omv .k (.inl rfl) (.b 0 rfl)) [1, 2, 3, 4, 5, 6, 7, 8] rfl rfl (Go.end_ (Nx.go (?_))))))))
        refine Tr.go (Go.k (omv .k (.inr rfl) (.b 7 rfl)) [0, 1, 3, 4, 5, 6, 8] rfl rfl (Go.k (mv .k (.b 3 rfl)) [0, 1, 2, 4, 5, 6, 7] rfl rfl (Go.k (oapg .k apI (.b 1 rfl) (.b 0 rfl) (by decide) ⟨(show _ = (outF (nbF m l) (degs m l) (k + 1)).flatten.map (fun z => [ic z]) by rw [← List.map_append, ← outF_flat_succ hout]; rfl), ⟨one_all _, by rw [List.length_map, ringTo_len]; omega⟩, by rw [List.length_map, List.length_map, ringTo_len]; omega⟩) [2, 3, 4, 5, 6, 7] rfl rfl (Go.k (omv .k (.inl rfl) (.b 0 rfl)) [1, 2, 3, 4, 5, 6] rfl rfl (Go.end_ (Nx.bkN (Nx.go (Tr.reg [(6, 2)] (.k (mv .k (.b 6 rfl)) (.k (add_ .k (.g 0 rfl) .c (show IntKind.i64.wrap ((k : Int) + 1) = ((k + 1 : Nat) : Int) by rw [IntWalk.i64_in _ (by omega)]; omega)) (.k (asg .k (.g 1 rfl)) .n))) [0, 1, 2, 3, 4, 5] [2] rfl rfl (Nx.again (m - (k + 1)) (by omega) [.s 0 (iv ((m : Nat) : Int)), .s 1 (svec l), .s 7 (ivec (degs m l)), .o 12 1 24 ((vs ++ [Value.slice A ((ringTo (nbF m l) ((k : Nat) : Int) (lenR (nbF m l) ((k : Nat) : Int))).map fun z => [ic z]).length cap]).map fun v => [v]), .o 13 1 3 ((outF (nbF m l) (degs m l) (k + 1)).flatten.map fun z => [ic z]), .s 14 (iv (((k + 1) : Nat) : Int)), .v (vs ++ [Value.slice A ((ringTo (nbF m l) ((k : Nat) : Int) (lenR (nbF m l) ((k : Nat) : Int))).map fun z => [ic z]).length cap]) ((outF (nbF m l) (degs m l) (k + 1)).map ivec)] ⟨(k + 1), (vs ++ [Value.slice A ((ringTo (nbF m l) ((k : Nat) : Int) (lenR (nbF m l) ((k : Nat) : Int))).map fun z => [ic z]).length cap]), ⟨by omega, (by rw [List.length_append]; exact Nat.add_le_add_right hinv.2 1)⟩, rfl, rfl⟩ (Sub.all (.cons 3 rfl (.cons 4 rfl (.cons 5 rfl (.cons 1 rfl (.cons 0 rfl (.cons 6 rfl (.cons 2 rfl .nil)))))))))))))))))
    ·
     obtain rfl : m = k := by have := of_decide_eq_false e69; omega
     refine Tr.exit (Nx.thX (Nx.thX (Nx.bkX (Nx.go (?_)))))
     refine Tr.frzo 3 [0, 1, 2, 4, 5, 6, 7] rfl rfl ?_
     refine Tr.shut 0 6 rfl rfl rfl ?_
     refine Tr.rs [] (.k (mv .k (.b 0 rfl)) (.k (asg .k (.g 0 rfl)) (.k (asg .k .c) (.k (asg .k .c) .n)))) [7] [1, 2, 3] rfl rfl ?_
     refine Tr.ret (end_tmp3 1 2 3 rfl rfl rfl rfl)
end Go.Proofs.Ytcifcohkjifadaa

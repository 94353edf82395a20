/- The rings package: Rings, walked. -/
import Derived.Test.YtcifcohkjifadaaRg2
set_option linter.unusedVariables false
set_option linter.unusedSimpArgs false
namespace Go.Proofs.Ytcifcohkjifadaa
open Go Go.RowKit Go.Proofs.Ytcifcohkjifadaa.Fx Go.Proofs.YtcifcohkjifadaaW.PrintWords
set_option maxRecDepth 100000 in
set_option maxHeartbeats 8000000 in
theorem fn_Rings0 (n : Int) (l : List (Int × Int)) (hl : l.length ≤ 100000) (hB : ∀ m : Nat, n = m → l.any (segBad m) = false → ¬ twF l ≥ 0 → ¬ idxF (degs m l) ≥ 0 → ∀ i, i < m → cntE l i ≠ 0 → Back m (nbF m l) i) : FnC Try.prog 13 [iv n, svec l] (.tup [lvec (ringsR n l).1, iv (ringsR n l).2.1, iv (ringsR n l).2.2]) := by
 refine FnC.of (N := 137) Try.func13 rfl rfl (Nat.le_of_ble_eq_true rfl) (fun w0 ok0 => ?_)
 refine Tr.rs [] (.k (nilvs .k (.inl rfl)) (.k (asg .k .c) (.k (asg .k .c) .n))) [0, 1] [] rfl rfl ?_
 rcases ring_ways n l with hA | ⟨m, rfl, hm, hok, hT | ⟨hT, hI | hI⟩⟩
 ·
  rw [ringsR_bad hA]
  have hD : degR n l = ([], 2) := by unfold degR; rw [if_pos hA]
  refine Tr.rs [] (.k (mv .k (.b 0 rfl)) (.k (mv .k (.b 1 rfl)) (.k (cal .k Try.func11 rfl (fn_Deg_of hD hl) (.k (.g 0 rfl) (.k (.g 1 rfl) .n))) (.k (mv .k (.g 2 rfl)) (.k (exx .k (.g 3 rfl) rfl) (.k (exx .k (.g 3 rfl) rfl) (.k (asg .k (.g 4 rfl)) (.k (asg .k (.g 5 rfl)) .n)))))))) [0, 1] [6, 7] rfl rfl ?_
  refine Tr.seq (Tr.rs [] (.k (mv .k (.b 3 rfl)) (.k (ne_ .k (.g 0 rfl) .c rfl) .n)) [0, 1, 2, 3] [1] rfl rfl ?_)
  refine Tr.cond 4 rfl (fun _ => ?_) nofun
  refine Tr.rs [] (.k (mv .k (.b 3 rfl)) (.k (nilvs .k (.inl rfl)) (.k (asg .k .c) (.k (asg .k (.g 0 rfl)) .n)))) [] [1, 2, 3] rfl rfl ?_
  refine Tr.ret (end_tmp3 0 1 2 rfl rfl rfl rfl)
 ·
  have hA := argBad_ok hm hok
  rw [ringsR_tw hA hT]
  have hD := degR_ok hm hok
  refine Tr.rs [] (.k (mv .k (.b 0 rfl)) (.k (mv .k (.b 1 rfl)) (.k (cal .k Try.func11 rfl (fn_Deg_of hD hl) (.k (.g 0 rfl) (.k (.g 1 rfl) .n))) (.k (mv .k (.g 2 rfl)) (.k (exx .k (.g 3 rfl) rfl) (.k (exx .k (.g 3 rfl) rfl) (.k (asg .k (.g 4 rfl)) (.k (asg .k (.g 5 rfl)) .n)))))))) [0, 1] [6, 7] rfl rfl ?_
  refine Tr.seq (Tr.rs [] (.k (mv .k (.b 3 rfl)) (.k (ne_ .k (.g 0 rfl) .c rfl) .n)) [0, 1, 2, 3] [1] rfl rfl ?_)
  refine Tr.cond 4 rfl nofun (fun _ => ?_)
  refine Tr.skip (Nx.go (Tr.seq (Tr.rs [] (.k (mv .k (.b 1 rfl)) (.k (cal .k Try.func24 rfl (fn_twice l hl (seg_bd hm hok)) (.k (.g 0 rfl) .n)) (.k (asg .k (.g 1 rfl)) .n))) [0, 1, 2] [2] rfl rfl ?_)))
  refine Tr.rs [] (.k (mv .k (.b 3 rfl)) (.k (ge_ .k (.g 0 rfl) .c (decide_eq_true hT)) .n)) [0, 1, 2, 3] [1] rfl rfl ?_
  refine Tr.cond 4 rfl (fun _ => ?_) nofun
  refine Tr.rs [] (.k (mv .k (.b 3 rfl)) (.k (nilvs .k (.inl rfl)) (.k (asg .k (.g 0 rfl)) (.k (asg .k .c) .n)))) [] [1, 2, 3] rfl rfl ?_
  refine Tr.ret (end_tmp3 0 1 2 rfl rfl rfl rfl)
 ·
  have hA := argBad_ok hm hok
  rw [ringsR_ix hA hT hI]
  have hD := degR_ok hm hok
  refine Tr.rs [] (.k (mv .k (.b 0 rfl)) (.k (mv .k (.b 1 rfl)) (.k (cal .k Try.func11 rfl (fn_Deg_of hD hl) (.k (.g 0 rfl) (.k (.g 1 rfl) .n))) (.k (mv .k (.g 2 rfl)) (.k (exx .k (.g 3 rfl) rfl) (.k (exx .k (.g 3 rfl) rfl) (.k (asg .k (.g 4 rfl)) (.k (asg .k (.g 5 rfl)) .n)))))))) [0, 1] [6, 7] rfl rfl ?_
  refine Tr.seq (Tr.rs [] (.k (mv .k (.b 3 rfl)) (.k (ne_ .k (.g 0 rfl) .c rfl) .n)) [0, 1, 2, 3] [1] rfl rfl ?_)
  refine Tr.cond 4 rfl nofun (fun _ => ?_)
  refine Tr.skip (Nx.go (Tr.seq (Tr.rs [] (.k (mv .k (.b 1 rfl)) (.k (cal .k Try.func24 rfl (fn_twice l hl (seg_bd hm hok)) (.k (.g 0 rfl) .n)) (.k (asg .k (.g 1 rfl)) .n))) [0, 1, 2] [2] rfl rfl ?_)))
  refine Tr.rs [] (.k (mv .k (.b 3 rfl)) (.k (ge_ .k (.g 0 rfl) .c (decide_eq_false hT)) .n)) [0, 1, 2, 3] [1] rfl rfl ?_
  refine Tr.cond 4 rfl nofun (fun _ => ?_)
  refine Tr.skip (Nx.go (Tr.seq (Tr.rs [] (.k (mv .k (.b 2 rfl)) (.k (cal .k Try.func25 rfl (fn_IndexFunc (degs m l) (by rw [degs_len]; omega)) (.k (.g 0 rfl) (.k .fn .n))) (.k (asg .k (.g 1 rfl)) .n))) [0, 1, 2] [2] rfl rfl ?_)))
  refine Tr.rs [] (.k (mv .k (.b 3 rfl)) (.k (ge_ .k (.g 0 rfl) .c (decide_eq_true hI)) .n)) [0, 1, 2, 3] [1] rfl rfl ?_
  refine Tr.cond 4 rfl (fun _ => ?_) nofun
  refine Tr.rs [] (.k (mv .k (.b 3 rfl)) (.k (nilvs .k (.inl rfl)) (.k (asg .k (.g 0 rfl)) (.k (asg .k .c) .n)))) [] [1, 2, 3] rfl rfl ?_
  refine Tr.ret (end_tmp3 0 1 2 rfl rfl rfl rfl)
 ·
  have hA := argBad_ok hm hok
  rw [ringsR_ok hA hT hI]
  have hD := degR_ok hm hok
  refine Tr.rs [] (.k (mv .k (.b 0 rfl)) (.k (mv .k (.b 1 rfl)) (.k (cal .k Try.func11 rfl (fn_Deg_of hD hl) (.k (.g 0 rfl) (.k (.g 1 rfl) .n))) (.k (mv .k (.g 2 rfl)) (.k (exx .k (.g 3 rfl) rfl) (.k (exx .k (.g 3 rfl) rfl) (.k (asg .k (.g 4 rfl)) (.k (asg .k (.g 5 rfl)) .n)))))))) [0, 1] [6, 7] rfl rfl ?_
  refine Tr.seq (Tr.rs [] (.k (mv .k (.b 3 rfl)) (.k (ne_ .k (.g 0 rfl) .c rfl) .n)) [0, 1, 2, 3] [1] rfl rfl ?_)
  refine Tr.cond 4 rfl nofun (fun _ => ?_)
  refine Tr.skip (Nx.go (Tr.seq (Tr.rs [] (.k (mv .k (.b 1 rfl)) (.k (cal .k Try.func24 rfl (fn_twice l hl (seg_bd hm hok)) (.k (.g 0 rfl) .n)) (.k (asg .k (.g 1 rfl)) .n))) [0, 1, 2] [2] rfl rfl ?_)))
  refine Tr.rs [] (.k (mv .k (.b 3 rfl)) (.k (ge_ .k (.g 0 rfl) .c (decide_eq_false hT)) .n)) [0, 1, 2, 3] [1] rfl rfl ?_
  refine Tr.cond 4 rfl nofun (fun _ => ?_)
  refine Tr.skip (Nx.go (Tr.seq (Tr.rs [] (.k (mv .k (.b 2 rfl)) (.k (cal .k Try.func25 rfl (fn_IndexFunc (degs m l) (by rw [degs_len]; omega)) (.k (.g 0 rfl) (.k .fn .n))) (.k (asg .k (.g 1 rfl)) .n))) [0, 1, 2] [2] rfl rfl ?_)))
  refine Tr.rs [] (.k (mv .k (.b 3 rfl)) (.k (ge_ .k (.g 0 rfl) .c (decide_eq_false hI)) .n)) [0, 1, 2, 3] [1] rfl rfl ?_
  refine Tr.cond 4 rfl nofun (fun _ => ?_)
  refine Tr.skip (Nx.go (Tr.gos (Go.k (mv .k (.b 0 rfl)) [0, 1, 2] rfl rfl (Go.mk 1 .k mkX (.b 0 rfl) (.b 0 rfl) rfl rfl (by omega) (by unfold maxLen; omega) [1, 2, 3] rfl rfl fun g1 => (Go.k (asg .k (.b 0 rfl)) [1, 2, 3, 4] rfl rfl (Go.end_ (Nx.go (?_))))))))
  rw [show List.replicate (m * 2) (Value.int IntKind.i64 0) = flat2 (List.replicate 0 (-1, -1) ++ List.replicate (m - 0) (0, 0)) from flat2_rep m 0]
  refine Tr.seq (Tr.rs [] (.k (mv .k (.b 0 rfl)) (.k (len_n .k rwX (.g 0 rfl) rfl) (.k (mv .k .c) .n))) [0, 1, 2, 3, 4] [1, 2] rfl rfl ?_)
  refine Tr.block (?_)
  refine Tr.loop (fun n_ F_ => ∃ k : Nat, (k ≤ m) ∧ n_ = m - k ∧ F_ = [.s 0 (iv ((m : Nat) : Int)), .s 1 (svec l), .s 7 (ivec (degs m l)), .s 11 (.is (.slice (some ⟨g1, 0, none⟩) m m)), .s 45 (iv ((m : Nat) : Int)), .s 46 (iv ((k : Nat) : Int)), .h 1 g1 (HP.own 72 2 m m (flat2 (List.replicate k (-1, -1) ++ List.replicate (m - k) (0, 0))))]) (m - 0) (F0 := [.s 0 (iv ((m : Nat) : Int)), .s 1 (svec l), .s 7 (ivec (degs m l)), .s 11 (.is (.slice (some ⟨g1, 0, none⟩) m m)), .s 45 (iv ((m : Nat) : Int)), .s 46 (iv ((0 : Nat) : Int)), .h 1 g1 (HP.own 72 2 m m (flat2 (List.replicate 0 (-1, -1) ++ List.replicate (m - 0) (0, 0))))]) ⟨0, Nat.zero_le _, rfl, rfl⟩ (Sub.all (.cons 2 rfl (.cons 3 rfl (.cons 4 rfl (.cons 0 rfl (.cons 5 rfl (.cons 6 rfl (.cons 1 rfl .nil)))))))) (fun n_ F_ hI => ?_)
  obtain ⟨k, hinv, rfl, rfl⟩ := hI
  refine Tr.rs [] (.k (lt_ .k (.b 5 rfl) (.b 4 rfl) rfl) .n) [0, 1, 2, 3, 4, 5, 6] [0] rfl rfl ?_
  refine Tr.seq (Tr.cond 7 rfl (fun e47 => ?_) (fun e47 => ?_))
  ·
   have hk2 : k < m := by have := of_decide_eq_true e47; omega
   refine Tr.skip (Nx.go (Tr.seq (Tr.block (Tr.rs [] (.k (mv .k (.b 5 rfl)) (.k (asg .k (.g 0 rfl)) .n)) [0, 1, 2, 3, 4, 5, 6] [1] rfl rfl ?_))))
   refine Tr.reg [(6, 4)] (.k (mv .k (.b 3 rfl)) (.k (mv .k (.b 7 rfl)) (.k (bld .k (.k .c (.k .c .n)) (bX _ _) (aX _ _)) (.k (idxn .k rwX (.g 0 rfl) (.g 1 rfl) rfl hk2 rfl) (.k (sth .k (.g 3 rfl) (.b 6 rfl) (.g 2 rfl) szX rfl (by rw [flat2_len, List.length_append, List.length_replicate, List.length_replicate]; omega) (by simp [nxv, Value.cells, Value.oneCell']) ((flat2_setA (s := (-1, -1)) (by rw [List.length_append, List.length_replicate, List.length_replicate]; omega)).trans (by rw [rep_set _ _ hk2]))) .n))))) [0, 1, 2, 3, 4, 5] [4] rfl rfl (Nx.bkN (Nx.go (Tr.reg [(5, 1)] (.k (add_ .k (.b 5 rfl) .c (show IntKind.i64.wrap ((k : Int) + 1) = ((k + 1 : Nat) : Int) by rw [IntWalk.i64_in _ (by omega)]; omega)) (.k (mv .k (.g 0 rfl)) .n)) [0, 1, 2, 3, 4, 6] [1] rfl rfl (Nx.again (m - (k + 1)) (by omega) [.s 0 (iv ((m : Nat) : Int)), .s 1 (svec l), .s 7 (ivec (degs m l)), .s 11 (.is (.slice (some ⟨g1, 0, none⟩) m m)), .s 45 (iv ((m : Nat) : Int)), .s 46 (iv (((k + 1) : Nat) : Int)), .h 1 g1 (HP.own 72 2 m m (flat2 (List.replicate (k + 1) (-1, -1) ++ List.replicate (m - (k + 1)) (0, 0))))] ⟨(k + 1), (by omega), rfl, rfl⟩ (Sub.all (.cons 0 rfl (.cons 1 rfl (.cons 2 rfl (.cons 3 rfl (.cons 4 rfl (.cons 6 rfl (.cons 5 rfl .nil))))))))))))
  ·
   obtain rfl : m = k := by have := of_decide_eq_false e47; omega
   refine Tr.exit (Nx.thX (Nx.thX (Nx.bkX (Nx.go (?_)))))
   rw [show List.replicate m (-1, -1) ++ List.replicate (m - m) (0, 0) = nbF m (l.take 0) by rw [Nat.sub_self]; simp [nbF]]
   refine Tr.seq (Tr.rs [] (.k (mv .k (.b 1 rfl)) (.k (len_ .k rwS (.g 0 rfl) (by rw [List.length_map])) (.k (mv .k .c) .n))) [0, 2, 3, 6] [0, 1, 2] rfl rfl ?_)
   refine Tr.block (?_)
   refine Tr.loop (fun n_ F_ => ∃ k : Nat, (k ≤ l.length) ∧ n_ = l.length - k ∧ F_ = [.s 0 (iv ((m : Nat) : Int)), .s 7 (ivec (degs m l)), .s 11 (.is (.slice (some ⟨g1, 0, none⟩) m m)), .s 54 (svec l), .s 55 (iv ((l.length : Nat) : Int)), .s 56 (iv ((k : Nat) : Int)), .h 1 g1 (HP.own 72 2 m m (flat2 (nbF m (l.take k))))]) (l.length - 0) (F0 := [.s 0 (iv ((m : Nat) : Int)), .s 7 (ivec (degs m l)), .s 11 (.is (.slice (some ⟨g1, 0, none⟩) m m)), .s 54 (svec l), .s 55 (iv ((l.length : Nat) : Int)), .s 56 (iv ((0 : Nat) : Int)), .h 1 g1 (HP.own 72 2 m m (flat2 (nbF m (l.take 0))))]) ⟨0, Nat.zero_le _, rfl, rfl⟩ (Sub.all (.cons 0 rfl (.cons 1 rfl (.cons 2 rfl (.cons 4 rfl (.cons 5 rfl (.cons 6 rfl (.cons 3 rfl .nil)))))))) (fun n_ F_ hI => ?_)
   obtain ⟨k, hinv, rfl, rfl⟩ := hI
   refine Tr.rs [] (.k (lt_ .k (.b 5 rfl) (.b 4 rfl) rfl) .n) [0, 1, 2, 3, 4, 5, 6] [0] rfl rfl ?_
   refine Tr.seq (Tr.cond 7 rfl (fun e57 => ?_) (fun e57 => ?_))
   ·
    have hk2 : k < l.length := by have := of_decide_eq_true e57; omega
    refine Tr.skip (Nx.go (Tr.seq (Tr.block (?_))))
    obtain ⟨s, p1⟩ : ∃ s, l[k]? = some s := ⟨_, List.getElem?_eq_getElem hk2⟩
    obtain ⟨a, b, rfl, ha, hb, hab⟩ := seg_ok hok (List.mem_of_getElem? p1)
    refine Tr.rs [] (.k (idx_ .k rwS (.b 3 rfl) (.b 5 rfl) rfl (by rw [List.getElem?_map, p1]; rfl)) (.k (ld_at .k (.g 0 rfl) tyS rfl (show _ = sgv (_, _) from rfl)) (.k (ala .k zS) (.k (sta .k (.g 2 rfl) (.g 1 rfl) tyS) .n)))) [0, 1, 2, 3, 4, 5, 6] [3] rfl rfl ?_
    refine Tr.ds hmx [(6, 6)] (.k (mv .k (.b 2 rfl)) (.k (faddr .k (.b 7 rfl) rfl fSA) (.k (ldc .k (.g 1 rfl) (.b 7 rfl) tyI) (.k (idxn .k rwX (.g 0 rfl) (.g 2 rfl) rfl ha rfl) (.k (faddr .k (.b 7 rfl) rfl fSB) (.k (ldc .k (.g 4 rfl) (.b 7 rfl) tyI) (.k (cal_h .k Try.func27 rfl (.b 6 rfl) (.k (.g 3 rfl) (.k (.g 5 rfl) .n)) (fn_put' (nbF_at ha) rfl)) .n))))))) [0, 1, 2, 3, 4, 5, 7] [6] rfl rfl ?_
    refine Tr.draw hmx [(7, 6)] (.k (mv .k (.b 2 rfl)) (.k (faddr .k (.b 6 rfl) rfl fSB) (.k (ldc .k (.g 1 rfl) (.b 6 rfl) tyI) (.k (idxn .k rwX (.g 0 rfl) (.g 2 rfl) rfl hb rfl) (.k (faddr .k (.b 6 rfl) rfl fSA) (.k (ldc .k (.g 4 rfl) (.b 6 rfl) tyI) (.k (cal_h .k Try.func27 rfl (.b 7 rfl) (.k (.g 3 rfl) (.k (.g 5 rfl) .n)) (fn_put' (by rw [List.getElem?_set_ne hab]; exact nbF_at hb) (nbF_succ p1))) .n))))))) [0, 1, 2, 3, 4, 5] [6] rfl rfl (Nx.bkN (Nx.go (Tr.reg [(5, 1)] (.k (add_ .k (.b 5 rfl) .c (show IntKind.i64.wrap ((k : Int) + 1) = ((k + 1 : Nat) : Int) by rw [IntWalk.i64_in _ (by omega)]; omega)) (.k (mv .k (.g 0 rfl)) .n)) [0, 1, 2, 3, 4, 6] [1] rfl rfl (Nx.again (l.length - (k + 1)) (by omega) [.s 0 (iv ((m : Nat) : Int)), .s 7 (ivec (degs m l)), .s 11 (.is (.slice (some ⟨g1, 0, none⟩) m m)), .s 54 (svec l), .s 55 (iv ((l.length : Nat) : Int)), .s 56 (iv (((k + 1) : Nat) : Int)), .h 1 g1 (HP.own 72 2 m m (flat2 (nbF m (l.take (k + 1)))))] ⟨(k + 1), (by omega), rfl, rfl⟩ (Sub.all (.cons 0 rfl (.cons 1 rfl (.cons 2 rfl (.cons 3 rfl (.cons 4 rfl (.cons 6 rfl (.cons 5 rfl .nil))))))))))))
   ·
    obtain rfl : k = l.length := by have := of_decide_eq_false e57; omega
    refine Tr.exit (Nx.thX (Nx.thX (Nx.bkX (Nx.go (?_)))))
    rw [List.take_length]
    refine Tr.gos (Go.k (mv .k (.b 0 rfl)) [1, 2, 6] rfl rfl (Go.mk 2 .k mkB (.b 0 rfl) (.b 0 rfl) rfl rfl (by omega) (by unfold maxLen; omega) [1, 2, 3] rfl rfl fun g2 => (Go.k (asg .k (.b 0 rfl)) [1, 2, 3, 4] rfl rfl (Go.end_ (Nx.go (?_))))))
    rw [show List.replicate (m * 1) (Value.bool false) = (seenL m ((outF (nbF m l) (degs m l) 0).flatten)).map Value.bool by rw [show (outF (nbF m l) (degs m l) 0).flatten = [] from rfl, seenL_nil, Nat.mul_one, List.map_replicate]]
    refine Tr.rs [] (.k (oini (sz := 1) (E := 24) .k (.inl rfl)) .n) [0, 1, 2, 3, 4] [0] rfl rfl ?_
    refine Tr.vnil ?_
    refine Tr.seq (Tr.rs [] (.k (mv .k (.b 4 rfl)) (.k (len_n .k rwX (.g 0 rfl) rfl) (.k (mv .k .c) .n))) [0, 1, 2, 3, 4, 5, 6] [1, 2] rfl rfl ?_)
    refine Tr.block (?_)
    refine Tr.loop (fun n_ F_ => ∃ k : Nat, ∃ vs : List Value, (k ≤ m ∧ vs.length ≤ k) ∧ n_ = m - k ∧ F_ = [.s 7 (ivec (degs m l)), .s 11 (.is (.slice (some ⟨g1, 0, none⟩) m m)), .s 15 (.is (.slice (some ⟨g2, 0, none⟩) m m)), .o 16 1 24 (vs.map fun v => [v]), .s 78 (iv ((m : Nat) : Int)), .s 79 (iv ((k : Nat) : Int)), .h 1 g1 (HP.own 72 2 m m (flat2 (nbF m l))), .v vs ((outF (nbF m l) (degs m l) k).map ivec), .h 2 g2 (HP.own 4 1 m m ((seenL m ((outF (nbF m l) (degs m l) k).flatten)).map Value.bool))]) (m - 0) (F0 := [.s 7 (ivec (degs m l)), .s 11 (.is (.slice (some ⟨g1, 0, none⟩) m m)), .s 15 (.is (.slice (some ⟨g2, 0, none⟩) m m)), .o 16 1 24 ([].map fun v => [v]), .s 78 (iv ((m : Nat) : Int)), .s 79 (iv ((0 : Nat) : Int)), .h 1 g1 (HP.own 72 2 m m (flat2 (nbF m l))), .v [] ((outF (nbF m l) (degs m l) 0).map ivec), .h 2 g2 (HP.own 4 1 m m ((seenL m ((outF (nbF m l) (degs m l) 0).flatten)).map Value.bool))]) ⟨0, [], ⟨Nat.zero_le _, Nat.le_refl _⟩, rfl, rfl⟩ (Sub.all (.cons 3 rfl (.cons 4 rfl (.cons 1 rfl (.cons 6 rfl (.cons 7 rfl (.cons 8 rfl (.cons 5 rfl (.cons 0 rfl (.cons 2 rfl .nil)))))))))) (fun n_ F_ hI => ?_)
    obtain ⟨k, vs, hinv, rfl, rfl⟩ := hI
    refine Tr.rs [] (.k (lt_ .k (.b 5 rfl) (.b 4 rfl) rfl) .n) [0, 1, 2, 3, 4, 5, 6, 7, 8] [0] rfl rfl ?_
    refine Tr.seq (Tr.cond 9 rfl (fun e80 => ?_) (fun e80 => ?_))
    ·
     have hk2 : k < m := by have := of_decide_eq_true e80; omega
     refine Tr.skip (Nx.go (Tr.seq (Tr.block (Tr.rs [] (.k (mv .k (.b 5 rfl)) (.k (asg .k (.g 0 rfl)) .n)) [0, 1, 2, 3, 4, 5, 6, 7, 8] [1] rfl rfl ?_))))
     rcases three (cntE l k = 0) (((k : Nat) : Int) ∈ (outF (nbF m l) (degs m l) k).flatten) with hd | ⟨hd, hs⟩ | ⟨hd, hs⟩
     ·
      refine Tr.seq (Tr.rs [] (.k (mv .k (.b 0 rfl)) (.k (mv .k (.b 9 rfl)) (.k (idx_ .k rwI (.g 0 rfl) (.g 1 rfl) rfl (by rw [List.getElem?_map, degs_at hk2]; rfl)) (.k (ldc_at .k (.g 2 rfl) tyI) (.k (eq_ .k (.g 3 rfl) .c (beq_iff_eq.2 hd)) (.k (mv .k (.g 4 rfl)) (.k (skp (.on (.g 5 rfl) rfl rfl)) (.k (skp (.on (.g 5 rfl) rfl rfl)) (.k (skp (.on (.g 5 rfl) rfl rfl)) (.k (skp (.on (.g 5 rfl) rfl rfl)) (.k (pickT .k (.g 5 rfl) .c) .n))))))))))) [0, 1, 2, 3, 4, 5, 6, 7, 8, 9] [10] rfl rfl ?_)
      refine Tr.cond 10 rfl (fun _ => ?_) nofun
      refine Tr.exit (Nx.thX (Nx.bkX (Nx.go (?_))))
      rw [← outF_skip (nb := nbF m l) (d := degs m l) (k := k) (.inl (by rw [degs_getD hk2]; exact hd))]
      refine Tr.reg [(5, 1)] (.k (add_ .k (.b 5 rfl) .c (show IntKind.i64.wrap ((k : Int) + 1) = ((k + 1 : Nat) : Int) by rw [IntWalk.i64_in _ (by omega)]; omega)) (.k (mv .k (.g 0 rfl)) .n)) [0, 1, 2, 3, 4, 6, 7, 8] [1] rfl rfl (Nx.again (m - (k + 1)) (by omega) [.s 7 (ivec (degs m l)), .s 11 (.is (.slice (some ⟨g1, 0, none⟩) m m)), .s 15 (.is (.slice (some ⟨g2, 0, none⟩) m m)), .o 16 1 24 (vs.map fun v => [v]), .s 78 (iv ((m : Nat) : Int)), .s 79 (iv (((k + 1) : Nat) : Int)), .h 1 g1 (HP.own 72 2 m m (flat2 (nbF m l))), .v vs ((outF (nbF m l) (degs m l) (k + 1)).map ivec), .h 2 g2 (HP.own 4 1 m m ((seenL m ((outF (nbF m l) (degs m l) (k + 1)).flatten)).map Value.bool))] ⟨(k + 1), vs, ⟨by omega, by omega⟩, rfl, rfl⟩ (Sub.all (.cons 0 rfl (.cons 1 rfl (.cons 2 rfl (.cons 3 rfl (.cons 4 rfl (.cons 8 rfl (.cons 5 rfl (.cons 6 rfl (.cons 7 rfl .nil)))))))))))
     ·
      refine Tr.seq (Tr.rs [] (.k (mv .k (.b 0 rfl)) (.k (mv .k (.b 9 rfl)) (.k (idx_ .k rwI (.g 0 rfl) (.g 1 rfl) rfl (by rw [List.getElem?_map, degs_at hk2]; rfl)) (.k (ldc_at .k (.g 2 rfl) tyI) (.k (eq_ .k (.g 3 rfl) .c (beq_eq_false_iff_ne.2 hd)) (.k (mv .k (.g 4 rfl)) (.k (mv (.on (.g 5 rfl) rfl rfl) (.b 2 rfl)) (.k (mv (.on (.g 5 rfl) rfl rfl) (.b 9 rfl)) (.k (idxn (.on (.g 5 rfl) rfl rfl) rwB (.g 6 rfl) (.g 7 rfl) rfl hk2 (Nat.mul_one _)) (.k (ldn (.on (.g 5 rfl) rfl rfl) (.g 8 rfl) (.b 8 rfl) tyB (by rw [List.getElem?_map, seenL_at hk2, decide_eq_true hs]; rfl)) (.k (pickF .k (.g 5 rfl) (.g 9 rfl)) .n))))))))))) [0, 1, 2, 3, 4, 5, 6, 7, 8, 9] [10] rfl rfl ?_)
      refine Tr.cond 10 rfl (fun _ => ?_) nofun
      refine Tr.exit (Nx.thX (Nx.bkX (Nx.go (?_))))
      rw [← outF_skip (nb := nbF m l) (d := degs m l) (k := k) (.inr hs)]
      refine Tr.reg [(5, 1)] (.k (add_ .k (.b 5 rfl) .c (show IntKind.i64.wrap ((k : Int) + 1) = ((k + 1 : Nat) : Int) by rw [IntWalk.i64_in _ (by omega)]; omega)) (.k (mv .k (.g 0 rfl)) .n)) [0, 1, 2, 3, 4, 6, 7, 8] [1] rfl rfl (Nx.again (m - (k + 1)) (by omega) [.s 7 (ivec (degs m l)), .s 11 (.is (.slice (some ⟨g1, 0, none⟩) m m)), .s 15 (.is (.slice (some ⟨g2, 0, none⟩) m m)), .o 16 1 24 (vs.map fun v => [v]), .s 78 (iv ((m : Nat) : Int)), .s 79 (iv (((k + 1) : Nat) : Int)), .h 1 g1 (HP.own 72 2 m m (flat2 (nbF m l))), .v vs ((outF (nbF m l) (degs m l) (k + 1)).map ivec), .h 2 g2 (HP.own 4 1 m m ((seenL m ((outF (nbF m l) (degs m l) (k + 1)).flatten)).map Value.bool))] ⟨(k + 1), vs, ⟨by omega, by omega⟩, rfl, rfl⟩ (Sub.all (.cons 0 rfl (.cons 1 rfl (.cons 2 rfl (.cons 3 rfl (.cons 4 rfl (.cons 8 rfl (.cons 5 rfl (.cons 6 rfl (.cons 7 rfl .nil)))))))))))
     ·
      obtain ⟨q1, q2, q3⟩ := (hB m rfl hok hT hI k hk2 hd).len (nbF_len m l)
      refine Tr.seq (Tr.rs [] (.k (mv .k (.b 0 rfl)) (.k (mv .k (.b 9 rfl)) (.k (idx_ .k rwI (.g 0 rfl) (.g 1 rfl) rfl (by rw [List.getElem?_map, degs_at hk2]; rfl)) (.k (ldc_at .k (.g 2 rfl) tyI) (.k (eq_ .k (.g 3 rfl) .c (beq_eq_false_iff_ne.2 hd)) (.k (mv .k (.g 4 rfl)) (.k (mv (.on (.g 5 rfl) rfl rfl) (.b 2 rfl)) (.k (mv (.on (.g 5 rfl) rfl rfl) (.b 9 rfl)) (.k (idxn (.on (.g 5 rfl) rfl rfl) rwB (.g 6 rfl) (.g 7 rfl) rfl hk2 (Nat.mul_one _)) (.k (ldn (.on (.g 5 rfl) rfl rfl) (.g 8 rfl) (.b 8 rfl) tyB (by rw [List.getElem?_map, seenL_at hk2, decide_eq_false hs]; rfl)) (.k (pickF .k (.g 5 rfl) (.g 9 rfl)) .n))))))))))) [0, 1, 2, 3, 4, 5, 6, 7, 8, 9] [10] rfl rfl ?_)
      refine Tr.cond 10 rfl nofun (fun _ => ?_)
      refine Tr.skip (Nx.go (Tr.gos (Go.k (mv .k (.b 9 rfl)) [0, 1, 2, 3, 4, 5, 6, 7, 8, 9] rfl rfl (Go.k (mkown .k rwI (.k (.b 0 rfl) .n) rfl rfl (by kernel_rfl) (by decide) (show _ = ((ringTo (nbF m l) ((k : Nat) : Int) 0).map fun z => [ic z]) from rfl)) [1, 2, 3, 4, 5, 6, 7, 8, 9, 10] rfl rfl (Go.k (omv .k (.inl rfl) (.b 0 rfl)) [1, 2, 3, 4, 5, 6, 7, 8, 9, 10] rfl rfl (Go.end_ (Nx.go (?_))))))))
      refine Tr.ds hmx [] (.k (mv .k (.b 10 rfl)) (.k (mv .k (.b 2 rfl)) (.k (mv .k (.b 10 rfl)) (.k (idxn .k rwX (.g 1 rfl) (.g 2 rfl) rfl hk2 rfl) (.k (iaddr 0 .k arX (.g 3 rfl) rfl (by decide) rfl) (.k (ldn .k (.g 4 rfl) (.b 7 rfl) tyI (flat2_0 (nbF_at hk2))) (.k (mv .k (.b 2 rfl)) (.k (mv .k (.b 10 rfl)) (.k (idxn .k rwX (.g 6 rfl) (.g 7 rfl) rfl hk2 rfl) (.k (iaddr 1 .k arX (.g 8 rfl) rfl (by decide) rfl) (.k (ldn .k (.g 9 rfl) (.b 7 rfl) tyI (flat2_1 (nbF_at hk2))) (.k (minb_ .k (.g 5 rfl) (.g 10 rfl) (min_if _ _)) (.k (asg .k (.g 0 rfl)) (.k (asg .k (.g 11 rfl)) .n)))))))))))))) [0, 1, 2, 3, 4, 5, 6, 7, 8, 9, 10] [12, 13] rfl rfl ?_
      refine Tr.seq (Tr.block (?_))
      refine Tr.loop (fun n_ F_ => ∃ j : Nat, (j ≤ (lenR (nbF m l) ((k : Nat) : Int))) ∧ n_ = (lenR (nbF m l) ((k : Nat) : Int)) - j ∧ F_ = [.o 18 1 3 ((ringTo (nbF m l) ((k : Nat) : Int) j).map fun z => [ic z]), .s 19 (iv (seqR (nbF m l) ((k : Nat) : Int) j).1), .s 20 (iv (seqR (nbF m l) ((k : Nat) : Int) j).2), .s 17 (iv ((k : Nat) : Int)), .s 7 (ivec (degs m l)), .s 11 (.is (.slice (some ⟨g1, 0, none⟩) m m)), .s 15 (.is (.slice (some ⟨g2, 0, none⟩) m m)), .o 16 1 24 (vs.map fun v => [v]), .s 78 (iv ((m : Nat) : Int)), .s 79 (iv ((k : Nat) : Int)), .h 1 g1 (HP.own 72 2 m m (flat2 (nbF m l))), .v vs ((outF (nbF m l) (degs m l) k).map ivec), .h 2 g2 (HP.own 4 1 m m ((seenL m ((outF (nbF m l) (degs m l) k).flatten)).map Value.bool))]) ((lenR (nbF m l) ((k : Nat) : Int)) - 0) (F0 := [.o 18 1 3 ((ringTo (nbF m l) ((k : Nat) : Int) 0).map fun z => [ic z]), .s 19 (iv (seqR (nbF m l) ((k : Nat) : Int) 0).1), .s 20 (iv (seqR (nbF m l) ((k : Nat) : Int) 0).2), .s 17 (iv ((k : Nat) : Int)), .s 7 (ivec (degs m l)), .s 11 (.is (.slice (some ⟨g1, 0, none⟩) m m)), .s 15 (.is (.slice (some ⟨g2, 0, none⟩) m m)), .o 16 1 24 (vs.map fun v => [v]), .s 78 (iv ((m : Nat) : Int)), .s 79 (iv ((k : Nat) : Int)), .h 1 g1 (HP.own 72 2 m m (flat2 (nbF m l))), .v vs ((outF (nbF m l) (degs m l) k).map ivec), .h 2 g2 (HP.own 4 1 m m ((seenL m ((outF (nbF m l) (degs m l) k).flatten)).map Value.bool))]) ⟨0, Nat.zero_le _, rfl, rfl⟩ (Sub.all (.cons 0 rfl (.cons 11 rfl (.cons 12 rfl (.cons 10 rfl (.cons 1 rfl (.cons 2 rfl (.cons 3 rfl (.cons 4 rfl (.cons 5 rfl (.cons 6 rfl (.cons 7 rfl (.cons 8 rfl (.cons 9 rfl .nil)))))))))))))) (fun n_ F_ hI => ?_)
      obtain ⟨j, hjv, rfl, rfl⟩ := hI
      refine Tr.seq (Tr.rs [] (.k (mv .k (.b 2 rfl)) (.k (mv .k (.b 3 rfl)) (.k (ne_ .k (.g 0 rfl) (.g 1 rfl) rfl) .n))) [0, 1, 2, 3, 4, 5, 6, 7, 8, 9, 10, 11, 12] [2] rfl rfl ?_)
      refine Tr.cond 13 rfl (fun e109 => ?_) (fun e109 => ?_)
      ·
       have hj2 : j < (lenR (nbF m l) ((k : Nat) : Int)) := Nat.lt_of_le_of_ne hjv (fun e => bne_iff_ne.1 e109 (by rw [e]; exact q2)); obtain ⟨-, c, hc, hcn⟩ := q3 j hj2; obtain rfl : c = (seqR (nbF m l) ((k : Nat) : Int) j).2.toNat := by omega
       refine Tr.skip (Nx.go (Tr.block (Tr.gos (Go.k (omv .k (.inr rfl) (.b 0 rfl)) [1, 2, 3, 4, 5, 6, 7, 8, 9, 10, 11, 12] rfl rfl (Go.k (mv .k (.b 2 rfl)) [0, 1, 2, 3, 4, 5, 6, 7, 8, 9, 10, 11, 12] rfl rfl (Go.k (mkrow .k rwI (.k (.b 0 rfl) .n) rfl rfl (by kernel_rfl)) [1, 2, 3, 4, 5, 6, 7, 8, 9, 10, 11, 12, 13] rfl rfl (Go.k (oapp_ .k apI (.b 1 rfl) (.b 0 rfl) (by decide) ⟨ringTo_succ (fun z => [ic z]) _ _ _, ⟨rfl, rfl⟩, by rw [List.length_map, ringTo_len]; omega⟩) [2, 3, 4, 5, 6, 7, 8, 9, 10, 11, 12, 13] rfl rfl (Go.k (omv .k (.inl rfl) (.b 0 rfl)) [1, 2, 3, 4, 5, 6, 7, 8, 9, 10, 11, 12] rfl rfl (Go.end_ (Nx.go (?_)))))))))))
       refine Tr.reg [(1, 7), (2, 8)] (.k (mv .k (.b 2 rfl)) (.k (mv .k (.b 5 rfl)) (.k (mv .k (.b 2 rfl)) (.k (idxn .k rwX (.g 1 rfl) (.g 2 rfl) hc hcn rfl) (.k (ldna .k (.g 3 rfl) (.b 10 rfl) tyX _ rfl (flat2_two (nbF_at hcn)) (show _ = nxv (_, _) from rfl)) (.k (mv .k (.b 1 rfl)) (.k (cal .k Try.func28 rfl (fn_other _ _ _) (.k (.g 4 rfl) (.k (.g 5 rfl) .n))) (.k (asg .k (.g 0 rfl)) (.k (asg .k (.g 6 rfl)) .n))))))))) [0, 3, 4, 5, 6, 7, 8, 9, 10, 11, 12] [7, 8] rfl rfl (Nx.bkN (Nx.again ((lenR (nbF m l) ((k : Nat) : Int)) - (j + 1)) (by omega) [.o 18 1 3 ((ringTo (nbF m l) ((k : Nat) : Int) (j + 1)).map fun z => [ic z]), .s 19 (iv (seqR (nbF m l) ((k : Nat) : Int) (j + 1)).1), .s 20 (iv (seqR (nbF m l) ((k : Nat) : Int) (j + 1)).2), .s 17 (iv ((k : Nat) : Int)), .s 7 (ivec (degs m l)), .s 11 (.is (.slice (some ⟨g1, 0, none⟩) m m)), .s 15 (.is (.slice (some ⟨g2, 0, none⟩) m m)), .o 16 1 24 (vs.map fun v => [v]), .s 78 (iv ((m : Nat) : Int)), .s 79 (iv ((k : Nat) : Int)), .h 1 g1 (HP.own 72 2 m m (flat2 (nbF m l))), .v vs ((outF (nbF m l) (degs m l) k).map ivec), .h 2 g2 (HP.own 4 1 m m ((seenL m ((outF (nbF m l) (degs m l) k).flatten)).map Value.bool))] ⟨(j + 1), (by omega), rfl, rfl⟩ (Sub.all (.cons 0 rfl (.cons 11 rfl (.cons 12 rfl (.cons 1 rfl (.cons 2 rfl (.cons 3 rfl (.cons 4 rfl (.cons 5 rfl (.cons 6 rfl (.cons 7 rfl (.cons 8 rfl (.cons 9 rfl (.cons 10 rfl .nil))))))))))))))))
      ·
       have hje : j = (lenR (nbF m l) ((k : Nat) : Int)) := Nat.le_antisymm hjv (Nat.le_of_not_lt fun h => (q3 j h).1 (bne_eq_false_iff_eq.1 e109)); subst hje
       refine Tr.exit (Nx.thX (Nx.thX (Nx.bkX (Nx.go (?_)))))
       refine Tr.frzo 0 [1, 2, 3, 4, 5, 6, 7, 8, 9, 10, 11, 12, 13] rfl rfl ?_
       rw [show seenL m ((outF (nbF m l) (degs m l) k).flatten) = seenL m ((outF (nbF m l) (degs m l) k).flatten ++ (ringAt (nbF m l) ((k : Nat) : Int)).take 0) by rw [List.take_zero, List.append_nil]]
       refine Tr.seq (Tr.rs [] (.k (mv .k (.b 0 rfl)) (.k (len_ .k rwI (.g 0 rfl) (by rw [List.length_map])) (.k (mv .k .c) .n))) [0, 4, 5, 6, 7, 8, 9, 10, 11, 12] [0, 1, 2] rfl rfl ?_)
       refine Tr.block (?_)
       refine Tr.loop (fun n_ F_ => ∃ j : Nat, (j ≤ (ringAt (nbF m l) ((k : Nat) : Int)).length) ∧ n_ = (ringAt (nbF m l) ((k : Nat) : Int)).length - j ∧ F_ = [.s 121 (ivec (ringAt (nbF m l) ((k : Nat) : Int))), .s 122 (iv (((ringAt (nbF m l) ((k : Nat) : Int)).length : Nat) : Int)), .s 123 (iv ((j : Nat) : Int)), .s 18 (ivec (ringAt (nbF m l) ((k : Nat) : Int))), .s 7 (ivec (degs m l)), .s 11 (.is (.slice (some ⟨g1, 0, none⟩) m m)), .s 15 (.is (.slice (some ⟨g2, 0, none⟩) m m)), .o 16 1 24 (vs.map fun v => [v]), .s 78 (iv ((m : Nat) : Int)), .s 79 (iv ((k : Nat) : Int)), .h 1 g1 (HP.own 72 2 m m (flat2 (nbF m l))), .v vs ((outF (nbF m l) (degs m l) k).map ivec), .h 2 g2 (HP.own 4 1 m m ((seenL m ((outF (nbF m l) (degs m l) k).flatten ++ (ringAt (nbF m l) ((k : Nat) : Int)).take j)).map Value.bool))]) ((ringAt (nbF m l) ((k : Nat) : Int)).length - 0) (F0 := [.s 121 (ivec (ringAt (nbF m l) ((k : Nat) : Int))), .s 122 (iv (((ringAt (nbF m l) ((k : Nat) : Int)).length : Nat) : Int)), .s 123 (iv ((0 : Nat) : Int)), .s 18 (ivec (ringAt (nbF m l) ((k : Nat) : Int))), .s 7 (ivec (degs m l)), .s 11 (.is (.slice (some ⟨g1, 0, none⟩) m m)), .s 15 (.is (.slice (some ⟨g2, 0, none⟩) m m)), .o 16 1 24 (vs.map fun v => [v]), .s 78 (iv ((m : Nat) : Int)), .s 79 (iv ((k : Nat) : Int)), .h 1 g1 (HP.own 72 2 m m (flat2 (nbF m l))), .v vs ((outF (nbF m l) (degs m l) k).map ivec), .h 2 g2 (HP.own 4 1 m m ((seenL m ((outF (nbF m l) (degs m l) k).flatten ++ (ringAt (nbF m l) ((k : Nat) : Int)).take 0)).map Value.bool))]) ⟨0, Nat.zero_le _, rfl, rfl⟩ (Sub.all (.cons 10 rfl (.cons 11 rfl (.cons 12 rfl (.cons 0 rfl (.cons 1 rfl (.cons 2 rfl (.cons 3 rfl (.cons 4 rfl (.cons 5 rfl (.cons 6 rfl (.cons 7 rfl (.cons 8 rfl (.cons 9 rfl .nil)))))))))))))) (fun n_ F_ hI => ?_)
       obtain ⟨j, hjv, rfl, rfl⟩ := hI
       refine Tr.rs [] (.k (lt_ .k (.b 2 rfl) (.b 1 rfl) rfl) .n) [0, 1, 2, 3, 4, 5, 6, 7, 8, 9, 10, 11, 12] [0] rfl rfl ?_
       refine Tr.seq (Tr.cond 13 rfl (fun e124 => ?_) (fun e124 => ?_))
       ·
        have hj2 : j < (ringAt (nbF m l) ((k : Nat) : Int)).length := by have := of_decide_eq_true e124; omega
        refine Tr.skip (Nx.go (Tr.seq (Tr.block (?_))))
        obtain ⟨c, p1, hc⟩ := ringAt_at hk2 q3 hj2
        refine Tr.rs [] (.k (idx_ .k rwI (.b 0 rfl) (.b 2 rfl) rfl (by rw [List.getElem?_map, p1]; rfl)) (.k (ldc_at .k (.g 0 rfl) tyI) (.k (asg .k (.g 1 rfl)) .n))) [0, 1, 2, 3, 4, 5, 6, 7, 8, 9, 10, 11, 12] [2] rfl rfl ?_
        refine Tr.reg [(12, 3)] (.k (mv .k (.b 6 rfl)) (.k (mv .k (.b 13 rfl)) (.k (idxn .k rwB (.g 0 rfl) (.g 1 rfl) rfl hc (Nat.mul_one _)) (.k (sth1 .k (.g 2 rfl) (.b 12 rfl) .c szB rfl (by rw [List.length_map, seenL_len]; exact hc) rfl (by rw [seenL_set Value.bool hc, List.append_assoc, ← take_succ' p1])) .n)))) [0, 1, 2, 3, 4, 5, 6, 7, 8, 9, 10, 11] [3] rfl rfl (Nx.bkN (Nx.go (Tr.reg [(2, 1)] (.k (add_ .k (.b 2 rfl) .c (show IntKind.i64.wrap ((j : Int) + 1) = ((j + 1 : Nat) : Int) by rw [IntWalk.i64_in _ (by have := ringTo_len (nbF m l) ((k : Nat) : Int) (lenR (nbF m l) ((k : Nat) : Int)); unfold ringAt at hj2; omega)]; omega)) (.k (mv .k (.g 0 rfl)) .n)) [0, 1, 3, 4, 5, 6, 7, 8, 9, 10, 11, 12] [1] rfl rfl (Nx.again ((ringAt (nbF m l) ((k : Nat) : Int)).length - (j + 1)) (by omega) [.s 121 (ivec (ringAt (nbF m l) ((k : Nat) : Int))), .s 122 (iv (((ringAt (nbF m l) ((k : Nat) : Int)).length : Nat) : Int)), .s 123 (iv (((j + 1) : Nat) : Int)), .s 18 (ivec (ringAt (nbF m l) ((k : Nat) : Int))), .s 7 (ivec (degs m l)), .s 11 (.is (.slice (some ⟨g1, 0, none⟩) m m)), .s 15 (.is (.slice (some ⟨g2, 0, none⟩) m m)), .o 16 1 24 (vs.map fun v => [v]), .s 78 (iv ((m : Nat) : Int)), .s 79 (iv ((k : Nat) : Int)), .h 1 g1 (HP.own 72 2 m m (flat2 (nbF m l))), .v vs ((outF (nbF m l) (degs m l) k).map ivec), .h 2 g2 (HP.own 4 1 m m ((seenL m ((outF (nbF m l) (degs m l) k).flatten ++ (ringAt (nbF m l) ((k : Nat) : Int)).take (j + 1))).map Value.bool))] ⟨(j + 1), (by omega), rfl, rfl⟩ (Sub.all (.cons 0 rfl (.cons 1 rfl (.cons 12 rfl (.cons 2 rfl (.cons 3 rfl (.cons 4 rfl (.cons 5 rfl (.cons 6 rfl (.cons 7 rfl (.cons 8 rfl (.cons 9 rfl (.cons 10 rfl (.cons 11 rfl .nil))))))))))))))))))
       ·
        have hje : j = (ringAt (nbF m l) ((k : Nat) : Int)).length := by have := of_decide_eq_false e124; omega
        refine Tr.exit (Nx.thX (Nx.thX (Nx.bkX (Nx.go (?_)))))
        subst hje
        rw [List.take_length]
        have hout := outF_ring (nb := nbF m l) (d := degs m l) (k := k) (by rw [degs_getD hk2]; exact hd) hs
        rw [show (outF (nbF m l) (degs m l) k).flatten ++ (ringAt (nbF m l) ((k : Nat) : Int)) = (outF (nbF m l) (degs m l) (k + 1)).flatten by rw [hout]; simp]
        refine Tr.name 3 rfl (fun A cap => ?_)
        refine Tr.vapp 13 1 rfl rfl ?_
        rw [show (outF (nbF m l) (degs m l) k).map ivec ++ [SP.vec 1 ((ringAt (nbF m l) ((k : Nat) : Int)).map fun z => [ic z])] = (outF (nbF m l) (degs m l) (k + 1)).map ivec by rw [hout]; simp]
        refine Tr.go (Go.k (omv .k (.inr rfl) (.b 10 rfl)) [0, 1, 7, 8, 9, 11, 12, 13, 15] rfl rfl (Go.k (mv .k (.b 2 rfl)) [0, 1, 3, 4, 5, 6, 7, 8, 9] rfl rfl (Go.k (mkrow .k rwL (.k (.b 0 rfl) .n) rfl rfl (by kernel_rfl)) [1, 2, 3, 4, 5, 6, 7, 8, 9] rfl rfl (Go.k (oapp_ .k apL (.b 1 rfl) (.b 0 rfl) (by decide) ⟨(by rw [List.map_append]; rfl), ⟨rfl, rfl⟩, by rw [List.length_map]; omega⟩) [2, 3, 4, 5, 6, 7, 8, 9] rfl rfl (Go.k (omv .k (.inl rfl) (.b 0 rfl)) [1, 2, 3, 4, 5, 6, 7, 8] rfl rfl (Go.end_ (Nx.bkN (Nx.go (Tr.reg [(6, 1)] (.k (add_ .k (.b 6 rfl) .c (show IntKind.i64.wrap ((k : Int) + 1) = ((k + 1 : Nat) : Int) by rw [IntWalk.i64_in _ (by omega)]; omega)) (.k (mv .k (.g 0 rfl)) .n)) [0, 1, 2, 3, 4, 5, 7, 8] [1] rfl rfl (Nx.again (m - (k + 1)) (by omega) [.s 7 (ivec (degs m l)), .s 11 (.is (.slice (some ⟨g1, 0, none⟩) m m)), .s 15 (.is (.slice (some ⟨g2, 0, none⟩) m m)), .o 16 1 24 ((vs ++ [Value.slice A ((ringAt (nbF m l) ((k : Nat) : Int)).map fun z => [ic z]).length cap]).map fun v => [v]), .s 78 (iv ((m : Nat) : Int)), .s 79 (iv (((k + 1) : Nat) : Int)), .h 1 g1 (HP.own 72 2 m m (flat2 (nbF m l))), .v (vs ++ [Value.slice A ((ringAt (nbF m l) ((k : Nat) : Int)).map fun z => [ic z]).length cap]) ((outF (nbF m l) (degs m l) (k + 1)).map ivec), .h 2 g2 (HP.own 4 1 m m ((seenL m ((outF (nbF m l) (degs m l) (k + 1)).flatten)).map Value.bool))] ⟨(k + 1), (vs ++ [Value.slice A ((ringAt (nbF m l) ((k : Nat) : Int)).map fun z => [ic z]).length cap]), ⟨by omega, (by rw [List.length_append]; exact Nat.add_le_add_right hinv.2 1)⟩, rfl, rfl⟩ (Sub.all (.cons 2 rfl (.cons 3 rfl (.cons 4 rfl (.cons 0 rfl (.cons 5 rfl (.cons 8 rfl (.cons 6 rfl (.cons 1 rfl (.cons 7 rfl .nil))))))))))))))))))))
    ·
     obtain rfl : m = k := by have := of_decide_eq_false e80; omega
     refine Tr.exit (Nx.thX (Nx.thX (Nx.bkX (Nx.go (?_)))))
     refine Tr.frzo 3 [0, 1, 2, 4, 5, 6, 7, 8, 9] rfl rfl ?_
     refine Tr.shut 0 7 rfl rfl rfl ?_
     refine Tr.rs [] (.k (mv .k (.b 0 rfl)) (.k (asg .k (.g 0 rfl)) (.k (asg .k .c) (.k (asg .k .c) .n)))) [7, 8, 9] [1, 2, 3] rfl rfl ?_
     refine Tr.ret (end_tmp3 3 4 5 rfl rfl rfl rfl)
end Go.Proofs.Ytcifcohkjifadaa

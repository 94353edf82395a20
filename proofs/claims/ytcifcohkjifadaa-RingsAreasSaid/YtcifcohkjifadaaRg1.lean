/- Functions of the rings package, walked: Degrees, twice, IndexFunc, other. -/
import Derived.Test.YtcifcohkjifadaaRb
import Derived.Test.YtcifcohkjifadaaRs
set_option linter.unusedVariables false
set_option linter.unusedSimpArgs false
namespace Go.Proofs.Ytcifcohkjifadaa
open Go Go.RowKit Go.Proofs.Ytcifcohkjifadaa.Fx Go.Proofs.YtcifcohkjifadaaW.PrintWords
theorem flat1 (l : List Int) : l.map ic = (l.map fun z => [ic z]).flatten := by
  induction l with
  | nil => rfl
  | cons z l ih => simp [← ih]
theorem one1 (l : List Int) : ∀ r ∈ l.map fun z => [ic z], r.length = 1 := by
  intro r hr
  obtain ⟨z, _, rfl⟩ := List.mem_map.1 hr
  rfl
set_option maxRecDepth 100000 in
set_option maxHeartbeats 8000000 in
theorem fn_Degrees (n : Int) (l : List (Int × Int)) (hl : l.length ≤ 100000) : FnC Try.prog 11 [iv n, svec l] (.tup [ivec (degR n l).1, iv (degR n l).2]) := by
 refine FnC.of (N := 66) Try.func11 rfl rfl (Nat.le_of_ble_eq_true rfl) (fun w0 ok0 => ?_)
 refine Tr.rs [] (.k (nilv (sz := 1) .k (.inl rfl)) (.k (asg .k .c) .n)) [0, 1] [] rfl rfl ?_
 rcases deg_ways n with h | ⟨h0, h⟩ | ⟨m, rfl, hm⟩
 ·
  rw [degR_neg (.inl h)]
  refine Tr.seq (Tr.rs [] (.k (mv .k (.b 0 rfl)) (.k (lt_ .k (.g 0 rfl) .c (decide_eq_true h)) (.k (mv .k (.g 1 rfl)) (.k (skp (.on (.g 2 rfl) rfl rfl)) (.k (skp (.on (.g 2 rfl) rfl rfl)) (.k (pickT .k (.g 2 rfl) .c) .n)))))) [0, 1] [5] rfl rfl ?_)
  refine Tr.cond 2 rfl (fun _ => ?_) nofun
  refine Tr.rs [] (.k (nilv (sz := 1) .k (.inl rfl)) (.k (asg .k .c) .n)) [] [0, 1] rfl rfl ?_
  refine Tr.ret (end_tmp2 0 1 rfl rfl rfl)
 ·
  rw [degR_neg (.inr h)]
  refine Tr.seq (Tr.rs [] (.k (mv .k (.b 0 rfl)) (.k (lt_ .k (.g 0 rfl) .c (decide_eq_false h0)) (.k (mv .k (.g 1 rfl)) (.k (mv (.on (.g 2 rfl) rfl rfl) (.b 0 rfl)) (.k (gt_ (.on (.g 2 rfl) rfl rfl) (.g 3 rfl) .c (decide_eq_true h)) (.k (pickF .k (.g 2 rfl) (.g 4 rfl)) .n)))))) [0, 1] [5] rfl rfl ?_)
  refine Tr.cond 2 rfl (fun _ => ?_) nofun
  refine Tr.rs [] (.k (nilv (sz := 1) .k (.inl rfl)) (.k (asg .k .c) .n)) [] [0, 1] rfl rfl ?_
  refine Tr.ret (end_tmp2 0 1 rfl rfl rfl)
 ·
  refine Tr.seq (Tr.rs [] (.k (mv .k (.b 0 rfl)) (.k (lt_ .k (.g 0 rfl) .c (decide_eq_false (by omega))) (.k (mv .k (.g 1 rfl)) (.k (mv (.on (.g 2 rfl) rfl rfl) (.b 0 rfl)) (.k (gt_ (.on (.g 2 rfl) rfl rfl) (.g 3 rfl) .c (decide_eq_false (by omega))) (.k (pickF .k (.g 2 rfl) (.g 4 rfl)) .n)))))) [0, 1] [5] rfl rfl ?_)
  refine Tr.cond 2 rfl nofun (fun _ => ?_)
  refine Tr.skip (Nx.go (Tr.gos (Go.k (mv .k (.b 0 rfl)) [0, 1] rfl rfl (Go.mk 1 .k mkI (.b 0 rfl) (.b 0 rfl) rfl rfl (by omega) (by unfold maxLen; omega) [1, 2] rfl rfl fun g1 => (Go.k (asg .k (.b 0 rfl)) [1, 2, 3] rfl rfl (Go.end_ (Nx.go (?_))))))))
  rw [show List.replicate (m * 1) (Value.int IntKind.i64 0) = (degs m (l.take 0)).map ic by rw [List.take_zero, degs_nil, Nat.mul_one, List.map_replicate]]
  refine Tr.seq (Tr.rs [] (.k (mv .k (.b 3 rfl)) (.k (len_ .k rwS (.g 0 rfl) (by rw [List.length_map])) (.k (mv .k .c) .n))) [0, 1, 2] [0, 1, 2] rfl rfl ?_)
  refine Tr.block (?_)
  refine Tr.loop (fun n_ F_ => ∃ k : Nat, (k ≤ l.length ∧ (l.take k).any (segBad (m : Int)) = false) ∧ n_ = l.length - k ∧ F_ = [.s 0 (iv ((m : Nat) : Int)), .s 6 (.is (.slice (some ⟨g1, 0, none⟩) m m)), .s 17 (svec l), .s 18 (iv ((l.length : Nat) : Int)), .s 19 (iv ((k : Nat) : Int)), .h 1 g1 (HP.own 3 1 m m ((degs m (l.take k)).map ic))]) (l.length - 0) (F0 := [.s 0 (iv ((m : Nat) : Int)), .s 6 (.is (.slice (some ⟨g1, 0, none⟩) m m)), .s 17 (svec l), .s 18 (iv ((l.length : Nat) : Int)), .s 19 (iv ((0 : Nat) : Int)), .h 1 g1 (HP.own 3 1 m m ((degs m (l.take 0)).map ic))]) ⟨0, ⟨Nat.zero_le _, rfl⟩, rfl, rfl⟩ (Sub.all (.cons 2 rfl (.cons 0 rfl (.cons 3 rfl (.cons 4 rfl (.cons 5 rfl (.cons 1 rfl .nil))))))) (fun n_ F_ hI => ?_)
  obtain ⟨k, hinv, rfl, rfl⟩ := hI
  refine Tr.rs [] (.k (lt_ .k (.b 4 rfl) (.b 3 rfl) rfl) .n) [0, 1, 2, 3, 4, 5] [0] rfl rfl ?_
  refine Tr.seq (Tr.cond 6 rfl (fun e20 => ?_) (fun e20 => ?_))
  ·
   have hk2 : k < l.length := by have := of_decide_eq_true e20; omega
   refine Tr.skip (Nx.go (Tr.seq (Tr.block (?_))))
   obtain ⟨⟨A, B⟩, p1⟩ : ∃ s, l[k]? = some s := ⟨_, List.getElem?_eq_getElem hk2⟩
   refine Tr.rs [] (.k (idx_ .k rwS (.b 2 rfl) (.b 4 rfl) rfl (by rw [List.getElem?_map, p1]; rfl)) (.k (ld_at .k (.g 0 rfl) tyS rfl (show _ = sgv (_, _) from rfl)) (.k (ala .k zS) (.k (sta .k (.g 2 rfl) (.g 1 rfl) tyS) .n)))) [0, 1, 2, 3, 4, 5] [3] rfl rfl ?_
   rcases seg_ways m A B with h | h | h | h | h | h
   ·
    rw [degR_bad p1 (by simp [segBad]; omega)]
    refine Tr.seq (Tr.rs [] (.k (faddr .k (.b 6 rfl) rfl fSA) (.k (ldc .k (.g 0 rfl) (.b 6 rfl) tyI) (.k (lt_ .k (.g 1 rfl) .c (decide_eq_true h)) (.k (mv .k (.g 2 rfl)) (.k (skp (.on (.g 3 rfl) rfl rfl)) (.k (skp (.on (.g 3 rfl) rfl rfl)) (.k (skp (.on (.g 3 rfl) rfl rfl)) (.k (skp (.on (.g 3 rfl) rfl rfl)) (.k (pickT .k (.g 3 rfl) .c) (.k (mv .k (.g 8 rfl)) (.k (skp (.on (.g 9 rfl) rfl rfl)) (.k (skp (.on (.g 9 rfl) rfl rfl)) (.k (skp (.on (.g 9 rfl) rfl rfl)) (.k (pickT .k (.g 9 rfl) .c) (.k (mv .k (.g 13 rfl)) (.k (skp (.on (.g 14 rfl) rfl rfl)) (.k (skp (.on (.g 14 rfl) rfl rfl)) (.k (skp (.on (.g 14 rfl) rfl rfl)) (.k (skp (.on (.g 14 rfl) rfl rfl)) (.k (pickT .k (.g 14 rfl) .c) (.k (mv .k (.g 19 rfl)) (.k (skp (.on (.g 20 rfl) rfl rfl)) (.k (skp (.on (.g 20 rfl) rfl rfl)) (.k (skp (.on (.g 20 rfl) rfl rfl)) (.k (skp (.on (.g 20 rfl) rfl rfl)) (.k (skp (.on (.g 20 rfl) rfl rfl)) (.k (pickT .k (.g 20 rfl) .c) .n))))))))))))))))))))))))))) [0, 1, 2, 3, 4, 5, 6] [26] rfl rfl ?_)
    refine Tr.cond 7 rfl (fun _ => ?_) nofun
    refine Tr.rs [] (.k (nilv (sz := 1) .k (.inl rfl)) (.k (asg .k .c) .n)) [5] [0, 1] rfl rfl ?_
    refine Tr.ret (end_tmp2 1 2 rfl rfl rfl)
   ·
    obtain ⟨h0, h⟩ := h
    rw [degR_bad p1 (by simp [segBad]; omega)]
    refine Tr.seq (Tr.rs [] (.k (faddr .k (.b 6 rfl) rfl fSA) (.k (ldc .k (.g 0 rfl) (.b 6 rfl) tyI) (.k (lt_ .k (.g 1 rfl) .c (decide_eq_false h0)) (.k (mv .k (.g 2 rfl)) (.k (faddr (.on (.g 3 rfl) rfl rfl) (.b 6 rfl) rfl fSA) (.k (ldc (.on (.g 3 rfl) rfl rfl) (.g 4 rfl) (.b 6 rfl) tyI) (.k (mv (.on (.g 3 rfl) rfl rfl) (.b 0 rfl)) (.k (ge_ (.on (.g 3 rfl) rfl rfl) (.g 5 rfl) (.g 6 rfl) (decide_eq_true h)) (.k (pickF .k (.g 3 rfl) (.g 7 rfl)) (.k (mv .k (.g 8 rfl)) (.k (skp (.on (.g 9 rfl) rfl rfl)) (.k (skp (.on (.g 9 rfl) rfl rfl)) (.k (skp (.on (.g 9 rfl) rfl rfl)) (.k (pickT .k (.g 9 rfl) .c) (.k (mv .k (.g 13 rfl)) (.k (skp (.on (.g 14 rfl) rfl rfl)) (.k (skp (.on (.g 14 rfl) rfl rfl)) (.k (skp (.on (.g 14 rfl) rfl rfl)) (.k (skp (.on (.g 14 rfl) rfl rfl)) (.k (pickT .k (.g 14 rfl) .c) (.k (mv .k (.g 19 rfl)) (.k (skp (.on (.g 20 rfl) rfl rfl)) (.k (skp (.on (.g 20 rfl) rfl rfl)) (.k (skp (.on (.g 20 rfl) rfl rfl)) (.k (skp (.on (.g 20 rfl) rfl rfl)) (.k (skp (.on (.g 20 rfl) rfl rfl)) (.k (pickT .k (.g 20 rfl) .c) .n))))))))))))))))))))))))))) [0, 1, 2, 3, 4, 5, 6] [26] rfl rfl ?_)
    refine Tr.cond 7 rfl (fun _ => ?_) nofun
    refine Tr.rs [] (.k (nilv (sz := 1) .k (.inl rfl)) (.k (asg .k .c) .n)) [5] [0, 1] rfl rfl ?_
    refine Tr.ret (end_tmp2 1 2 rfl rfl rfl)
   ·
    obtain ⟨h0, h1, h⟩ := h
    rw [degR_bad p1 (by simp [segBad]; omega)]
    refine Tr.seq (Tr.rs [] (.k (faddr .k (.b 6 rfl) rfl fSA) (.k (ldc .k (.g 0 rfl) (.b 6 rfl) tyI) (.k (lt_ .k (.g 1 rfl) .c (decide_eq_false h0)) (.k (mv .k (.g 2 rfl)) (.k (faddr (.on (.g 3 rfl) rfl rfl) (.b 6 rfl) rfl fSA) (.k (ldc (.on (.g 3 rfl) rfl rfl) (.g 4 rfl) (.b 6 rfl) tyI) (.k (mv (.on (.g 3 rfl) rfl rfl) (.b 0 rfl)) (.k (ge_ (.on (.g 3 rfl) rfl rfl) (.g 5 rfl) (.g 6 rfl) (decide_eq_false h1)) (.k (pickF .k (.g 3 rfl) (.g 7 rfl)) (.k (mv .k (.g 8 rfl)) (.k (faddr (.on (.g 9 rfl) rfl rfl) (.b 6 rfl) rfl fSB) (.k (ldc (.on (.g 9 rfl) rfl rfl) (.g 10 rfl) (.b 6 rfl) tyI) (.k (lt_ (.on (.g 9 rfl) rfl rfl) (.g 11 rfl) .c (decide_eq_true h)) (.k (pickF .k (.g 9 rfl) (.g 12 rfl)) (.k (mv .k (.g 13 rfl)) (.k (skp (.on (.g 14 rfl) rfl rfl)) (.k (skp (.on (.g 14 rfl) rfl rfl)) (.k (skp (.on (.g 14 rfl) rfl rfl)) (.k (skp (.on (.g 14 rfl) rfl rfl)) (.k (pickT .k (.g 14 rfl) .c) (.k (mv .k (.g 19 rfl)) (.k (skp (.on (.g 20 rfl) rfl rfl)) (.k (skp (.on (.g 20 rfl) rfl rfl)) (.k (skp (.on (.g 20 rfl) rfl rfl)) (.k (skp (.on (.g 20 rfl) rfl rfl)) (.k (skp (.on (.g 20 rfl) rfl rfl)) (.k (pickT .k (.g 20 rfl) .c) .n))))))))))))))))))))))))))) [0, 1, 2, 3, 4, 5, 6] [26] rfl rfl ?_)
    refine Tr.cond 7 rfl (fun _ => ?_) nofun
    refine Tr.rs [] (.k (nilv (sz := 1) .k (.inl rfl)) (.k (asg .k .c) .n)) [5] [0, 1] rfl rfl ?_
    refine Tr.ret (end_tmp2 1 2 rfl rfl rfl)
   ·
    obtain ⟨h0, h1, h3, h⟩ := h
    rw [degR_bad p1 (by simp [segBad]; omega)]
    refine Tr.seq (Tr.rs [] (.k (faddr .k (.b 6 rfl) rfl fSA) (.k (ldc .k (.g 0 rfl) (.b 6 rfl) tyI) (.k (lt_ .k (.g 1 rfl) .c (decide_eq_false h0)) (.k (mv .k (.g 2 rfl)) (.k (faddr (.on (.g 3 rfl) rfl rfl) (.b 6 rfl) rfl fSA) (.k (ldc (.on (.g 3 rfl) rfl rfl) (.g 4 rfl) (.b 6 rfl) tyI) (.k (mv (.on (.g 3 rfl) rfl rfl) (.b 0 rfl)) (.k (ge_ (.on (.g 3 rfl) rfl rfl) (.g 5 rfl) (.g 6 rfl) (decide_eq_false h1)) (.k (pickF .k (.g 3 rfl) (.g 7 rfl)) (.k (mv .k (.g 8 rfl)) (.k (faddr (.on (.g 9 rfl) rfl rfl) (.b 6 rfl) rfl fSB) (.k (ldc (.on (.g 9 rfl) rfl rfl) (.g 10 rfl) (.b 6 rfl) tyI) (.k (lt_ (.on (.g 9 rfl) rfl rfl) (.g 11 rfl) .c (decide_eq_false h3)) (.k (pickF .k (.g 9 rfl) (.g 12 rfl)) (.k (mv .k (.g 13 rfl)) (.k (faddr (.on (.g 14 rfl) rfl rfl) (.b 6 rfl) rfl fSB) (.k (ldc (.on (.g 14 rfl) rfl rfl) (.g 15 rfl) (.b 6 rfl) tyI) (.k (mv (.on (.g 14 rfl) rfl rfl) (.b 0 rfl)) (.k (ge_ (.on (.g 14 rfl) rfl rfl) (.g 16 rfl) (.g 17 rfl) (decide_eq_true h)) (.k (pickF .k (.g 14 rfl) (.g 18 rfl)) (.k (mv .k (.g 19 rfl)) (.k (skp (.on (.g 20 rfl) rfl rfl)) (.k (skp (.on (.g 20 rfl) rfl rfl)) (.k (skp (.on (.g 20 rfl) rfl rfl)) (.k (skp (.on (.g 20 rfl) rfl rfl)) (.k (skp (.on (.g 20 rfl) rfl rfl)) (.k (pickT .k (.g 20 rfl) .c) .n))))))))))))))))))))))))))) [0, 1, 2, 3, 4, 5, 6] [26] rfl rfl ?_)
    refine Tr.cond 7 rfl (fun _ => ?_) nofun
    refine Tr.rs [] (.k (nilv (sz := 1) .k (.inl rfl)) (.k (asg .k .c) .n)) [5] [0, 1] rfl rfl ?_
    refine Tr.ret (end_tmp2 1 2 rfl rfl rfl)
   ·
    obtain ⟨h0, h1, h3, h4, h⟩ := h
    rw [degR_bad p1 (by simp [segBad]; omega)]
    refine Tr.seq (Tr.rs [] (.k (faddr .k (.b 6 rfl) rfl fSA) (.k (ldc .k (.g 0 rfl) (.b 6 rfl) tyI) (.k (lt_ .k (.g 1 rfl) .c (decide_eq_false h0)) (.k (mv .k (.g 2 rfl)) (.k (faddr (.on (.g 3 rfl) rfl rfl) (.b 6 rfl) rfl fSA) (.k (ldc (.on (.g 3 rfl) rfl rfl) (.g 4 rfl) (.b 6 rfl) tyI) (.k (mv (.on (.g 3 rfl) rfl rfl) (.b 0 rfl)) (.k (ge_ (.on (.g 3 rfl) rfl rfl) (.g 5 rfl) (.g 6 rfl) (decide_eq_false h1)) (.k (pickF .k (.g 3 rfl) (.g 7 rfl)) (.k (mv .k (.g 8 rfl)) (.k (faddr (.on (.g 9 rfl) rfl rfl) (.b 6 rfl) rfl fSB) (.k (ldc (.on (.g 9 rfl) rfl rfl) (.g 10 rfl) (.b 6 rfl) tyI) (.k (lt_ (.on (.g 9 rfl) rfl rfl) (.g 11 rfl) .c (decide_eq_false h3)) (.k (pickF .k (.g 9 rfl) (.g 12 rfl)) (.k (mv .k (.g 13 rfl)) (.k (faddr (.on (.g 14 rfl) rfl rfl) (.b 6 rfl) rfl fSB) (.k (ldc (.on (.g 14 rfl) rfl rfl) (.g 15 rfl) (.b 6 rfl) tyI) (.k (mv (.on (.g 14 rfl) rfl rfl) (.b 0 rfl)) (.k (ge_ (.on (.g 14 rfl) rfl rfl) (.g 16 rfl) (.g 17 rfl) (decide_eq_false h4)) (.k (pickF .k (.g 14 rfl) (.g 18 rfl)) (.k (mv .k (.g 19 rfl)) (.k (faddr (.on (.g 20 rfl) rfl rfl) (.b 6 rfl) rfl fSA) (.k (ldc (.on (.g 20 rfl) rfl rfl) (.g 21 rfl) (.b 6 rfl) tyI) (.k (faddr (.on (.g 20 rfl) rfl rfl) (.b 6 rfl) rfl fSB) (.k (ldc (.on (.g 20 rfl) rfl rfl) (.g 23 rfl) (.b 6 rfl) tyI) (.k (eq_ (.on (.g 20 rfl) rfl rfl) (.g 22 rfl) (.g 24 rfl) (beq_iff_eq.2 h)) (.k (pickF .k (.g 20 rfl) (.g 25 rfl)) .n))))))))))))))))))))))))))) [0, 1, 2, 3, 4, 5, 6] [26] rfl rfl ?_)
    refine Tr.cond 7 rfl (fun _ => ?_) nofun
    refine Tr.rs [] (.k (nilv (sz := 1) .k (.inl rfl)) (.k (asg .k .c) .n)) [5] [0, 1] rfl rfl ?_
    refine Tr.ret (end_tmp2 1 2 rfl rfl rfl)
   ·
    obtain ⟨a, b, rfl, rfl, ha, hb, hab⟩ := h
    have hca := cnt_small hl k a
    have hcb := cnt_small hl k b
    refine Tr.seq (Tr.rs [] (.k (faddr .k (.b 6 rfl) rfl fSA) (.k (ldc .k (.g 0 rfl) (.b 6 rfl) tyI) (.k (lt_ .k (.g 1 rfl) .c (decide_eq_false (by omega))) (.k (mv .k (.g 2 rfl)) (.k (faddr (.on (.g 3 rfl) rfl rfl) (.b 6 rfl) rfl fSA) (.k (ldc (.on (.g 3 rfl) rfl rfl) (.g 4 rfl) (.b 6 rfl) tyI) (.k (mv (.on (.g 3 rfl) rfl rfl) (.b 0 rfl)) (.k (ge_ (.on (.g 3 rfl) rfl rfl) (.g 5 rfl) (.g 6 rfl) (decide_eq_false (by omega))) (.k (pickF .k (.g 3 rfl) (.g 7 rfl)) (.k (mv .k (.g 8 rfl)) (.k (faddr (.on (.g 9 rfl) rfl rfl) (.b 6 rfl) rfl fSB) (.k (ldc (.on (.g 9 rfl) rfl rfl) (.g 10 rfl) (.b 6 rfl) tyI) (.k (lt_ (.on (.g 9 rfl) rfl rfl) (.g 11 rfl) .c (decide_eq_false (by omega))) (.k (pickF .k (.g 9 rfl) (.g 12 rfl)) (.k (mv .k (.g 13 rfl)) (.k (faddr (.on (.g 14 rfl) rfl rfl) (.b 6 rfl) rfl fSB) (.k (ldc (.on (.g 14 rfl) rfl rfl) (.g 15 rfl) (.b 6 rfl) tyI) (.k (mv (.on (.g 14 rfl) rfl rfl) (.b 0 rfl)) (.k (ge_ (.on (.g 14 rfl) rfl rfl) (.g 16 rfl) (.g 17 rfl) (decide_eq_false (by omega))) (.k (pickF .k (.g 14 rfl) (.g 18 rfl)) (.k (mv .k (.g 19 rfl)) (.k (faddr (.on (.g 20 rfl) rfl rfl) (.b 6 rfl) rfl fSA) (.k (ldc (.on (.g 20 rfl) rfl rfl) (.g 21 rfl) (.b 6 rfl) tyI) (.k (faddr (.on (.g 20 rfl) rfl rfl) (.b 6 rfl) rfl fSB) (.k (ldc (.on (.g 20 rfl) rfl rfl) (.g 23 rfl) (.b 6 rfl) tyI) (.k (eq_ (.on (.g 20 rfl) rfl rfl) (.g 22 rfl) (.g 24 rfl) (beq_eq_false_iff_ne.2 (by omega))) (.k (pickF .k (.g 20 rfl) (.g 25 rfl)) .n))))))))))))))))))))))))))) [0, 1, 2, 3, 4, 5, 6] [26] rfl rfl ?_)
    refine Tr.cond 7 rfl nofun (fun _ => ?_)
    refine Tr.skip (Nx.go (Tr.rs [(5, 7)] (.k (mv .k (.b 1 rfl)) (.k (faddr .k (.b 6 rfl) rfl fSA) (.k (ldc .k (.g 1 rfl) (.b 6 rfl) tyI) (.k (idxn .k rwI (.g 0 rfl) (.g 2 rfl) rfl ha (Nat.mul_one _)) (.k (ldn .k (.g 3 rfl) (.b 5 rfl) tyI (by rw [List.getElem?_map, degs_at ha]; rfl)) (.k (add_ .k (.g 4 rfl) .c (show IntKind.i64.wrap (cntE (l.take k) a + 1) = cntE (l.take k) a + 1 from IntWalk.i64_in _ (by omega))) (.k (idxn .k rwI (.g 0 rfl) (.g 2 rfl) rfl ha (Nat.mul_one _)) (.k (sth1 .k (.g 6 rfl) (.b 5 rfl) (.g 5 rfl) szI rfl (by rw [List.length_map, degs_len]; exact ha) rfl rfl) .n)))))))) [0, 1, 2, 3, 4, 6] [7] rfl rfl ?_))
    refine Tr.reg [(6, 7)] (.k (mv .k (.b 1 rfl)) (.k (faddr .k (.b 5 rfl) rfl fSB) (.k (ldc .k (.g 1 rfl) (.b 5 rfl) tyI) (.k (idxn .k rwI (.g 0 rfl) (.g 2 rfl) rfl hb (Nat.mul_one _)) (.k (ldn .k (.g 3 rfl) (.b 6 rfl) tyI (by rw [List.getElem?_set_ne hab, List.getElem?_map, degs_at hb]; rfl)) (.k (add_ .k (.g 4 rfl) .c (show IntKind.i64.wrap (cntE (l.take k) b + 1) = cntE (l.take k) b + 1 from IntWalk.i64_in _ (by omega))) (.k (idxn .k rwI (.g 0 rfl) (.g 2 rfl) rfl hb (Nat.mul_one _)) (.k (sth1 .k (.g 6 rfl) (.b 6 rfl) (.g 5 rfl) szI rfl (by rw [List.length_set, List.length_map, degs_len]; exact hb) rfl (degs_succ ic p1 hab ha hb)) .n)))))))) [0, 1, 2, 3, 4] [7] rfl rfl (Nx.bkN (Nx.go (Tr.reg [(4, 1)] (.k (add_ .k (.b 4 rfl) .c (show IntKind.i64.wrap ((k : Int) + 1) = ((k + 1 : Nat) : Int) by rw [IntWalk.i64_in _ (by omega)]; omega)) (.k (mv .k (.g 0 rfl)) .n)) [0, 1, 2, 3, 5] [1] rfl rfl (Nx.again (l.length - (k + 1)) (by omega) [.s 0 (iv ((m : Nat) : Int)), .s 6 (.is (.slice (some ⟨g1, 0, none⟩) m m)), .s 17 (svec l), .s 18 (iv ((l.length : Nat) : Int)), .s 19 (iv (((k + 1) : Nat) : Int)), .h 1 g1 (HP.own 3 1 m m ((degs m (l.take (k + 1))).map ic))] ⟨(k + 1), ⟨by omega, bad_succ hinv.2 p1 hab ha hb⟩, rfl, rfl⟩ (Sub.all (.cons 0 rfl (.cons 1 rfl (.cons 2 rfl (.cons 3 rfl (.cons 5 rfl (.cons 4 rfl .nil)))))))))))
  ·
   obtain rfl : k = l.length := by have := of_decide_eq_false e20; omega
   refine Tr.exit (Nx.thX (Nx.thX (Nx.bkX (Nx.go (?_)))))
   have hinv2 := hinv.2
   rw [List.take_length] at hinv2
   rw [degR_ok hm hinv2, List.take_length]
   refine Tr.frz ((degs m l).map fun z => [ic z]) 1 5 [0, 2, 3, 4, 6] rfl rfl rfl (flat1 _) (by rw [List.length_map, degs_len]) (one1 _) ?_
   refine Tr.rs [] (.k (mv .k (.b 0 rfl)) (.k (asg .k (.g 0 rfl)) (.k (asg .k .c) .n))) [] [1, 2] rfl rfl ?_
   refine Tr.ret (end_tmp2 0 1 rfl rfl rfl)
theorem wfI {a : Int} (h0 : -9223372036854775808 ≤ a) (h1 : a ≤ 9223372036854775807) : (Lit.int .i64 a).wf = true := by
  have e1 : IntKind.i64.min = -9223372036854775808 := by decide
  have e2 : IntKind.i64.max = 9223372036854775807 := by decide
  show (decide (IntKind.i64.min ≤ a) && decide (a ≤ IntKind.i64.max)) = true
  rw [e1, e2]
  simp
  omega
set_option maxRecDepth 100000 in
set_option maxHeartbeats 8000000 in
theorem fn_twice (l : List (Int × Int)) (hl : l.length ≤ 100000) (hw : ∀ s ∈ l, 0 ≤ s.1 ∧ s.1 ≤ 1048576 ∧ 0 ≤ s.2 ∧ s.2 ≤ 1048576) : FnC Try.prog 24 [svec l] (iv (twF l)) := by
 refine FnC.of (N := 32) Try.func24 rfl rfl (Nat.le_of_ble_eq_true rfl) (fun w0 ok0 => ?_)
 refine Tr.rs [] (.k (asg .k .c) .n) [0] [] rfl rfl ?_
 refine Tr.gos (Go.mkmap 1 .k Try.underlying86 [0] rfl rfl fun g1 => (Go.k (asg .k (.b 0 rfl)) [1, 2] rfl rfl (Go.end_ (Nx.go (?_)))))
 refine Tr.seq (Tr.rs [] (.k (mv .k (.b 2 rfl)) (.k (len_ .k rwS (.g 0 rfl) (by rw [List.length_map])) (.k (mv .k .c) .n))) [0, 1] [0, 1, 2] rfl rfl ?_)
 refine Tr.block (?_)
 refine Tr.loop (fun n_ F_ => ∃ k : Nat, (k ≤ l.length ∧ ∀ j, 0 ≤ j → j < k → isTw l j = false) ∧ n_ = l.length - k ∧ F_ = [.s 3 (.is (.map (some g1))), .s 7 (svec l), .s 8 (iv ((l.length : Nat) : Int)), .s 9 (iv ((k : Nat) : Int)), .h 1 g1 (HP.pset Try.prog 36 4 k ((l.take k).map nrm).reverse)]) (l.length - 0) (F0 := [.s 3 (.is (.map (some g1))), .s 7 (svec l), .s 8 (iv ((l.length : Nat) : Int)), .s 9 (iv ((0 : Nat) : Int)), .h 1 g1 (HP.pset Try.prog 36 4 0 ((l.take 0).map nrm).reverse)]) ⟨0, ⟨Nat.zero_le _, fun j _ h => by omega⟩, rfl, rfl⟩ (Sub.all (.cons 0 rfl (.cons 2 rfl (.cons 3 rfl (.cons 4 rfl (.cons 1 rfl .nil)))))) (fun n_ F_ hI => ?_)
 obtain ⟨k, hinv, rfl, rfl⟩ := hI
 refine Tr.rs [] (.k (lt_ .k (.b 3 rfl) (.b 2 rfl) rfl) .n) [0, 1, 2, 3, 4] [0] rfl rfl ?_
 refine Tr.seq (Tr.cond 5 rfl (fun e10 => ?_) (fun e10 => ?_))
 ·
  have hk2 : k < l.length := by have := of_decide_eq_true e10; omega
  refine Tr.skip (Nx.go (Tr.seq (Tr.block (?_))))
  obtain ⟨⟨A, B⟩, p1⟩ : ∃ s, l[k]? = some s := ⟨_, List.getElem?_eq_getElem hk2⟩
  have hAB := hw _ (List.mem_of_getElem? p1)
  simp only at hAB
  have h63 : k < maxLen := by unfold maxLen; omega
  refine Tr.rs [] (.k (mv .k (.b 3 rfl)) (.k (idx_ .k rwS (.b 1 rfl) (.b 3 rfl) rfl (by rw [List.getElem?_map, p1]; rfl)) (.k (ld_at .k (.g 1 rfl) tyS rfl (show _ = sgv (_, _) from rfl)) (.k (ala .k zS) (.k (asg .k (.g 0 rfl)) (.k (sta .k (.g 3 rfl) (.g 2 rfl) tyS) .n)))))) [0, 1, 2, 3, 4] [4, 5] rfl rfl ?_
  refine Tr.rs [(6, 11)] (.k (faddr .k (.b 6 rfl) rfl fSA) (.k (ldc .k (.g 0 rfl) (.b 6 rfl) tyI) (.k (faddr .k (.b 6 rfl) rfl fSB) (.k (ldc .k (.g 2 rfl) (.b 6 rfl) tyI) (.k (minb_ .k (.g 1 rfl) (.g 3 rfl) (min_if A B)) (.k (faddr .k (.b 6 rfl) rfl fSA) (.k (ldc .k (.g 5 rfl) (.b 6 rfl) tyI) (.k (faddr .k (.b 6 rfl) rfl fSB) (.k (ldc .k (.g 7 rfl) (.b 6 rfl) tyI) (.k (max_ .k (.g 6 rfl) (.g 8 rfl) (max_if A B)) (.k (bld .k (.k (.g 4 rfl) (.k (.g 9 rfl) .n)) (bS _ _) (aS _ _)) (.k (sto .k (.b 6 rfl) (.g 10 rfl) tyS) .n)))))))))))) [0, 1, 2, 3, 4, 5] [11] rfl rfl ?_
  cases hno : decide (nrm (A, B) ∈ ((l.take k).map nrm).reverse)
  ·
   refine Tr.seq (Tr.rs [] (.k (mv .k (.b 0 rfl)) (.k (ld .k (.b 6 rfl) tyS) (.k (lkp .k Try.underlying86 keyS Try.underlying4 zBool (.g 0 rfl) (.b 4 rfl) (.g 1 rfl) (wfI (by omega) (by omega)) (wfI (by omega) (by omega)) hno) .n))) [0, 1, 2, 3, 4, 5, 6] [2] rfl rfl ?_)
   refine Tr.cond 7 rfl nofun (fun _ => ?_)
   refine Tr.skip (Nx.go (Tr.reg [(4, 2)] (.k (mv .k (.b 0 rfl)) (.k (ld .k (.b 6 rfl) tyS) (.k (mupd .k Try.underlying86 keyS Try.underlying4 (.g 0 rfl) (.b 4 rfl) (.g 1 rfl) .c (wfI (by omega) (by omega)) (wfI (by omega) (by omega)) h63 (nrm_succ p1)) .n))) [0, 1, 2, 3] [2] rfl rfl (Nx.bkN (Nx.go (Tr.reg [(3, 1)] (.k (add_ .k (.b 3 rfl) .c (show IntKind.i64.wrap ((k : Int) + 1) = ((k + 1 : Nat) : Int) by rw [IntWalk.i64_in _ (by omega)]; omega)) (.k (mv .k (.g 0 rfl)) .n)) [0, 1, 2, 4] [1] rfl rfl (Nx.again (l.length - (k + 1)) (by omega) [.s 3 (.is (.map (some g1))), .s 7 (svec l), .s 8 (iv ((l.length : Nat) : Int)), .s 9 (iv (((k + 1) : Nat) : Int)), .h 1 g1 (HP.pset Try.prog 36 4 (k + 1) ((l.take (k + 1)).map nrm).reverse)] ⟨(k + 1), ⟨by omega, none_succ hinv.2 ((isTw_at p1).trans hno)⟩, rfl, rfl⟩ (Sub.all (.cons 0 rfl (.cons 1 rfl (.cons 2 rfl (.cons 4 rfl (.cons 3 rfl .nil))))))))))))
  ·
   rw [show twF l = (k : Int) from first_at hinv.2 ((isTw_at p1).trans hno) (Nat.zero_le _) (by omega)]
   refine Tr.seq (Tr.rs [] (.k (mv .k (.b 0 rfl)) (.k (ld .k (.b 6 rfl) tyS) (.k (lkp .k Try.underlying86 keyS Try.underlying4 zBool (.g 0 rfl) (.b 4 rfl) (.g 1 rfl) (wfI (by omega) (by omega)) (wfI (by omega) (by omega)) hno) .n))) [0, 1, 2, 3, 4, 5, 6] [2] rfl rfl ?_)
   refine Tr.cond 7 rfl (fun _ => ?_) nofun
   refine Tr.rs [] (.k (mv .k (.b 5 rfl)) (.k (asg .k (.g 0 rfl)) .n)) [4] [1] rfl rfl ?_
   refine Tr.ret (end_tmp 1 rfl rfl)
 ·
  obtain rfl : k = l.length := by have := of_decide_eq_false e10; omega
  refine Tr.exit (Nx.thX (Nx.thX (Nx.bkX (Nx.go (?_)))))
  rw [show twF l = -1 from first_none fun j h0 h => hinv.2 j h0 (by omega)]
  refine Tr.rs [] (.k (asg .k .c) .n) [4] [0] rfl rfl ?_
  refine Tr.ret (end_tmp 1 rfl rfl)
set_option maxRecDepth 100000 in
set_option maxHeartbeats 8000000 in
theorem fn_ringBad (z : Int) : FnC Try.prog 26 [iv z] (bv (ringBad z)) := by
 refine FnC.of (N := 9) Try.func26 rfl rfl (Nat.le_of_ble_eq_true rfl) (fun w0 ok0 => ?_)
 refine Tr.rs [] (.k (asg .k .c) .n) [0] [] rfl rfl ?_
 by_cases h : z = 0
 ·
  subst h
  refine Tr.rs [] (.k (mv .k (.b 0 rfl)) (.k (ne_ .k (.g 0 rfl) .c rfl) (.k (mv .k (.g 1 rfl)) (.k (skp (.on (.g 2 rfl) rfl rfl)) (.k (skp (.on (.g 2 rfl) rfl rfl)) (.k (pickF .k (.g 2 rfl) .c) (.k (asg .k (.g 5 rfl)) .n))))))) [] [6] rfl rfl ?_
  refine Tr.ret (end_tmp 0 rfl rfl)
 ·
  rw [show ringBad z = (z != 2) by unfold ringBad; rw [bne_iff_ne.2 h]; rfl]
  refine Tr.rs [] (.k (mv .k (.b 0 rfl)) (.k (ne_ .k (.g 0 rfl) .c (bne_iff_ne.2 h)) (.k (mv .k (.g 1 rfl)) (.k (mv (.on (.g 2 rfl) rfl rfl) (.b 0 rfl)) (.k (ne_ (.on (.g 2 rfl) rfl rfl) (.g 3 rfl) .c rfl) (.k (pickT .k (.g 2 rfl) (.g 4 rfl)) (.k (asg .k (.g 5 rfl)) .n))))))) [] [6] rfl rfl ?_
  refine Tr.ret (end_tmp 0 rfl rfl)
set_option maxRecDepth 100000 in
set_option maxHeartbeats 8000000 in
theorem fn_IndexFunc (d : List Int) (hl : d.length ≤ 9000000) : FnC Try.prog 25 [ivec d, .is (.func (.func 26) #[] #[])] (iv (idxF d)) := by
 refine FnC.of (N := 19) Try.func25 rfl rfl (Nat.le_of_ble_eq_true rfl) (fun w0 ok0 => ?_)
 refine Tr.rs [] (.k (asg .k .c) .n) [0, 1] [] rfl rfl ?_
 refine Tr.seq (Tr.rs [] (.k (mv .k (.b 0 rfl)) (.k (len_ .k rwI (.g 0 rfl) (by rw [List.length_map])) (.k (mv .k .c) .n))) [0, 1] [1, 2] rfl rfl ?_)
 refine Tr.block (?_)
 refine Tr.loop (fun n_ F_ => ∃ k : Nat, (k ≤ d.length ∧ ∀ j, 0 ≤ j → j < k → badAt d j = false) ∧ n_ = d.length - k ∧ F_ = [.s 0 (ivec d), .s 1 (.is (.func (.func 26) #[] #[])), .s 7 (iv ((d.length : Nat) : Int)), .s 8 (iv ((k : Nat) : Int))]) (d.length - 0) (F0 := [.s 0 (ivec d), .s 1 (.is (.func (.func 26) #[] #[])), .s 7 (iv ((d.length : Nat) : Int)), .s 8 (iv ((0 : Nat) : Int))]) ⟨0, ⟨Nat.zero_le _, fun j _ h => by omega⟩, rfl, rfl⟩ (Sub.all (.cons 0 rfl (.cons 1 rfl (.cons 2 rfl (.cons 3 rfl .nil))))) (fun n_ F_ hI => ?_)
 obtain ⟨k, hinv, rfl, rfl⟩ := hI
 refine Tr.rs [] (.k (lt_ .k (.b 3 rfl) (.b 2 rfl) rfl) .n) [0, 1, 2, 3] [0] rfl rfl ?_
 refine Tr.seq (Tr.cond 4 rfl (fun e9 => ?_) (fun e9 => ?_))
 ·
  have hk2 : k < d.length := by have := of_decide_eq_true e9; omega
  refine Tr.skip (Nx.go (Tr.seq (Tr.block (?_))))
  obtain ⟨z, p1⟩ : ∃ z, d[k]? = some z := ⟨_, List.getElem?_eq_getElem hk2⟩
  refine Tr.rs [] (.k (mv .k (.b 3 rfl)) (.k (asg .k (.g 0 rfl)) .n)) [0, 1, 2, 3] [1] rfl rfl ?_
  cases hno : ringBad z
  ·
   refine Tr.rs [] (.k (mv .k (.b 1 rfl)) (.k (mv .k (.b 0 rfl)) (.k (mv .k (.b 4 rfl)) (.k (idx_ .k rwI (.g 1 rfl) (.g 2 rfl) rfl (by rw [List.getElem?_map, p1]; rfl)) (.k (ldc_at .k (.g 3 rfl) tyI) (.k (calv .k (.g 0 rfl) Try.func26 rfl (hno ▸ fn_ringBad z) (.k (.g 4 rfl) .n)) .n)))))) [0, 1, 2, 3, 4] [5] rfl rfl ?_
   refine Tr.cond 5 rfl nofun (fun _ => ?_)
   refine Tr.skip (Nx.bkN (Nx.go (Tr.reg [(3, 1)] (.k (add_ .k (.b 3 rfl) .c (show IntKind.i64.wrap ((k : Int) + 1) = ((k + 1 : Nat) : Int) by rw [IntWalk.i64_in _ (by omega)]; omega)) (.k (mv .k (.g 0 rfl)) .n)) [0, 1, 2] [1] rfl rfl (Nx.again (d.length - (k + 1)) (by omega) [.s 0 (ivec d), .s 1 (.is (.func (.func 26) #[] #[])), .s 7 (iv ((d.length : Nat) : Int)), .s 8 (iv (((k + 1) : Nat) : Int))] ⟨(k + 1), ⟨by omega, none_succ hinv.2 ((badAt_at p1).trans hno)⟩, rfl, rfl⟩ (Sub.all (.cons 0 rfl (.cons 1 rfl (.cons 2 rfl (.cons 3 rfl .nil)))))))))
  ·
   rw [show idxF d = (k : Int) from first_at hinv.2 ((badAt_at p1).trans hno) (Nat.zero_le _) (by omega)]
   refine Tr.rs [] (.k (mv .k (.b 1 rfl)) (.k (mv .k (.b 0 rfl)) (.k (mv .k (.b 4 rfl)) (.k (idx_ .k rwI (.g 1 rfl) (.g 2 rfl) rfl (by rw [List.getElem?_map, p1]; rfl)) (.k (ldc_at .k (.g 3 rfl) tyI) (.k (calv .k (.g 0 rfl) Try.func26 rfl (hno ▸ fn_ringBad z) (.k (.g 4 rfl) .n)) .n)))))) [0, 1, 2, 3, 4] [5] rfl rfl ?_
   refine Tr.cond 5 rfl (fun _ => ?_) nofun
   refine Tr.rs [] (.k (mv .k (.b 4 rfl)) (.k (asg .k (.g 0 rfl)) .n)) [] [1] rfl rfl ?_
   refine Tr.ret (end_tmp 0 rfl rfl)
 ·
  obtain rfl : k = d.length := by have := of_decide_eq_false e9; omega
  refine Tr.exit (Nx.thX (Nx.thX (Nx.bkX (Nx.go (?_)))))
  rw [show idxF d = -1 from first_none fun j h0 h => hinv.2 j h0 (by omega)]
  refine Tr.rs [] (.k (asg .k .c) .n) [] [0] rfl rfl ?_
  refine Tr.ret (end_tmp 0 rfl rfl)
set_option maxRecDepth 100000 in
set_option maxHeartbeats 8000000 in
theorem fn_other (x y z : Int) : FnC Try.prog 28 [.is (nxv (x, y)), iv z] (iv (if x = z then y else x)) := by
 refine FnC.of (N := 13) Try.func28 rfl rfl (Nat.le_of_ble_eq_true rfl) (fun w0 ok0 => ?_)
 refine Tr.rs [] (.k (bxx .k (.b 0 rfl)) (.k (asg .k .c) .n)) [1] [0] rfl rfl ?_
 by_cases h : x = z
 ·
  rw [if_pos h]
  refine Tr.seq (Tr.rs [] (.k (baddr 0 .k (.b 1 rfl) rfl arX rfl (by decide)) (.k (ldc .k (.g 0 rfl) (.b 1 rfl) tyI) (.k (mv .k (.b 0 rfl)) (.k (eq_ .k (.g 1 rfl) (.g 2 rfl) (beq_iff_eq.2 h)) .n)))) [1] [3] rfl rfl ?_)
  refine Tr.cond 1 rfl (fun _ => ?_) nofun
  refine Tr.rs [] (.k (baddr 1 .k (.b 0 rfl) rfl arX rfl (by decide)) (.k (ldc .k (.g 0 rfl) (.b 0 rfl) tyI) (.k (asg .k (.g 1 rfl)) .n))) [] [2] rfl rfl ?_
  refine Tr.ret (end_tmp 0 rfl rfl)
 ·
  rw [if_neg h]
  refine Tr.seq (Tr.rs [] (.k (baddr 0 .k (.b 1 rfl) rfl arX rfl (by decide)) (.k (ldc .k (.g 0 rfl) (.b 1 rfl) tyI) (.k (mv .k (.b 0 rfl)) (.k (eq_ .k (.g 1 rfl) (.g 2 rfl) (beq_eq_false_iff_ne.2 h)) .n)))) [1] [3] rfl rfl ?_)
  refine Tr.cond 1 rfl nofun (fun _ => ?_)
  refine Tr.skip (Nx.go (Tr.rs [] (.k (baddr 0 .k (.b 0 rfl) rfl arX rfl (by decide)) (.k (ldc .k (.g 0 rfl) (.b 0 rfl) tyI) (.k (asg .k (.g 1 rfl)) .n))) [] [2] rfl rfl ?_))
  refine Tr.ret (end_tmp 0 rfl rfl)
end Go.Proofs.Ytcifcohkjifadaa

/- RingsRound: places each with the next one are one loop; less or more by a segment they are none; walked. -/
import Derived.Test.YtcifcohkjifadaaRg5
import Derived.Test.YtcifcohkjifadaaKn
import Derived.Test.YtcifcohkjifadaaSgRow
import Derived.Test.YtcifcohkjifadaaLx
import Derived.Test.YtcifcohkjifadaaRt5
set_option linter.unusedVariables false
set_option linter.unusedSimpArgs false
namespace Go.Proofs.Ytcifcohkjifadaa
open Go Go.RowKit Go.Proofs.Ytcifcohkjifadaa.Fx Go.Proofs.YtcifcohkjifadaaW.PrintWords
abbrev uvec (l : List Int) : SP := .vec 1 (l.map fun x => [Value.int .u8 x])
def pickL (rw_ : List Int) : Nat → List Int
  | 0 => []
  | i + 1 => if rw_.getD i 0 ∈ pickL rw_ i then pickL rw_ i else pickL rw_ i ++ [rw_.getD i 0]
theorem pick_in {rw_ : List Int} {i : Nat} {x : Int} (h : rw_[i]? = some x) (hin : x ∈ pickL rw_ i) : pickL rw_ (i + 1) = pickL rw_ i := by
  conv => lhs; unfold pickL
  rw [List.getD_eq_getElem?_getD, h]
  exact if_pos hin
theorem pick_new {rw_ : List Int} {i : Nat} {x : Int} (h : rw_[i]? = some x) (hin : ¬ x ∈ pickL rw_ i) : pickL rw_ (i + 1) = pickL rw_ i ++ [x] := by
  conv => lhs; unfold pickL
  rw [List.getD_eq_getElem?_getD, h]
  exact if_neg hin
theorem pick_len (rw_ : List Int) : ∀ i, (pickL rw_ i).length ≤ i
  | 0 => Nat.le_refl _
  | i + 1 => by
    have := pick_len rw_ i
    unfold pickL
    split
    · omega
    · rw [List.length_append, List.length_singleton]; omega
theorem pick_nd (rw_ : List Int) : ∀ i, (pickL rw_ i).Nodup
  | 0 => List.nodup_nil
  | i + 1 => by
    have := pick_nd rw_ i
    unfold pickL
    split
    · exact this
    · rename_i h
      rw [List.nodup_append]
      exact ⟨this, by simp, fun a ha b hb e => h (by rw [List.mem_singleton.1 hb] at e; exact e ▸ ha)⟩
theorem pick_by {rw_ : List Int} (hw : ∀ x ∈ rw_, 0 ≤ x ∧ x ≤ 255) : ∀ i, ∀ x ∈ pickL rw_ i, 0 ≤ x ∧ x ≤ 255
  | 0 => fun x hx => by cases hx
  | i + 1 => fun x hx => by
    unfold pickL at hx
    split at hx
    · exact pick_by hw i x hx
    · rcases List.mem_append.1 hx with h | h
      · exact pick_by hw i x h
      · rw [List.mem_singleton.1 h, List.getD_eq_getElem?_getD]
        cases e : rw_[i]? with
        | none => decide
        | some y => exact hw y (List.mem_of_getElem? e)
theorem segs_one (l : List Int) : segsR [l] = Sg l := by simp [segsR, Sg]
theorem sg_len (l : List Int) : (Sg l).length = l.length := segTo_len l l.length
set_option maxRecDepth 100000 in
set_option maxHeartbeats 8000000 in
theorem law_RingsRound (rw_ : List Int) (hw : ∀ x ∈ rw_, 0 ≤ x ∧ x ≤ 255) (a : Int) : FnC Try.prog 9 [uvec rw_, iv a] (bv true) := by
 refine FnC.of (N := 165) Try.func9 rfl rfl (Nat.le_of_ble_eq_true rfl) (fun w0 ok0 => ?_)
 obtain ⟨N, hN⟩ : ∃ N, N = min rw_.length 60 := ⟨_, rfl⟩
 refine Tr.rs [] (.k (asg .k .c) .n) [0, 1] [] rfl rfl ?_
 refine Tr.rs [] (.k (oini (sz := 1) (E := 3) .k (.inl rfl)) .n) [0, 1] [0] rfl rfl ?_
 refine Tr.cut [.s 1 (iv a), .o 5 1 3 ((pickL rw_ N).map fun z => [ic z])] ?_ ?_
 ·
  refine Tr.rs [] (.k (asg .k .c) .n) [0, 1, 2] [0] rfl rfl ?_
  refine Tr.block (?_)
  refine Tr.loop (fun n_ F_ => ∃ i : Nat, (i ≤ N) ∧ n_ = N - i ∧ F_ = [.s 0 (uvec rw_), .s 1 (iv a), .o 5 1 3 ((pickL rw_ i).map fun z => [ic z]), .s 6 (iv ((i : Nat) : Int))]) (N - 0) (F0 := [.s 0 (uvec rw_), .s 1 (iv a), .o 5 1 3 ((pickL rw_ 0).map fun z => [ic z]), .s 6 (iv ((0 : Nat) : Int))]) ⟨0, Nat.zero_le _, rfl, rfl⟩ (Sub.all (.cons 0 rfl (.cons 1 rfl (.cons 2 rfl (.cons 3 rfl .nil))))) (fun n_ F_ hI => ?_)
  obtain ⟨i, hinv, rfl, rfl⟩ := hI
  rcases (show ¬ (i : Int) < (rw_.length : Int) ∨ ((i : Int) < (rw_.length : Int) ∧ ¬ (i : Int) < 60) ∨ ((i : Int) < (rw_.length : Int) ∧ (i : Int) < 60) by omega) with h1 | ⟨h1, h2⟩ | ⟨h1, h2⟩
  ·
   obtain rfl : i = N := by omega
   refine Tr.seq (Tr.rs [] (.k (mv .k (.b 3 rfl)) (.k (mv .k (.b 0 rfl)) (.k (len_ .k rwU (.g 1 rfl) (by rw [List.length_map])) (.k (lt_ .k (.g 0 rfl) (.g 2 rfl) (decide_eq_false h1)) (.k (mv .k (.g 3 rfl)) (.k (skp (.on (.g 4 rfl) rfl rfl)) (.k (skp (.on (.g 4 rfl) rfl rfl)) (.k (pickF .k (.g 4 rfl) .c) .n)))))))) [0, 1, 2, 3] [7] rfl rfl ?_)
   refine Tr.cond 4 rfl nofun (fun _ => ?_)
   refine Tr.exit (Nx.thX (Nx.thX (Nx.bkX (Nx.met _ (Sub.all (.cons 1 rfl (.cons 2 rfl .nil)))))))
  ·
   obtain rfl : i = N := by omega
   refine Tr.seq (Tr.rs [] (.k (mv .k (.b 3 rfl)) (.k (mv .k (.b 0 rfl)) (.k (len_ .k rwU (.g 1 rfl) (by rw [List.length_map])) (.k (lt_ .k (.g 0 rfl) (.g 2 rfl) (decide_eq_true h1)) (.k (mv .k (.g 3 rfl)) (.k (mv (.on (.g 4 rfl) rfl rfl) (.b 3 rfl)) (.k (lt_ (.on (.g 4 rfl) rfl rfl) (.g 5 rfl) .c (decide_eq_false h2)) (.k (pickT .k (.g 4 rfl) (.g 6 rfl)) .n)))))))) [0, 1, 2, 3] [7] rfl rfl ?_)
   refine Tr.cond 4 rfl nofun (fun _ => ?_)
   refine Tr.exit (Nx.thX (Nx.thX (Nx.bkX (Nx.met _ (Sub.all (.cons 1 rfl (.cons 2 rfl .nil)))))))
  ·
   obtain ⟨x, px⟩ : ∃ x, rw_[i]? = some x := ⟨_, List.getElem?_eq_getElem (by omega)⟩
   have hx := hw x (List.mem_of_getElem? px)
   have hpl := pick_len rw_ i
   refine Tr.seq (Tr.rs [] (.k (mv .k (.b 3 rfl)) (.k (mv .k (.b 0 rfl)) (.k (len_ .k rwU (.g 1 rfl) (by rw [List.length_map])) (.k (lt_ .k (.g 0 rfl) (.g 2 rfl) (decide_eq_true h1)) (.k (mv .k (.g 3 rfl)) (.k (mv (.on (.g 4 rfl) rfl rfl) (.b 3 rfl)) (.k (lt_ (.on (.g 4 rfl) rfl rfl) (.g 5 rfl) .c (decide_eq_true h2)) (.k (pickT .k (.g 4 rfl) (.g 6 rfl)) .n)))))))) [0, 1, 2, 3] [7] rfl rfl ?_)
   refine Tr.cond 4 rfl (fun _ => ?_) nofun
   refine Tr.skip (Nx.go (Tr.seq (Tr.block (Tr.rs [] (.k (asgk .k .c (show false = (false || decide (x ∈ (pickL rw_ i).take 0)) by rw [List.take_zero]; simp)) .n) [0, 1, 2, 3] [0] rfl rfl ?_))))
   refine Tr.seq (Tr.rs [] (.k (asg .k .c) .n) [0, 1, 2, 3, 4] [0] rfl rfl ?_)
   refine Tr.block (?_)
   refine Tr.loop (fun n_ F_ => ∃ j : Nat, (j ≤ (pickL rw_ i).length) ∧ n_ = (pickL rw_ i).length - j ∧ F_ = [.s 0 (uvec rw_), .s 1 (iv a), .o 5 1 3 ((pickL rw_ i).map fun z => [ic z]), .s 6 (iv ((i : Nat) : Int)), .s 7 (bv (false || decide (x ∈ (pickL rw_ i).take j))), .s 8 (iv ((j : Nat) : Int))]) ((pickL rw_ i).length - 0) (F0 := [.s 0 (uvec rw_), .s 1 (iv a), .o 5 1 3 ((pickL rw_ i).map fun z => [ic z]), .s 6 (iv ((i : Nat) : Int)), .s 7 (bv (false || decide (x ∈ (pickL rw_ i).take 0))), .s 8 (iv ((0 : Nat) : Int))]) ⟨0, Nat.zero_le _, rfl, rfl⟩ (Sub.all (.cons 0 rfl (.cons 1 rfl (.cons 2 rfl (.cons 3 rfl (.cons 4 rfl (.cons 5 rfl .nil))))))) (fun n_ F_ hI => ?_)
   obtain ⟨j, hjv, rfl, rfl⟩ := hI
   refine Tr.seq (Tr.rs [] (.k (mv .k (.b 5 rfl)) (.k (pk .k (.inr rfl) (.b 2 rfl) rfl) (.k (lenA .k rwI (.g 1 rfl) (.b 2 rfl) (by rw [List.length_map])) (.k (lt_ .k (.g 0 rfl) (.g 2 rfl) rfl) .n)))) [0, 1, 2, 3, 4, 5] [3] rfl rfl ?_)
   refine Tr.cond 6 rfl (fun e35 => ?_) (fun e35 => ?_)
   ·
    have hj2 : j < (pickL rw_ i).length := by have := of_decide_eq_true e35; omega
    refine Tr.skip (Nx.go (Tr.seq (Tr.block (?_))))
    obtain ⟨z, p1⟩ : ∃ z, (pickL rw_ i)[j]? = some z := ⟨_, List.getElem?_eq_getElem hj2⟩; cases hin : (false || decide (x ∈ (pickL rw_ i).take j))
    ·
     refine Tr.draw hmx [(4, 13)] (.k (mv .k (.b 4 rfl)) (.k (mv .k (.g 0 rfl)) (.k (pk (.on (.g 1 rfl) rfl rfl) (.inr rfl) (.b 2 rfl) rfl) (.k (mv (.on (.g 1 rfl) rfl rfl) (.b 5 rfl)) (.k (idxA (.on (.g 1 rfl) rfl rfl) rwI (.g 2 rfl) (.b 2 rfl) rfl (.g 3 rfl) rfl (by rw [List.getElem?_map, p1]; rfl) (Nat.mul_one _)) (.k (ldA (.on (.g 1 rfl) rfl rfl) (.g 4 rfl) (.b 2 rfl) tyI (by rw [← flat1, List.getElem?_map, p1]; rfl)) (.k (mv (.on (.g 1 rfl) rfl rfl) (.b 0 rfl)) (.k (mv (.on (.g 1 rfl) rfl rfl) (.b 3 rfl)) (.k (idx_ (.on (.g 1 rfl) rfl rfl) rwU (.g 6 rfl) (.g 7 rfl) rfl (by rw [List.getElem?_map, px]; rfl)) (.k (ldc_at (.on (.g 1 rfl) rfl rfl) (.g 8 rfl) tyU) (.k (cvt_ (.on (.g 1 rfl) rfl rfl) (by kernel_rfl) Try.underlying3 (.g 9 rfl) (IntWalk.i64_in _ (by omega))) (.k (eq_ (.on (.g 1 rfl) rfl rfl) (.g 5 rfl) (.g 10 rfl) rfl) (.k (pickF .k (.g 1 rfl) (.g 11 rfl)) (.k (asgk .k (.g 12 rfl) (in_succ hin p1)) .n)))))))))))))) [0, 1, 2, 3, 5] [13] rfl rfl (Nx.bkN (Nx.go (Tr.reg [(4, 2)] (.k (mv .k (.b 4 rfl)) (.k (add_ .k (.g 0 rfl) .c (show IntKind.i64.wrap ((j : Int) + 1) = ((j + 1 : Nat) : Int) by rw [IntWalk.i64_in _ (by omega)]; omega)) (.k (asg .k (.g 1 rfl)) .n))) [0, 1, 2, 3, 5] [2] rfl rfl (Nx.again ((pickL rw_ i).length - (j + 1)) (by omega) [.s 0 (uvec rw_), .s 1 (iv a), .o 5 1 3 ((pickL rw_ i).map fun z => [ic z]), .s 6 (iv ((i : Nat) : Int)), .s 7 (bv (false || decide (x ∈ (pickL rw_ i).take (j + 1)))), .s 8 (iv (((j + 1) : Nat) : Int))] ⟨(j + 1), (by omega), rfl, rfl⟩ (Sub.all (.cons 0 rfl (.cons 1 rfl (.cons 2 rfl (.cons 3 rfl (.cons 4 rfl (.cons 5 rfl .nil)))))))))))
    ·
     refine Tr.draw hmx [(4, 13)] (.k (mv .k (.b 4 rfl)) (.k (mv .k (.g 0 rfl)) (.k (skpv (.on (.g 1 rfl) rfl rfl)) (.k (skp (.on (.g 1 rfl) rfl rfl)) (.k (skp (.on (.g 1 rfl) rfl rfl)) (.k (skp (.on (.g 1 rfl) rfl rfl)) (.k (skp (.on (.g 1 rfl) rfl rfl)) (.k (skp (.on (.g 1 rfl) rfl rfl)) (.k (skp (.on (.g 1 rfl) rfl rfl)) (.k (skp (.on (.g 1 rfl) rfl rfl)) (.k (skp (.on (.g 1 rfl) rfl rfl)) (.k (skp (.on (.g 1 rfl) rfl rfl)) (.k (pickT .k (.g 1 rfl) .c) (.k (asgk .k (.g 12 rfl) (in_succ2 hin p1)) .n)))))))))))))) [0, 1, 2, 3, 5] [13] rfl rfl (Nx.bkN (Nx.go (Tr.reg [(4, 2)] (.k (mv .k (.b 4 rfl)) (.k (add_ .k (.g 0 rfl) .c (show IntKind.i64.wrap ((j : Int) + 1) = ((j + 1 : Nat) : Int) by rw [IntWalk.i64_in _ (by omega)]; omega)) (.k (asg .k (.g 1 rfl)) .n))) [0, 1, 2, 3, 5] [2] rfl rfl (Nx.again ((pickL rw_ i).length - (j + 1)) (by omega) [.s 0 (uvec rw_), .s 1 (iv a), .o 5 1 3 ((pickL rw_ i).map fun z => [ic z]), .s 6 (iv ((i : Nat) : Int)), .s 7 (bv (false || decide (x ∈ (pickL rw_ i).take (j + 1)))), .s 8 (iv (((j + 1) : Nat) : Int))] ⟨(j + 1), (by omega), rfl, rfl⟩ (Sub.all (.cons 0 rfl (.cons 1 rfl (.cons 2 rfl (.cons 3 rfl (.cons 4 rfl (.cons 5 rfl .nil)))))))))))
   ·
    have hje : j = (pickL rw_ i).length := by have := of_decide_eq_false e35; omega
    refine Tr.exit (Nx.thX (Nx.thX (Nx.bkX (Nx.go (?_)))))
    subst hje
    rw [List.take_length]
    by_cases hin : x ∈ pickL rw_ i
    ·
     rw [show (false || decide (x ∈ pickL rw_ i)) = true by simp [hin], ← pick_in px hin]
     refine Tr.rs [] (.k (mv .k (.b 4 rfl)) (.k (not_ .k (.g 0 rfl)) .n)) [0, 1, 2, 3] [1] rfl rfl ?_
     refine Tr.cond 4 rfl nofun (fun _ => ?_)
     refine Tr.skip (Nx.bkN (Nx.go (Tr.reg [(3, 2)] (.k (mv .k (.b 3 rfl)) (.k (add_ .k (.g 0 rfl) .c (show IntKind.i64.wrap ((i : Int) + 1) = ((i + 1 : Nat) : Int) by rw [IntWalk.i64_in _ (by omega)]; omega)) (.k (asg .k (.g 1 rfl)) .n))) [0, 1, 2] [2] rfl rfl (Nx.again (N - (i + 1)) (by omega) [.s 0 (uvec rw_), .s 1 (iv a), .o 5 1 3 ((pickL rw_ (i + 1)).map fun z => [ic z]), .s 6 (iv (((i + 1) : Nat) : Int))] ⟨(i + 1), (by omega), rfl, rfl⟩ (Sub.all (.cons 0 rfl (.cons 1 rfl (.cons 2 rfl (.cons 3 rfl .nil)))))))))
    ·
     rw [show (false || decide (x ∈ pickL rw_ i)) = false by simp [hin]]
     refine Tr.rs [] (.k (mv .k (.b 4 rfl)) (.k (not_ .k (.g 0 rfl)) .n)) [0, 1, 2, 3] [1] rfl rfl ?_
     refine Tr.cond 4 rfl (fun _ => ?_) nofun
     refine Tr.go (Go.k (omv .k (.inr rfl) (.b 2 rfl)) [0, 1, 3] rfl rfl (Go.k (mv .k (.b 1 rfl)) [0, 1, 2, 3] rfl rfl (Go.k (mv .k (.b 4 rfl)) [0, 1, 2, 3, 4] rfl rfl (Go.k (idx_ .k rwU (.b 1 rfl) (.b 0 rfl) rfl (by rw [List.getElem?_map, px]; rfl)) [2, 3, 4, 5] rfl rfl (Go.k (ldc_at .k (.b 0 rfl) tyU) [1, 2, 3, 4] rfl rfl (Go.k (cvt_ .k (by kernel_rfl) Try.underlying3 (.b 0 rfl) (IntWalk.i64_in _ (by omega))) [1, 2, 3, 4] rfl rfl (Go.k (mkrow .k rwI (.k (.b 0 rfl) .n) rfl rfl (by kernel_rfl)) [1, 2, 3, 4] rfl rfl (Go.k (oapp_ .k apI (.b 1 rfl) (.b 0 rfl) (by decide) ⟨(show _ = (pickL rw_ (i + 1)).map (fun z => [ic z]) by rw [pick_new px hin, List.map_append]; rfl), ⟨rfl, rfl⟩, by rw [List.length_map]; omega⟩) [2, 3, 4] rfl rfl (Go.k (omv .k (.inl rfl) (.b 0 rfl)) [1, 2, 3] rfl rfl (Go.end_ (Nx.bkN (Nx.go (Tr.reg [(3, 2)] (.k (mv .k (.b 3 rfl)) (.k (add_ .k (.g 0 rfl) .c (show IntKind.i64.wrap ((i : Int) + 1) = ((i + 1 : Nat) : Int) by rw [IntWalk.i64_in _ (by omega)]; omega)) (.k (asg .k (.g 1 rfl)) .n))) [0, 1, 2] [2] rfl rfl (Nx.again (N - (i + 1)) (by omega) [.s 0 (uvec rw_), .s 1 (iv a), .o 5 1 3 ((pickL rw_ (i + 1)).map fun z => [ic z]), .s 6 (iv (((i + 1) : Nat) : Int))] ⟨(i + 1), (by omega), rfl, rfl⟩ (Sub.all (.cons 1 rfl (.cons 2 rfl (.cons 0 rfl (.cons 3 rfl .nil)))))))))))))))))))
 ·
  have hpl := pick_len rw_ N; have hnd := pick_nd rw_ N; have hby := pick_by hw N; generalize pickL rw_ N = l at hpl hnd hby ⊢; by_cases h3 : (l.length : Int) < 3
  ·
   refine Tr.seq (Tr.rs [] (.k (pk .k (.inr rfl) (.b 1 rfl) rfl) (.k (lenA .k rwI (.g 0 rfl) (.b 1 rfl) (by rw [List.length_map])) (.k (lt_ .k (.g 1 rfl) .c (decide_eq_true h3)) .n))) [0, 1] [2] rfl rfl ?_)
   refine Tr.cond 2 rfl (fun _ => ?_) nofun
   refine Tr.rs [] (.k (cal .k Try.func10 rfl fn_known .n) (.k (asg .k (.g 0 rfl)) .n)) [] [1] rfl rfl ?_
   refine Tr.ret (end_tmp 0 rfl rfl)
  ·
   have R : Row l := ⟨hnd, hby, by omega⟩
   obtain ⟨r, hr1, hr2⟩ := R.ring
   have hSl := sg_len l
   obtain ⟨kk, hkk, hkl0⟩ := kk_ex a (Sg l).length (by omega)
   have hkl : kk < l.length := by omega
   refine Tr.seq (Tr.rs [] (.k (pk .k (.inr rfl) (.b 1 rfl) rfl) (.k (lenA .k rwI (.g 0 rfl) (.b 1 rfl) (by rw [List.length_map])) (.k (lt_ .k (.g 1 rfl) .c (decide_eq_false h3)) .n))) [0, 1] [2] rfl rfl ?_)
   refine Tr.cond 2 rfl nofun (fun _ => ?_)
   refine Tr.skip (Nx.go (?_))
   refine Tr.frzo 1 [0, 2] rfl rfl ?_
   refine Tr.rs [] (.k (mv .k (.b 0 rfl)) (.k (mkvecs .k rwL (.k (.g 0 rfl) .n) rfl vecs1 fillL1) (.k (cal .k Try.func23 rfl (fn_Segs [l] (show 1 ≤ 1000000 by decide) (by rw [segs_one, sg_len]; omega)) (.k (.g 1 rfl) .n)) (.k (asg .k (.g 2 rfl)) .n)))) [0, 1] [3] rfl rfl ?_
   rw [segs_one]
   refine Tr.seq (Tr.rs [] (.k (mv .k (.b 2 rfl)) (.k (len_ .k rwS (.g 0 rfl) (by rw [List.length_map])) (.k (mv .k (.b 0 rfl)) (.k (len_ .k rwI (.g 2 rfl) (by rw [List.length_map])) (.k (ne_ .k (.g 1 rfl) (.g 3 rfl) (bne_eq_false_iff_eq.2 (by omega))) .n))))) [0, 1, 2] [4] rfl rfl ?_)
   refine Tr.cond 3 rfl nofun (fun _ => ?_)
   refine Tr.skip (Nx.go (Tr.rs [] (.k (mv .k (.b 2 rfl)) (.k (cal .k Try.func13 rfl (fn_Rings_of hr1 (by omega)) (.k .c (.k (.g 0 rfl) .n))) (.k (mv .k (.g 1 rfl)) (.k (exx .k (.g 2 rfl) rfl) (.k (exx .k (.g 2 rfl) rfl) (.k (exx .k (.g 2 rfl) rfl) (.k (asg .k (.g 3 rfl)) (.k (asg .k (.g 4 rfl)) (.k (asg .k (.g 5 rfl)) .n))))))))) [0, 1, 2] [6, 8] rfl rfl ?_))
   refine Tr.seq (Tr.rs [] (.k (mv .k (.b 4 rfl)) (.k (ne_ .k (.g 0 rfl) .c rfl) (.k (mv .k (.g 1 rfl)) (.k (mv (.on (.g 2 rfl) rfl rfl) (.b 3 rfl)) (.k (lenv (.on (.g 2 rfl) rfl rfl) rwL (.g 3 rfl) rfl) (.k (ne_ (.on (.g 2 rfl) rfl rfl) (.g 4 rfl) .c rfl) (.k (pickF .k (.g 2 rfl) (.g 5 rfl)) (.k (mv .k (.g 6 rfl)) (.k (mv (.on (.g 7 rfl) rfl rfl) (.b 3 rfl)) (.k (idxv (.on (.g 7 rfl) rfl rfl) rwL (.g 8 rfl) .c rfl rfl) (.k (ldv (.on (.g 7 rfl) rfl rfl) (.g 9 rfl) tyL) (.k (len_ (.on (.g 7 rfl) rfl rfl) rwI (.g 10 rfl) (by rw [List.length_map])) (.k (mv (.on (.g 7 rfl) rfl rfl) (.b 0 rfl)) (.k (len_ (.on (.g 7 rfl) rfl rfl) rwI (.g 12 rfl) (by rw [List.length_map])) (.k (ne_ (.on (.g 7 rfl) rfl rfl) (.g 11 rfl) (.g 13 rfl) (bne_eq_false_iff_eq.2 (by omega))) (.k (pickF .k (.g 7 rfl) (.g 14 rfl)) .n)))))))))))))))) [1, 2] [15] rfl rfl ?_)
   refine Tr.cond 2 rfl nofun (fun _ => ?_)
   refine Tr.skip (Nx.go (Tr.rs [] (.k (mv .k (.b 0 rfl)) (.k (cvt_ .k (by kernel_rfl) Try.underlying53 (.g 0 rfl) rfl) (.k (mv .k (.b 1 rfl)) (.k (len_ .k rwS (.g 2 rfl) (by rw [List.length_map])) (.k (cvt_ .k (by kernel_rfl) Try.underlying53 (.g 3 rfl) (u64_id (by omega) (by omega))) (.k (rem_ .k (.g 1 rfl) (.g 4 rfl) (by omega) hkk) (.k (cvt_ .k (by kernel_rfl) Try.underlying3 (.g 5 rfl) (IntWalk.i64_in _ (by omega))) (.k (asg .k (.g 6 rfl)) .n)))))))) [1] [7] rfl rfl ?_))
   refine Tr.rs [] (.k (oini (sz := 2) (E := 36) .k (.inl rfl)) .n) [0, 1] [0] rfl rfl ?_
   refine Tr.gos (Go.k (omv .k (.inr rfl) (.b 2 rfl)) [0, 1] rfl rfl (Go.k (mv .k (.b 1 rfl)) [0, 1, 2] rfl rfl (Go.k (mv .k (.b 3 rfl)) [0, 1, 2, 3] rfl rfl (Go.k (slcH .k rwS (.b 1 rfl) (.b 0 rfl) rfl (by rw [List.length_map]; omega)) [2, 3, 4] rfl rfl (Go.k (oapa .k apS (.b 1 rfl) (.b 0 rfl) (by decide) ⟨(show _ = ((Sg l).take kk).map sgc by rw [List.nil_append, List.map_take]), (by rw [← List.map_take]; exact seg_all _), by rw [List.length_take, List.length_map]; simp; omega⟩) [2, 3] rfl rfl (Go.k (omv .k (.inl rfl) (.b 0 rfl)) [1, 2] rfl rfl (Go.end_ (Nx.go (?_)))))))))
   refine Tr.gos (Go.k (omv .k (.inr rfl) (.b 0 rfl)) [1, 2] rfl rfl (Go.k (mv .k (.b 1 rfl)) [0, 1, 2] rfl rfl (Go.k (mv .k (.b 3 rfl)) [0, 1, 2, 3] rfl rfl (Go.k (add_ .k (.b 0 rfl) .c (show IntKind.i64.wrap ((kk : Int) + 1) = ((kk + 1 : Nat) : Int) by rw [IntWalk.i64_in _ (by omega)]; omega)) [1, 2, 3, 4] rfl rfl (Go.k (slcL .k rwS (.b 1 rfl) (.b 0 rfl) rfl (by rw [List.length_map]; omega)) [2, 3, 4] rfl rfl (Go.k (oapa .k apS (.b 1 rfl) (.b 0 rfl) (by decide) ⟨(show _ = ((Sg l).take kk ++ (Sg l).drop (kk + 1)).map sgc by rw [List.map_append (l₁ := (Sg l).take kk), List.map_drop]), (by rw [← List.map_drop]; exact seg_all _), by rw [List.length_map, List.length_take, List.length_drop, List.length_map]; omega⟩) [2, 3] rfl rfl (Go.k (omv .k (.inl rfl) (.b 0 rfl)) [1, 2] rfl rfl (Go.end_ (Nx.go (?_))))))))))
   refine Tr.frzo 0 [1, 2] rfl rfl ?_
   refine Tr.rs [] (.k (mv .k (.b 0 rfl)) (.k (cal .k Try.func13 rfl (fn_Rings_of (R.less hkl) (by rw [List.length_append, List.length_take, List.length_drop]; omega)) (.k .c (.k (.g 0 rfl) .n))) (.k (mv .k (.g 1 rfl)) (.k (exx .k (.g 2 rfl) rfl) (.k (exx .k (.g 2 rfl) rfl) (.k (exx .k (.g 2 rfl) rfl) (.k (asg .k (.g 3 rfl)) (.k (asg .k (.g 4 rfl)) (.k (asg .k (.g 5 rfl)) .n))))))))) [1, 2] [7, 8] rfl rfl ?_
   refine Tr.rs [] (.k (oini (sz := 2) (E := 36) .k (.inl rfl)) .n) [0, 1, 2, 3] [0] rfl rfl ?_
   refine Tr.gos (Go.k (omv .k (.inr rfl) (.b 4 rfl)) [0, 1, 2, 3] rfl rfl (Go.k (mv .k (.b 1 rfl)) [0, 1, 2, 3, 4] rfl rfl (Go.k (oapa .k apS (.b 1 rfl) (.b 0 rfl) (by decide) ⟨(show _ = (Sg l).map sgc from List.nil_append _), seg_all _, by rw [List.length_map]; simp; omega⟩) [2, 3, 4, 5] rfl rfl (Go.k (omv .k (.inl rfl) (.b 0 rfl)) [1, 2, 3, 4] rfl rfl (Go.end_ (Nx.go (?_)))))))
   refine Tr.gos (Go.k (omv .k (.inr rfl) (.b 0 rfl)) [1, 2, 3, 4] rfl rfl (Go.k (mv .k (.b 1 rfl)) [0, 1, 2, 3, 4] rfl rfl (Go.k (mv .k (.b 3 rfl)) [0, 1, 2, 3, 4, 5] rfl rfl (Go.k (idx_ .k rwS (.b 1 rfl) (.b 0 rfl) rfl (by rw [List.getElem?_map, (sg_at hkl)]; rfl)) [2, 3, 4, 5, 6] rfl rfl (Go.k (ld_at .k (.b 0 rfl) tyS rfl (show _ = sgv (_, _) from rfl)) [1, 2, 3, 4, 5] rfl rfl (Go.k (mkrow .k rwS (.k (.b 0 rfl) .n) rfl rfl (by kernel_rfl)) [1, 2, 3, 4, 5] rfl rfl (Go.k (oapp_ .k apS (.b 1 rfl) (.b 0 rfl) (by decide) ⟨(show _ = (Sg l ++ [(El l kk, El l ((kk + 1) % l.length))]).map sgc by rw [List.map_append]; rfl), ⟨rfl, rfl⟩, by rw [List.length_map]; omega⟩) [2, 3, 4, 5] rfl rfl (Go.k (omv .k (.inl rfl) (.b 0 rfl)) [1, 2, 3, 4] rfl rfl (Go.end_ (Nx.go (?_)))))))))))
   refine Tr.frzo 0 [1, 2, 3, 4] rfl rfl ?_
   refine Tr.rs [] (.k (mv .k (.b 0 rfl)) (.k (cal .k Try.func13 rfl (fn_Rings_of (R.more hkl) (by rw [List.length_append, List.length_singleton]; omega)) (.k .c (.k (.g 0 rfl) .n))) (.k (mv .k (.g 1 rfl)) (.k (exx .k (.g 2 rfl) rfl) (.k (exx .k (.g 2 rfl) rfl) (.k (exx .k (.g 2 rfl) rfl) (.k (asg .k (.g 3 rfl)) (.k (asg .k (.g 4 rfl)) (.k (asg .k (.g 5 rfl)) .n))))))))) [1, 2, 3, 4] [7, 8] rfl rfl ?_
   refine Tr.ds hmx [] (.k (mv .k (.b 3 rfl)) (.k (eq_ .k (.g 0 rfl) .c (beq_iff_eq.2 rfl)) (.k (mv .k (.g 1 rfl)) (.k (mv (.on (.g 2 rfl) rfl rfl) (.b 2 rfl)) (.k (mv (.on (.g 2 rfl) rfl rfl) (.b 0 rfl)) (.k (mv (.on (.g 2 rfl) rfl rfl) (.b 1 rfl)) (.k (idx_ (.on (.g 2 rfl) rfl rfl) rwS (.g 4 rfl) (.g 5 rfl) rfl (by rw [List.getElem?_map, (sg_at hkl)]; rfl)) (.k (fat (.on (.g 2 rfl) rfl rfl) (.g 6 rfl) aSA rfl) (.k (ldc_at (.on (.g 2 rfl) rfl rfl) (.g 7 rfl) tyI) (.k (mv (.on (.g 2 rfl) rfl rfl) (.b 0 rfl)) (.k (mv (.on (.g 2 rfl) rfl rfl) (.b 1 rfl)) (.k (idx_ (.on (.g 2 rfl) rfl rfl) rwS (.g 9 rfl) (.g 10 rfl) rfl (by rw [List.getElem?_map, (sg_at hkl)]; rfl)) (.k (fat (.on (.g 2 rfl) rfl rfl) (.g 11 rfl) aSB rfl) (.k (ldc_at (.on (.g 2 rfl) rfl rfl) (.g 12 rfl) tyI) (.k (minb_ (.on (.g 2 rfl) rfl rfl) (.g 8 rfl) (.g 13 rfl) (min_if _ _)) (.k (eq_ (.on (.g 2 rfl) rfl rfl) (.g 3 rfl) (.g 14 rfl) (beq_iff_eq.2 rfl)) (.k (pickT .k (.g 2 rfl) (.g 15 rfl)) (.k (mv .k (.g 16 rfl)) (.k (mv (.on (.g 17 rfl) rfl rfl) (.b 5 rfl)) (.k (eq_ (.on (.g 17 rfl) rfl rfl) (.g 18 rfl) .c (beq_iff_eq.2 rfl)) (.k (pickT .k (.g 17 rfl) (.g 19 rfl)) (.k (mv .k (.g 20 rfl)) (.k (mv (.on (.g 21 rfl) rfl rfl) (.b 4 rfl)) (.k (mv (.on (.g 21 rfl) rfl rfl) (.b 0 rfl)) (.k (len_ (.on (.g 21 rfl) rfl rfl) rwS (.g 23 rfl) (by rw [List.length_map])) (.k (eq_ (.on (.g 21 rfl) rfl rfl) (.g 22 rfl) (.g 24 rfl) (beq_iff_eq.2 (by show (l.length : Int) = _; omega))) (.k (pickT .k (.g 21 rfl) (.g 25 rfl)) (.k (mv .k (.g 26 rfl)) (.k (cal (.on (.g 27 rfl) rfl rfl) Try.func10 rfl fn_known .n) (.k (pickT .k (.g 27 rfl) (.g 28 rfl)) (.k (asg .k (.g 29 rfl)) .n))))))))))))))))))))))))))))))) [] [30] rfl rfl ?_
   refine Tr.ret (end_tmp 0 rfl rfl)
theorem ringsRound_any (rw_ : List Int) (v : Value) (a : Int) (W : World) (h : (uvec rw_).H (fun _ => True) v W) (w : ∀ x ∈ rw_, 0 ≤ x ∧ x ≤ 255) (w1 : (Lit.int .i64 a).wf = true) : Calls Try.prog 9 #[v, .int .i64 a] W fun e w' => e = .returned (.bool true) ∧ Below W.heap.size W w' :=
  FnC.go (vs := [v, .int .i64 a]) (law_RingsRound rw_ w a) W ⟨h, rfl, trivial⟩
end Go.Proofs.Ytcifcohkjifadaa

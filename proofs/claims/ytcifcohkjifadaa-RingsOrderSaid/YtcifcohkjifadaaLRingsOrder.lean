/- RingsOrder: in whichever order, from whichever end, segments come, their loops are the same; walked. -/
import Derived.Test.YtcifcohkjifadaaKn
import Derived.Test.YtcifcohkjifadaaSgRow
import Derived.Test.YtcifcohkjifadaaLx
import Derived.Test.YtcifcohkjifadaaRt3
set_option linter.unusedVariables false
set_option linter.unusedSimpArgs false
namespace Go.Proofs.Ytcifcohkjifadaa
open Go Go.RowKit Go.Proofs.Ytcifcohkjifadaa.Fx Go.Proofs.YtcifcohkjifadaaW.PrintWords
abbrev bvec (l : List Bool) : SP := .vec 1 (l.map fun b => [Value.bool b])
def sw (b : Bool) (s : Int × Int) : Int × Int := if b then (s.2, s.1) else s
def mkL (l : List (Int × Int)) (kk : Nat) (fl : List Bool) (i : Nat) : List (Int × Int) := (List.range i).map fun j => sw (fl.getD j false) (l.getD ((j + kk) % l.length) (0, 0))
theorem mkL_len (l : List (Int × Int)) (kk : Nat) (fl : List Bool) (i : Nat) : (mkL l kk fl i).length = i := by simp [mkL]
theorem mkL_succ (l : List (Int × Int)) (kk : Nat) (fl : List Bool) (i : Nat) : mkL l kk fl i ++ [sw (fl.getD i false) (l.getD ((i + kk) % l.length) (0, 0))] = mkL l kk fl (i + 1) := by
  unfold mkL
  rw [List.range_succ, List.map_append]
  rfl
theorem mkL_sm (l : List (Int × Int)) (kk : Nat) (fl : List Bool) : Sm l (mkL l kk fl l.length) := by
  unfold Sm
  have e : (mkL l kk fl l.length).map nrm = ((List.range l.length).map fun j => l.getD ((j + kk) % l.length) (0, 0)).map nrm := by
    unfold mkL
    rw [List.map_map, List.map_map]
    refine List.map_congr_left fun j _ => ?_
    show nrm (sw _ _) = nrm _
    unfold sw
    split
    · exact nrm_swap _
    · rfl
  rw [e]
  exact (List.Perm.map nrm (rot_perm l kk (0, 0))).symm
theorem flip_ways (fl : List Bool) (i : Nat) : (¬ (i : Int) < (fl.length : Int) ∧ fl.getD i false = false) ∨ ((i : Int) < (fl.length : Int) ∧ fl[i]? = some true ∧ fl.getD i false = true) ∨ ((i : Int) < (fl.length : Int) ∧ fl[i]? = some false ∧ fl.getD i false = false) := by
  by_cases h : i < fl.length
  · right
    cases hb : fl[i] with
    | true => left; exact ⟨by omega, by rw [List.getElem?_eq_getElem h, hb], by rw [List.getD_eq_getElem?_getD, List.getElem?_eq_getElem h, hb]; rfl⟩
    | false => right; exact ⟨by omega, by rw [List.getElem?_eq_getElem h, hb], by rw [List.getD_eq_getElem?_getD, List.getElem?_eq_getElem h, hb]; rfl⟩
  · left
    exact ⟨by omega, by rw [List.getD_eq_getElem?_getD, List.getElem?_eq_none (by omega)]; rfl⟩
theorem fn_Rings_sm {n : Int} {l l' : List (Int × Int)} (h : Sm l l') (hl : l'.length ≤ 100000) : FnC Try.prog 13 [iv n, svec l'] (.tup [lvec (ringsR n l).1, iv (ringsR n l').2.1, iv (ringsR n l).2.2]) := by
  have := fn_Rings n l' hl
  rw [(ringsR_sm h n).1, (ringsR_sm h n).2] at this
  exact this
set_option maxRecDepth 100000 in
set_option maxHeartbeats 8000000 in
theorem law_RingsOrder (n : Int) (l : List (Int × Int)) (a : Int) (fl : List Bool) : FnC Try.prog 5 [iv n, svec l, iv a, bvec fl] (bv true) := by
 refine FnC.of (N := 98) Try.func5 rfl rfl (Nat.le_of_ble_eq_true rfl) (fun w0 ok0 => ?_)
 refine Tr.rs [] (.k (asg .k .c) .n) [0, 1, 2, 3] [] rfl rfl ?_
 rcases (show n > 300 ∨ (¬ n > 300 ∧ (l.length : Int) > 150) ∨ (¬ n > 300 ∧ ¬ (l.length : Int) > 150 ∧ (l.length : Int) = 0) ∨ (¬ n > 300 ∧ ¬ (l.length : Int) > 150 ∧ (l.length : Int) ≠ 0) by omega) with h1 | ⟨h1, h2⟩ | ⟨h1, h2, h3⟩ | ⟨h1, h2, h3⟩
 ·
  refine Tr.seq (Tr.rs [] (.k (mv .k (.b 0 rfl)) (.k (gt_ .k (.g 0 rfl) .c (decide_eq_true h1)) (.k (mv .k (.g 1 rfl)) (.k (skp (.on (.g 2 rfl) rfl rfl)) (.k (skp (.on (.g 2 rfl) rfl rfl)) (.k (skp (.on (.g 2 rfl) rfl rfl)) (.k (pickT .k (.g 2 rfl) .c) (.k (mv .k (.g 6 rfl)) (.k (skp (.on (.g 7 rfl) rfl rfl)) (.k (skp (.on (.g 7 rfl) rfl rfl)) (.k (skp (.on (.g 7 rfl) rfl rfl)) (.k (pickT .k (.g 7 rfl) .c) .n)))))))))))) [0, 1, 2, 3] [11] rfl rfl ?_)
  refine Tr.cond 4 rfl (fun _ => ?_) nofun
  refine Tr.rs [] (.k (cal .k Try.func10 rfl fn_known .n) (.k (asg .k (.g 0 rfl)) .n)) [] [1] rfl rfl ?_
  refine Tr.ret (end_tmp 0 rfl rfl)
 ·
  refine Tr.seq (Tr.rs [] (.k (mv .k (.b 0 rfl)) (.k (gt_ .k (.g 0 rfl) .c (decide_eq_false h1)) (.k (mv .k (.g 1 rfl)) (.k (mv (.on (.g 2 rfl) rfl rfl) (.b 1 rfl)) (.k (len_ (.on (.g 2 rfl) rfl rfl) rwS (.g 3 rfl) (by rw [List.length_map])) (.k (gt_ (.on (.g 2 rfl) rfl rfl) (.g 4 rfl) .c (decide_eq_true h2)) (.k (pickF .k (.g 2 rfl) (.g 5 rfl)) (.k (mv .k (.g 6 rfl)) (.k (skp (.on (.g 7 rfl) rfl rfl)) (.k (skp (.on (.g 7 rfl) rfl rfl)) (.k (skp (.on (.g 7 rfl) rfl rfl)) (.k (pickT .k (.g 7 rfl) .c) .n)))))))))))) [0, 1, 2, 3] [11] rfl rfl ?_)
  refine Tr.cond 4 rfl (fun _ => ?_) nofun
  refine Tr.rs [] (.k (cal .k Try.func10 rfl fn_known .n) (.k (asg .k (.g 0 rfl)) .n)) [] [1] rfl rfl ?_
  refine Tr.ret (end_tmp 0 rfl rfl)
 ·
  refine Tr.seq (Tr.rs [] (.k (mv .k (.b 0 rfl)) (.k (gt_ .k (.g 0 rfl) .c (decide_eq_false h1)) (.k (mv .k (.g 1 rfl)) (.k (mv (.on (.g 2 rfl) rfl rfl) (.b 1 rfl)) (.k (len_ (.on (.g 2 rfl) rfl rfl) rwS (.g 3 rfl) (by rw [List.length_map])) (.k (gt_ (.on (.g 2 rfl) rfl rfl) (.g 4 rfl) .c (decide_eq_false h2)) (.k (pickF .k (.g 2 rfl) (.g 5 rfl)) (.k (mv .k (.g 6 rfl)) (.k (mv (.on (.g 7 rfl) rfl rfl) (.b 1 rfl)) (.k (len_ (.on (.g 7 rfl) rfl rfl) rwS (.g 8 rfl) (by rw [List.length_map])) (.k (eq_ (.on (.g 7 rfl) rfl rfl) (.g 9 rfl) .c (beq_iff_eq.2 h3)) (.k (pickF .k (.g 7 rfl) (.g 10 rfl)) .n)))))))))))) [0, 1, 2, 3] [11] rfl rfl ?_)
  refine Tr.cond 4 rfl (fun _ => ?_) nofun
  refine Tr.rs [] (.k (cal .k Try.func10 rfl fn_known .n) (.k (asg .k (.g 0 rfl)) .n)) [] [1] rfl rfl ?_
  refine Tr.ret (end_tmp 0 rfl rfl)
 ·
  obtain ⟨kk, hkk, hkl⟩ := kk_ex a l.length (by omega)
  refine Tr.seq (Tr.rs [] (.k (mv .k (.b 0 rfl)) (.k (gt_ .k (.g 0 rfl) .c (decide_eq_false h1)) (.k (mv .k (.g 1 rfl)) (.k (mv (.on (.g 2 rfl) rfl rfl) (.b 1 rfl)) (.k (len_ (.on (.g 2 rfl) rfl rfl) rwS (.g 3 rfl) (by rw [List.length_map])) (.k (gt_ (.on (.g 2 rfl) rfl rfl) (.g 4 rfl) .c (decide_eq_false h2)) (.k (pickF .k (.g 2 rfl) (.g 5 rfl)) (.k (mv .k (.g 6 rfl)) (.k (mv (.on (.g 7 rfl) rfl rfl) (.b 1 rfl)) (.k (len_ (.on (.g 7 rfl) rfl rfl) rwS (.g 8 rfl) (by rw [List.length_map])) (.k (eq_ (.on (.g 7 rfl) rfl rfl) (.g 9 rfl) .c (beq_eq_false_iff_ne.2 h3)) (.k (pickF .k (.g 7 rfl) (.g 10 rfl)) .n)))))))))))) [0, 1, 2, 3] [11] rfl rfl ?_)
  refine Tr.cond 4 rfl nofun (fun _ => ?_)
  refine Tr.skip (Nx.go (Tr.rs [] (.k (oini (sz := 2) (E := 36) .k (.inl rfl)) .n) [0, 1, 2, 3] [0] rfl rfl ?_))
  refine Tr.rs [] (.k (mv .k (.b 2 rfl)) (.k (cvt_ .k (by kernel_rfl) Try.underlying53 (.g 0 rfl) rfl) (.k (mv .k (.b 1 rfl)) (.k (len_ .k rwS (.g 2 rfl) (by rw [List.length_map])) (.k (cvt_ .k (by kernel_rfl) Try.underlying53 (.g 3 rfl) (u64_id (by omega) (by omega))) (.k (rem_ .k (.g 1 rfl) (.g 4 rfl) (by omega) hkk) (.k (cvt_ .k (by kernel_rfl) Try.underlying3 (.g 5 rfl) (IntWalk.i64_in _ (by omega))) (.k (asg .k (.g 6 rfl)) .n)))))))) [0, 1, 3, 4] [7] rfl rfl ?_
  refine Tr.seq (Tr.rs [] (.k (asg .k .c) .n) [0, 1, 2, 3, 4] [0] rfl rfl ?_)
  refine Tr.block (?_)
  refine Tr.loop (fun n_ F_ => ∃ i : Nat, (i ≤ l.length) ∧ n_ = l.length - i ∧ F_ = [.s 0 (iv n), .s 1 (svec l), .s 3 (bvec fl), .s 10 (iv ((kk : Nat) : Int)), .s 11 (iv ((i : Nat) : Int)), .o 9 2 36 ((mkL l kk fl i).map sgc)]) (l.length - 0) (F0 := [.s 0 (iv n), .s 1 (svec l), .s 3 (bvec fl), .s 10 (iv ((kk : Nat) : Int)), .s 11 (iv ((0 : Nat) : Int)), .o 9 2 36 ((mkL l kk fl 0).map sgc)]) ⟨0, Nat.zero_le _, rfl, rfl⟩ (Sub.all (.cons 0 rfl (.cons 1 rfl (.cons 2 rfl (.cons 4 rfl (.cons 5 rfl (.cons 3 rfl .nil))))))) (fun n_ F_ hI => ?_)
  obtain ⟨i, hinv, rfl, rfl⟩ := hI
  refine Tr.seq (Tr.rs [] (.k (mv .k (.b 4 rfl)) (.k (mv .k (.b 1 rfl)) (.k (len_ .k rwS (.g 1 rfl) (by rw [List.length_map])) (.k (lt_ .k (.g 0 rfl) (.g 2 rfl) rfl) .n)))) [0, 1, 2, 3, 4, 5] [3] rfl rfl ?_)
  refine Tr.cond 6 rfl (fun e42 => ?_) (fun e42 => ?_)
  ·
   have hi2 : i < l.length := by have := of_decide_eq_true e42; omega
   refine Tr.skip (Nx.go (Tr.seq (Tr.block (Tr.rs [] (.k (mv .k (.b 1 rfl)) (.k (mv .k (.b 4 rfl)) (.k (mv .k (.b 3 rfl)) (.k (add_ .k (.g 1 rfl) (.g 2 rfl) (show IntKind.i64.wrap ((i : Int) + (kk : Int)) = ((i + kk : Nat) : Int) by rw [IntWalk.i64_in _ (by omega)]; omega)) (.k (mv .k (.b 1 rfl)) (.k (len_ .k rwS (.g 4 rfl) (by rw [List.length_map])) (.k (rem_ .k (.g 3 rfl) (.g 5 rfl) (by omega) (tmod_nat _ _)) (.k (idx_ .k rwS (.g 0 rfl) (.g 6 rfl) rfl (by rw [List.getElem?_map, getD_of (d := (0, 0)) (Nat.mod_lt _ (by omega))]; rfl)) (.k (ld_at .k (.g 7 rfl) tyS rfl (show _ = sgv (_, _) from rfl)) (.k (ala .k zS) (.k (sta .k (.g 9 rfl) (.g 8 rfl) tyS) .n))))))))))) [0, 1, 2, 3, 4, 5] [10] rfl rfl ?_))))
   rcases flip_ways fl i with ⟨h1, hfl⟩ | ⟨h1, h2, hfl⟩ | ⟨h1, h2, hfl⟩
   ·
    refine Tr.seq (Tr.rs [] (.k (mv .k (.b 4 rfl)) (.k (mv .k (.b 2 rfl)) (.k (len_ .k rwB (.g 1 rfl) (by rw [List.length_map])) (.k (lt_ .k (.g 0 rfl) (.g 2 rfl) (decide_eq_false h1)) (.k (mv .k (.g 3 rfl)) (.k (skp (.on (.g 4 rfl) rfl rfl)) (.k (skp (.on (.g 4 rfl) rfl rfl)) (.k (skp (.on (.g 4 rfl) rfl rfl)) (.k (skp (.on (.g 4 rfl) rfl rfl)) (.k (pickF .k (.g 4 rfl) .c) .n)))))))))) [0, 1, 2, 3, 4, 5, 6] [9] rfl rfl ?_)
    refine Tr.cond 7 rfl nofun (fun _ => ?_)
    refine Tr.skip (Nx.go (Tr.go (Go.k (omv .k (.inr rfl) (.b 5 rfl)) [0, 1, 2, 3, 4, 6] rfl rfl (Go.k (ld .k (.b 6 rfl) tyS) [0, 1, 2, 3, 4, 5] rfl rfl (Go.k (mkrow .k rwS (.k (.b 0 rfl) .n) rfl rfl (by kernel_rfl)) [1, 2, 3, 4, 5, 6] rfl rfl (Go.k (oapp_ .k apS (.b 1 rfl) (.b 0 rfl) (by decide) ⟨(show _ = (mkL l kk fl (i + 1)).map sgc by rw [← mkL_succ, List.map_append, hfl]; rfl), ⟨rfl, rfl⟩, by rw [List.length_map, mkL_len]; omega⟩) [2, 3, 4, 5, 6] rfl rfl (Go.k (omv .k (.inl rfl) (.b 0 rfl)) [1, 2, 3, 4, 5] rfl rfl (Go.end_ (Nx.bkN (Nx.go (Tr.reg [(5, 2)] (.k (mv .k (.b 5 rfl)) (.k (add_ .k (.g 0 rfl) .c (show IntKind.i64.wrap ((i : Int) + 1) = ((i + 1 : Nat) : Int) by rw [IntWalk.i64_in _ (by omega)]; omega)) (.k (asg .k (.g 1 rfl)) .n))) [0, 1, 2, 3, 4] [2] rfl rfl (Nx.again (l.length - (i + 1)) (by omega) [.s 0 (iv n), .s 1 (svec l), .s 3 (bvec fl), .s 10 (iv ((kk : Nat) : Int)), .s 11 (iv (((i + 1) : Nat) : Int)), .o 9 2 36 ((mkL l kk fl (i + 1)).map sgc)] ⟨(i + 1), (by omega), rfl, rfl⟩ (Sub.all (.cons 1 rfl (.cons 2 rfl (.cons 3 rfl (.cons 4 rfl (.cons 5 rfl (.cons 0 rfl .nil)))))))))))))))))))
   ·
    refine Tr.seq (Tr.rs [] (.k (mv .k (.b 4 rfl)) (.k (mv .k (.b 2 rfl)) (.k (len_ .k rwB (.g 1 rfl) (by rw [List.length_map])) (.k (lt_ .k (.g 0 rfl) (.g 2 rfl) (decide_eq_true h1)) (.k (mv .k (.g 3 rfl)) (.k (mv (.on (.g 4 rfl) rfl rfl) (.b 2 rfl)) (.k (mv (.on (.g 4 rfl) rfl rfl) (.b 4 rfl)) (.k (idx_ (.on (.g 4 rfl) rfl rfl) rwB (.g 5 rfl) (.g 6 rfl) rfl (by rw [List.getElem?_map, h2]; rfl)) (.k (ldc_at (.on (.g 4 rfl) rfl rfl) (.g 7 rfl) tyB) (.k (pickT .k (.g 4 rfl) (.g 8 rfl)) .n)))))))))) [0, 1, 2, 3, 4, 5, 6] [9] rfl rfl ?_)
    refine Tr.cond 7 rfl (fun _ => ?_) nofun
    refine Tr.reg [(6, 5)] (.k (faddr .k (.b 6 rfl) rfl fSB) (.k (ldc .k (.g 0 rfl) (.b 6 rfl) tyI) (.k (faddr .k (.b 6 rfl) rfl fSA) (.k (ldc .k (.g 2 rfl) (.b 6 rfl) tyI) (.k (bld .k (.k (.g 1 rfl) (.k (.g 3 rfl) .n)) (bS _ _) (aS _ _)) (.k (sto .k (.b 6 rfl) (.g 4 rfl) tyS) .n)))))) [0, 1, 2, 3, 4, 5] [5] rfl rfl (Nx.go (Tr.go (Go.k (omv .k (.inr rfl) (.b 5 rfl)) [0, 1, 2, 3, 4, 6] rfl rfl (Go.k (ld .k (.b 6 rfl) tyS) [0, 1, 2, 3, 4, 5] rfl rfl (Go.k (mkrow .k rwS (.k (.b 0 rfl) .n) rfl rfl (by kernel_rfl)) [1, 2, 3, 4, 5, 6] rfl rfl (Go.k (oapp_ .k apS (.b 1 rfl) (.b 0 rfl) (by decide) ⟨(show _ = (mkL l kk fl (i + 1)).map sgc by rw [← mkL_succ, List.map_append, hfl]; rfl), ⟨rfl, rfl⟩, by rw [List.length_map, mkL_len]; omega⟩) [2, 3, 4, 5, 6] rfl rfl (Go.k (omv .k (.inl rfl) (.b 0 rfl)) [1, 2, 3, 4, 5] rfl rfl (Go.end_ (Nx.bkN (Nx.go (Tr.reg [(5, 2)] (.k (mv .k (.b 5 rfl)) (.k (add_ .k (.g 0 rfl) .c (show IntKind.i64.wrap ((i : Int) + 1) = ((i + 1 : Nat) : Int) by rw [IntWalk.i64_in _ (by omega)]; omega)) (.k (asg .k (.g 1 rfl)) .n))) [0, 1, 2, 3, 4] [2] rfl rfl (Nx.again (l.length - (i + 1)) (by omega) [.s 0 (iv n), .s 1 (svec l), .s 3 (bvec fl), .s 10 (iv ((kk : Nat) : Int)), .s 11 (iv (((i + 1) : Nat) : Int)), .o 9 2 36 ((mkL l kk fl (i + 1)).map sgc)] ⟨(i + 1), (by omega), rfl, rfl⟩ (Sub.all (.cons 1 rfl (.cons 2 rfl (.cons 3 rfl (.cons 4 rfl (.cons 5 rfl (.cons 0 rfl .nil)))))))))))))))))))
   ·
    refine Tr.seq (Tr.rs [] (.k (mv .k (.b 4 rfl)) (.k (mv .k (.b 2 rfl)) (.k (len_ .k rwB (.g 1 rfl) (by rw [List.length_map])) (.k (lt_ .k (.g 0 rfl) (.g 2 rfl) (decide_eq_true h1)) (.k (mv .k (.g 3 rfl)) (.k (mv (.on (.g 4 rfl) rfl rfl) (.b 2 rfl)) (.k (mv (.on (.g 4 rfl) rfl rfl) (.b 4 rfl)) (.k (idx_ (.on (.g 4 rfl) rfl rfl) rwB (.g 5 rfl) (.g 6 rfl) rfl (by rw [List.getElem?_map, h2]; rfl)) (.k (ldc_at (.on (.g 4 rfl) rfl rfl) (.g 7 rfl) tyB) (.k (pickT .k (.g 4 rfl) (.g 8 rfl)) .n)))))))))) [0, 1, 2, 3, 4, 5, 6] [9] rfl rfl ?_)
    refine Tr.cond 7 rfl nofun (fun _ => ?_)
    refine Tr.skip (Nx.go (Tr.go (Go.k (omv .k (.inr rfl) (.b 5 rfl)) [0, 1, 2, 3, 4, 6] rfl rfl (Go.k (ld .k (.b 6 rfl) tyS) [0, 1, 2, 3, 4, 5] rfl rfl (Go.k (mkrow .k rwS (.k (.b 0 rfl) .n) rfl rfl (by kernel_rfl)) [1, 2, 3, 4, 5, 6] rfl rfl (Go.k (oapp_ .k apS (.b 1 rfl) (.b 0 rfl) (by decide) ⟨(show _ = (mkL l kk fl (i + 1)).map sgc by rw [← mkL_succ, List.map_append, hfl]; rfl), ⟨rfl, rfl⟩, by rw [List.length_map, mkL_len]; omega⟩) [2, 3, 4, 5, 6] rfl rfl (Go.k (omv .k (.inl rfl) (.b 0 rfl)) [1, 2, 3, 4, 5] rfl rfl (Go.end_ (Nx.bkN (Nx.go (Tr.reg [(5, 2)] (.k (mv .k (.b 5 rfl)) (.k (add_ .k (.g 0 rfl) .c (show IntKind.i64.wrap ((i : Int) + 1) = ((i + 1 : Nat) : Int) by rw [IntWalk.i64_in _ (by omega)]; omega)) (.k (asg .k (.g 1 rfl)) .n))) [0, 1, 2, 3, 4] [2] rfl rfl (Nx.again (l.length - (i + 1)) (by omega) [.s 0 (iv n), .s 1 (svec l), .s 3 (bvec fl), .s 10 (iv ((kk : Nat) : Int)), .s 11 (iv (((i + 1) : Nat) : Int)), .o 9 2 36 ((mkL l kk fl (i + 1)).map sgc)] ⟨(i + 1), (by omega), rfl, rfl⟩ (Sub.all (.cons 1 rfl (.cons 2 rfl (.cons 3 rfl (.cons 4 rfl (.cons 5 rfl (.cons 0 rfl .nil)))))))))))))))))))
  ·
   obtain rfl : i = l.length := by have := of_decide_eq_false e42; omega
   refine Tr.exit (Nx.thX (Nx.thX (Nx.bkX (Nx.go (?_)))))
   refine Tr.frzo 5 [0, 1, 2, 3, 4, 6] rfl rfl ?_
   refine Tr.rs [] (.k (mv .k (.b 1 rfl)) (.k (mv .k (.b 2 rfl)) (.k (cal .k Try.func13 rfl (fn_Rings n l (by omega)) (.k (.g 0 rfl) (.k (.g 1 rfl) .n))) (.k (mv .k (.g 2 rfl)) (.k (exx .k (.g 3 rfl) rfl) (.k (exx .k (.g 3 rfl) rfl) (.k (exx .k (.g 3 rfl) rfl) (.k (asg .k (.g 4 rfl)) (.k (asg .k (.g 5 rfl)) (.k (asg .k (.g 6 rfl)) .n)))))))))) [0, 1] [7, 9] rfl rfl ?_
   refine Tr.rs [] (.k (mv .k (.b 1 rfl)) (.k (mv .k (.b 0 rfl)) (.k (cal .k Try.func13 rfl (fn_Rings_sm (mkL_sm l kk fl) (by rw [mkL_len]; omega)) (.k (.g 0 rfl) (.k (.g 1 rfl) .n))) (.k (mv .k (.g 2 rfl)) (.k (exx .k (.g 3 rfl) rfl) (.k (exx .k (.g 3 rfl) rfl) (.k (exx .k (.g 3 rfl) rfl) (.k (asg .k (.g 4 rfl)) (.k (asg .k (.g 5 rfl)) (.k (asg .k (.g 6 rfl)) .n)))))))))) [2, 3] [7, 9] rfl rfl ?_
   refine Tr.rs [] (.k (mv .k (.b 1 rfl)) (.k (mv .k (.b 3 rfl)) (.k (eq_ .k (.g 0 rfl) (.g 1 rfl) (show (_ == _) = true from beq_self_eq_true _)) (.k (mv .k (.g 2 rfl)) (.k (mv (.on (.g 3 rfl) rfl rfl) (.b 0 rfl)) (.k (mv (.on (.g 3 rfl) rfl rfl) (.b 2 rfl)) (.k (cal (.on (.g 3 rfl) rfl rfl) Try.func16 rfl (decide_eq_true (Eq.refl (ringsR n l).1) ▸ fn_same (ringsR n l).1 (ringsR n l).1 (by have := (ringsR_bd n l).1; omega) (fun r hr => by have := (ringsR_bd n l).2 r hr; omega)) (.k (.g 4 rfl) (.k (.g 5 rfl) .n))) (.k (pickT .k (.g 3 rfl) (.g 6 rfl)) (.k (mv .k (.g 7 rfl)) (.k (cal (.on (.g 8 rfl) rfl rfl) Try.func10 rfl fn_known .n) (.k (pickT .k (.g 8 rfl) (.g 9 rfl)) (.k (asg .k (.g 10 rfl)) .n)))))))))))) [] [11] rfl rfl ?_
   refine Tr.ret (end_tmp 0 rfl rfl)
theorem ringsOrder_any (n : Int) (l : List (Int × Int)) (v : Value) (a : Int) (fl : List Bool) (u : Value) (W : World) (w0 : (Lit.int .i64 n).wf = true) (h : (svec l).H (fun _ => True) v W) (w : ∀ x ∈ l, I64 x.1 ∧ I64 x.2) (w2 : (Lit.int .i64 a).wf = true) (h3 : (bvec fl).H (fun _ => True) u W) (w3 : ∀ x ∈ fl, True) : Calls Try.prog 5 #[.int .i64 n, v, .int .i64 a, u] W fun e w' => e = .returned (.bool true) ∧ Below W.heap.size W w' :=
  FnC.go (vs := [.int .i64 n, v, .int .i64 a, u]) (law_RingsOrder n l a fl) W ⟨rfl, h, rfl, h3, trivial⟩
end Go.Proofs.Ytcifcohkjifadaa

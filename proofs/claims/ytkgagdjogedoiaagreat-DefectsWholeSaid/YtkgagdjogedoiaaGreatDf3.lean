/- The document's sides of a triangle, the triangle that has a side; walked. -/
import Derived.Test.YtkgagdjogedoiaaGreatDf2
set_option linter.unusedVariables false
set_option linter.unusedSimpArgs false
set_option maxRecDepth 100000
set_option maxHeartbeats 8000000
namespace Go.Proofs.YtkgagdjogedoiaaGreat
open Go Go.RowKit Go.Proofs.YtkgagdjogedoiaaGreat.Fx Go.Proofs.YtkgagdjogedoiaaGreatW.PrintWords
theorem fn_Sides {t:Int × Int × Int}:FnC Tryz.prog 52 [.is (trv t)] (svec (edg t)):=by
 refine FnC.of (N:=19) Tryz.func52 rfl rfl (Nat.le_of_ble_eq_true rfl) (fun w0 ok0=>?_)
 refine Tr.rs [] (.k (bxx .k (.b 0 rfl)) (.k (asg .k .c) .n)) [] [0] rfl rfl ?_
 refine Tr.rs [] (.k (faddr .k (.b 0 rfl) rfl fTA) (.k (ldc .k (.g 0 rfl) (.b 0 rfl) tyI) (.k (faddr .k (.b 0 rfl) rfl fTB) (.k (ldc .k (.g 2 rfl) (.b 0 rfl) tyI) (.k (bld .k (.k (.g 1 rfl) (.k (.g 3 rfl) .n)) (bS _ _) (aS _ _)) (.k (faddr .k (.b 0 rfl) rfl fTB) (.k (ldc .k (.g 5 rfl) (.b 0 rfl) tyI) (.k (faddr .k (.b 0 rfl) rfl fTC) (.k (ldc .k (.g 7 rfl) (.b 0 rfl) tyI) (.k (bld .k (.k (.g 6 rfl) (.k (.g 8 rfl) .n)) (bS _ _) (aS _ _)) (.k (faddr .k (.b 0 rfl) rfl fTC) (.k (ldc .k (.g 10 rfl) (.b 0 rfl) tyI) (.k (faddr .k (.b 0 rfl) rfl fTA) (.k (ldc .k (.g 12 rfl) (.b 0 rfl) tyI) (.k (bld .k (.k (.g 11 rfl) (.k (.g 13 rfl) .n)) (bS _ _) (aS _ _)) (.k (mkrow .k rwS (.k (.g 4 rfl) (.k (.g 9 rfl) (.k (.g 14 rfl) .n))) rfl rfl (by kernel_rfl)) (.k (asg .k (.g 15 rfl)) .n))))))))))))))))) [] [16] rfl rfl ?_
 refine Tr.ret (end_tmp 0 rfl rfl)
theorem edg_not {t:Int × Int × Int} {j:Nat} {a b:Int} {s:Int × Int} (h:(edg t)[j]?=some s) (hs:¬ (s.1=a∧s.2=b)) (hi:(a,b) ∉ (edg t).take j):(a,b) ∉ (edg t).take (j+1):=by
  rw [take_succ' h]
  simp only [List.mem_append,List.mem_singleton,not_or]
  exact ⟨hi,fun e=>hs (by rw [← e];exact ⟨rfl,rfl⟩)⟩
theorem edg_yes {t:Int × Int × Int} {j:Nat} {a b:Int} {s:Int × Int} (h:(edg t)[j]?=some s) (h1:s.1=a) (h2:s.2=b):(a,b)∈edg t:=by
  subst h1 h2
  exact List.mem_of_getElem? h
theorem fn_Left {T:List (Int × Int × Int)} {a b:Int} (hl:T.length≤1000000):FnC Tryz.prog 48 [tvec T,iv a,iv b] (iv (leftR T a b)):=by
 refine FnC.of (N:=42) Tryz.func48 rfl rfl (Nat.le_of_ble_eq_true rfl) (fun w0 ok0=>?_)
 refine Tr.rs [] (.k (asg .k .c) .n) [0,1,2] [] rfl rfl ?_
 refine Tr.seq (Tr.rs [] (.k (asg .k .c) .n) [0,1,2] [0] rfl rfl ?_)
 refine Tr.block (?_)
 refine Tr.loop (fun n_ F_=>∃ k:Nat,(k≤T.length∧∀ j,0≤j→j < k→leftB T (a,b) j=false)∧n_=T.length - k∧F_=[.s 0 (tvec T),.s 1 (iv a),.s 2 (iv b),.s 7 (iv ((k:Nat):Int))]) (T.length - 0) (F0:=[.s 0 (tvec T),.s 1 (iv a),.s 2 (iv b),.s 7 (iv ((0:Nat):Int))]) ⟨0,⟨Nat.zero_le _,fun j _ h=>by omega⟩,rfl,rfl⟩ (Sub.all (.cons 0 rfl (.cons 1 rfl (.cons 2 rfl (.cons 3 rfl .nil))))) (fun n_ F_ hI=>?_)
 obtain ⟨k,hinv,rfl,rfl⟩:=hI
 refine Tr.seq (Tr.rs [] (.k (mv .k (.b 3 rfl)) (.k (mv .k (.b 0 rfl)) (.k (len_ .k rwT (.g 1 rfl) (by rw [List.length_map])) (.k (lt_ .k (.g 0 rfl) (.g 2 rfl) rfl) .n)))) [0,1,2,3] [3] rfl rfl ?_)
 refine Tr.cond 4 rfl (fun e13=>?_) (fun e13=>?_)
 ·
  have hk2:k < T.length:=by have:=of_decide_eq_true e13;omega
  refine Tr.skip (Nx.go (Tr.seq (Tr.block (?_))))
  obtain ⟨t,p1⟩:∃ t,T[k]?=some t:=⟨_,List.getElem?_eq_getElem hk2⟩
  refine Tr.rs [] (.k (mv .k (.b 0 rfl)) (.k (mv .k (.b 3 rfl)) (.k (idx_ .k rwT (.g 0 rfl) (.g 1 rfl) rfl (gm p1)) (.k (ld_at .k (.g 2 rfl) tyT rfl (show _=trv (_,_,_) from rfl)) (.k (cal .k Tryz.func52 rfl fn_Sides (.k (.g 3 rfl) .n)) (.k (asg .k (.g 4 rfl)) .n)))))) [0,1,2,3] [5] rfl rfl ?_
  refine Tr.rs [] (.k (asg .k .c) .n) [0,1,2,3,4] [0] rfl rfl ?_
  refine Tr.block (?_)
  refine Tr.loop (fun n_ F_=>∃ j:Nat,(j≤3∧(a,b) ∉ (edg t).take j)∧n_=3 - j∧F_=[.s 0 (tvec T),.s 1 (iv a),.s 2 (iv b),.s 7 (iv ((k:Nat):Int)),.s 8 (svec (edg t)),.s 9 (iv ((j:Nat):Int))]) (3 - 0) (F0:=[.s 0 (tvec T),.s 1 (iv a),.s 2 (iv b),.s 7 (iv ((k:Nat):Int)),.s 8 (svec (edg t)),.s 9 (iv ((0:Nat):Int))]) ⟨0,⟨Nat.zero_le _,by simp⟩,rfl,rfl⟩ (Sub.all (.cons 0 rfl (.cons 1 rfl (.cons 2 rfl (.cons 3 rfl (.cons 4 rfl (.cons 5 rfl .nil))))))) (fun n_ F_ hI=>?_)
  obtain ⟨j,hjv,rfl,rfl⟩:=hI
  refine Tr.seq (Tr.rs [] (.k (mv .k (.b 5 rfl)) (.k (lt_ .k (.g 0 rfl) .c rfl) .n)) [0,1,2,3,4,5] [1] rfl rfl ?_)
  refine Tr.cond 6 rfl (fun e22=>?_) (fun e22=>?_)
  ·
   have hj2:j < 3:=by have:=of_decide_eq_true e22;omega
   refine Tr.skip (Nx.go (Tr.seq (Tr.block (?_))))
   obtain ⟨s,p2⟩:∃ s,(edg t)[j]?=some s:=⟨_,List.getElem?_eq_getElem (show j < (edg t).length from hj2)⟩;rcases (show (s.1=a∧s.2=b)∨(s.1=a∧s.2≠b)∨s.1≠a by omega) with ⟨h1,h2⟩|⟨h1,h2⟩|h1
   ·
    rw [show leftR T a b=(k:Int) from first_at hinv.2 ((leftB_at p1).trans (decide_eq_true (edg_yes p2 h1 h2))) (Nat.zero_le _) (by omega)]
    refine Tr.rs [] (.k (mv .k (.b 4 rfl)) (.k (mv .k (.b 5 rfl)) (.k (idx_ .k rwS (.g 0 rfl) (.g 1 rfl) rfl (gm p2)) (.k (fat .k (.g 2 rfl) aSA rfl) (.k (ldc_at .k (.g 3 rfl) tyI) (.k (mv .k (.b 1 rfl)) (.k (eq_ .k (.g 4 rfl) (.g 5 rfl) (beq_iff_eq.2 h1)) (.k (mv .k (.g 6 rfl)) (.k (mv (.o 7 rfl rfl rfl) (.b 4 rfl)) (.k (mv (.o 7 rfl rfl rfl) (.b 5 rfl)) (.k (idx_ (.o 7 rfl rfl rfl) rwS (.g 8 rfl) (.g 9 rfl) rfl (gm p2)) (.k (fat (.o 7 rfl rfl rfl) (.g 10 rfl) aSB rfl) (.k (ldc_at (.o 7 rfl rfl rfl) (.g 11 rfl) tyI) (.k (mv (.o 7 rfl rfl rfl) (.b 2 rfl)) (.k (eq_ (.o 7 rfl rfl rfl) (.g 12 rfl) (.g 13 rfl) (beq_iff_eq.2 h2)) (.k (pickT .k (.g 7 rfl) (.g 14 rfl)) .n)))))))))))))))) [0,1,2,3,4,5] [15] rfl rfl ?_
    refine Tr.cond 6 rfl (fun _=>?_) nofun
    refine Tr.rs [] (.k (mv .k (.b 3 rfl)) (.k (asg .k (.g 0 rfl)) .n)) [] [1] rfl rfl ?_
    refine Tr.ret (end_tmp 0 rfl rfl)
   ·
    refine Tr.rs [] (.k (mv .k (.b 4 rfl)) (.k (mv .k (.b 5 rfl)) (.k (idx_ .k rwS (.g 0 rfl) (.g 1 rfl) rfl (gm p2)) (.k (fat .k (.g 2 rfl) aSA rfl) (.k (ldc_at .k (.g 3 rfl) tyI) (.k (mv .k (.b 1 rfl)) (.k (eq_ .k (.g 4 rfl) (.g 5 rfl) (beq_iff_eq.2 h1)) (.k (mv .k (.g 6 rfl)) (.k (mv (.o 7 rfl rfl rfl) (.b 4 rfl)) (.k (mv (.o 7 rfl rfl rfl) (.b 5 rfl)) (.k (idx_ (.o 7 rfl rfl rfl) rwS (.g 8 rfl) (.g 9 rfl) rfl (gm p2)) (.k (fat (.o 7 rfl rfl rfl) (.g 10 rfl) aSB rfl) (.k (ldc_at (.o 7 rfl rfl rfl) (.g 11 rfl) tyI) (.k (mv (.o 7 rfl rfl rfl) (.b 2 rfl)) (.k (eq_ (.o 7 rfl rfl rfl) (.g 12 rfl) (.g 13 rfl) (beq_eq_false_iff_ne.2 h2)) (.k (pickT .k (.g 7 rfl) (.g 14 rfl)) .n)))))))))))))))) [0,1,2,3,4,5] [15] rfl rfl ?_
    refine Tr.cond 6 rfl nofun (fun _=>?_)
    refine Tr.skip (Nx.bkN (Nx.go (Tr.reg [(5,2)] (.k (mv .k (.b 5 rfl)) (.k (add_ .k (.g 0 rfl) .c (wr1 (by omega))) (.k (asg .k (.g 1 rfl)) .n))) [0,1,2,3,4] [2] rfl rfl (Nx.again (3 - (j+1)) (by omega) [.s 0 (tvec T),.s 1 (iv a),.s 2 (iv b),.s 7 (iv ((k:Nat):Int)),.s 8 (svec (edg t)),.s 9 (iv (((j+1):Nat):Int))] ⟨(j+1),⟨by omega,edg_not p2 (by omega) hjv.2⟩,rfl,rfl⟩ (Sub.all (.cons 0 rfl (.cons 1 rfl (.cons 2 rfl (.cons 3 rfl (.cons 4 rfl (.cons 5 rfl .nil)))))))))))
   ·
    refine Tr.rs [] (.k (mv .k (.b 4 rfl)) (.k (mv .k (.b 5 rfl)) (.k (idx_ .k rwS (.g 0 rfl) (.g 1 rfl) rfl (gm p2)) (.k (fat .k (.g 2 rfl) aSA rfl) (.k (ldc_at .k (.g 3 rfl) tyI) (.k (mv .k (.b 1 rfl)) (.k (eq_ .k (.g 4 rfl) (.g 5 rfl) (beq_eq_false_iff_ne.2 h1)) (.k (mv .k (.g 6 rfl)) (.k (skp (.o 7 rfl rfl rfl)) (.k (skp (.o 7 rfl rfl rfl)) (.k (skp (.o 7 rfl rfl rfl)) (.k (skp (.o 7 rfl rfl rfl)) (.k (skp (.o 7 rfl rfl rfl)) (.k (skp (.o 7 rfl rfl rfl)) (.k (skp (.o 7 rfl rfl rfl)) (.k (pickF .k (.g 7 rfl) .c) .n)))))))))))))))) [0,1,2,3,4,5] [15] rfl rfl ?_
    refine Tr.cond 6 rfl nofun (fun _=>?_)
    refine Tr.skip (Nx.bkN (Nx.go (Tr.reg [(5,2)] (.k (mv .k (.b 5 rfl)) (.k (add_ .k (.g 0 rfl) .c (wr1 (by omega))) (.k (asg .k (.g 1 rfl)) .n))) [0,1,2,3,4] [2] rfl rfl (Nx.again (3 - (j+1)) (by omega) [.s 0 (tvec T),.s 1 (iv a),.s 2 (iv b),.s 7 (iv ((k:Nat):Int)),.s 8 (svec (edg t)),.s 9 (iv (((j+1):Nat):Int))] ⟨(j+1),⟨by omega,edg_not p2 (by omega) hjv.2⟩,rfl,rfl⟩ (Sub.all (.cons 0 rfl (.cons 1 rfl (.cons 2 rfl (.cons 3 rfl (.cons 4 rfl (.cons 5 rfl .nil)))))))))))
  ·
   obtain rfl:j=3:=by have:=of_decide_eq_false e22;omega
   refine Tr.exit (Nx.thX (Nx.thX (Nx.bkX (Nx.bkN (Nx.go (?_))))))
   have hno:(a,b) ∉ edg t:=hjv.2
   refine Tr.reg [(3,2)] (.k (mv .k (.b 3 rfl)) (.k (add_ .k (.g 0 rfl) .c (wr1 (by omega))) (.k (asg .k (.g 1 rfl)) .n))) [0,1,2] [2] rfl rfl (Nx.again (T.length - (k+1)) (by omega) [.s 0 (tvec T),.s 1 (iv a),.s 2 (iv b),.s 7 (iv (((k+1):Nat):Int))] ⟨(k+1),⟨by omega,none_succ hinv.2 ((leftB_at p1).trans (decide_eq_false hno))⟩,rfl,rfl⟩ (Sub.all (.cons 0 rfl (.cons 1 rfl (.cons 2 rfl (.cons 3 rfl .nil))))))
 ·
  obtain rfl:k=T.length:=by have:=of_decide_eq_false e13;omega
  refine Tr.exit (Nx.thX (Nx.thX (Nx.bkX (Nx.go (?_)))))
  rw [show leftR T a b = -1 from first_none fun j h0 h=>hinv.2 j h0 (by omega)]
  refine Tr.rs [] (.k (asg .k .c) .n) [] [0] rfl rfl ?_
  refine Tr.ret (end_tmp 0 rfl rfl)
end Go.Proofs.YtkgagdjogedoiaaGreat

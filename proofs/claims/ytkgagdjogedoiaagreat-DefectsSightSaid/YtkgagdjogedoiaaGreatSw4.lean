/- An input's flaws: the document's, walked. -/
import Derived.Test.YtkgagdjogedoiaaGreatSx2
set_option linter.unusedVariables false
set_option linter.unusedSimpArgs false
set_option maxRecDepth 100000
set_option maxHeartbeats 8000000
namespace Go.Proofs.YtkgagdjogedoiaaGreat
open Go Go.RowKit Go.Proofs.YtkgagdjogedoiaaGreat.Fx Go.Proofs.YtkgagdjogedoiaaGreatW.PrintWords
theorem fn_pairs {P L I:List (Int × Int)} (hP:P.length≤14) (hL:L.length≤30) (hI:I.length≤30) (hok:okQ P L I):FnC Tryz.prog 150 [SP.poly P L I] (.is (trv (flwP P (L++I)))):=by
 refine FnC.of (N:=164) Tryz.func150 rfl rfl (Nat.le_of_ble_eq_true rfl) (fun w0 ok0=>?_)
 refine Tr.rs [] (.k (bxx .k (.b 0 rfl)) (.k (alc .k zF) .n)) [] [0,1] rfl rfl ?_
 have hLI:(L++I).length=L.length+I.length:=List.length_append
 refine Tr.seq (Tr.rs [] (.k (asg .k .c) .n) [0,1] [0] rfl rfl ?_)
 refine Tr.block (?_)
 refine Tr.loop (fun n_ F_=>∃ i:Nat,(i≤P.length∧∀ j,j < i→∀ m,¬ q1 P j m)∧n_=P.length - i∧F_=[.b 1 (SP.poly P L I) 47 3,.b 2 (.is (trv (0,0,0))) 164 3,.s 3 (iv ((i:Nat):Int))]) (P.length - 0) (F0:=[.b 1 (SP.poly P L I) 47 3,.b 2 (.is (trv (0,0,0))) 164 3,.s 3 (iv ((0:Nat):Int))]) ⟨0,⟨Nat.zero_le _,fun j h=>absurd h (Nat.not_lt_zero _)⟩,rfl,rfl⟩ (Sub.all (.cons 0 rfl (.cons 1 rfl (.cons 2 rfl .nil)))) (fun n_ F_ hI=>?_)
 obtain ⟨i,ho,rfl,rfl⟩:=hI
 refine Tr.seq (Tr.rs [] (.k (mv .k (.b 2 rfl)) (.k (faddr .k (.b 0 rfl) rfl fQP) (.k (ldc .k (.g 1 rfl) (.b 0 rfl) tyvP) (.k (len_ .k rwP (.g 2 rfl) (by rw [List.length_map])) (.k (lt_ .k (.g 0 rfl) (.g 3 rfl) rfl) .n))))) [0,1,2] [4] rfl rfl ?_)
 refine Tr.cond 3 rfl (fun e17=>?_) (fun e17=>?_)
 ·
  have hi2:i < P.length:=by have:=of_decide_eq_true e17;omega
  refine Tr.skip (Nx.go (Tr.seq (Tr.block (Tr.rs [] (.k (mv .k (.b 2 rfl)) (.k (add_ .k (.g 0 rfl) .c (wr1 (by omega))) (.k (asg .k (.g 1 rfl)) .n))) [0,1,2] [2] rfl rfl ?_))))
  refine Tr.block (?_)
  refine Tr.loop (fun n_ F_=>∃ k:Nat,((i < k∧k≤P.length)∧∀ m,m < k→¬ q1 P i m)∧n_=P.length - k∧F_=[.b 1 (SP.poly P L I) 47 3,.b 2 (.is (trv (0,0,0))) 164 3,.s 3 (iv ((i:Nat):Int)),.s 4 (iv ((k:Nat):Int))]) (P.length - (i+1)) (F0:=[.b 1 (SP.poly P L I) 47 3,.b 2 (.is (trv (0,0,0))) 164 3,.s 3 (iv ((i:Nat):Int)),.s 4 (iv (((i+1):Nat):Int))]) ⟨(i+1),⟨⟨Nat.lt_succ_self _,hi2⟩,fun m hm h=>by have:=h.1;omega⟩,rfl,rfl⟩ (Sub.all (.cons 0 rfl (.cons 1 rfl (.cons 2 rfl (.cons 3 rfl .nil))))) (fun n_ F_ hI=>?_)
  obtain ⟨k,hk,rfl,rfl⟩:=hI
  refine Tr.seq (Tr.rs [] (.k (mv .k (.b 3 rfl)) (.k (faddr .k (.b 0 rfl) rfl fQP) (.k (ldc .k (.g 1 rfl) (.b 0 rfl) tyvP) (.k (len_ .k rwP (.g 2 rfl) (by rw [List.length_map])) (.k (lt_ .k (.g 0 rfl) (.g 3 rfl) rfl) .n))))) [0,1,2,3] [4] rfl rfl ?_)
  refine Tr.cond 4 rfl (fun e26=>?_) (fun e26=>?_)
  ·
   have hk2:k < P.length:=by have:=of_decide_eq_true e26;omega
   refine Tr.skip (Nx.go (Tr.seq (Tr.block (?_))))
   obtain ⟨p,p1⟩:∃ s,P[i]?=some s:=⟨_,List.getElem?_eq_getElem hi2⟩;obtain ⟨r,p2⟩:∃ s,P[k]?=some s:=⟨_,List.getElem?_eq_getElem hk2⟩
   refine Tr.ds hmx [] (.k (faddr .k (.b 0 rfl) rfl fQP) (.k (ldc .k (.g 0 rfl) (.b 0 rfl) tyvP) (.k (mv .k (.b 2 rfl)) (.k (idx_ .k rwP (.g 1 rfl) (.g 2 rfl) rfl (gm p1)) (.k (ld_at .k (.g 3 rfl) tyP rfl (show _=ptv _ _ from rfl)) (.k (faddr .k (.b 0 rfl) rfl fQP) (.k (ldc .k (.g 5 rfl) (.b 0 rfl) tyvP) (.k (mv .k (.b 3 rfl)) (.k (idx_ .k rwP (.g 6 rfl) (.g 7 rfl) rfl (gm p2)) (.k (ld_at .k (.g 8 rfl) tyP rfl (show _=ptv _ _ from rfl)) (.k (eqS_ .k ptG (.g 4 rfl) (.g 9 rfl) (eqP _ _ _ _) (show same _ _ _ _=_ from rfl)) .n))))))))))) [0,1,2,3] [10] rfl rfl ?_
   refine Tr.cond 4 rfl (fun e39=>?_) (fun e39=>?_)
   ·
    rw [flw_1 (q1_yes hk.1.1 p1 p2 e39) ho.2 hk.2]
    refine Tr.rs [(1,3)] (.k (mv .k (.b 2 rfl)) (.k (mv .k (.b 3 rfl)) (.k (bld .k (.k .c (.k (.g 0 rfl) (.k (.g 1 rfl) .n))) (bF3 _ _ _) (aT _ _ _)) (.k (sto .k (.b 1 rfl) (.g 2 rfl) tyF) .n)))) [] [3] rfl rfl ?_
    refine Tr.ret (end_cell 0 rfl rfl tyF)
   ·
    have hqn:=q1_no p1 p2 e39
    refine Tr.skip (Nx.bkN (Nx.go (Tr.reg [(3,2)] (.k (mv .k (.b 3 rfl)) (.k (add_ .k (.g 0 rfl) .c (wr1 (by omega))) (.k (asg .k (.g 1 rfl)) .n))) [0,1,2] [2] rfl rfl (Nx.again (P.length - (k+1)) (by omega) [.b 1 (SP.poly P L I) 47 3,.b 2 (.is (trv (0,0,0))) 164 3,.s 3 (iv ((i:Nat):Int)),.s 4 (iv (((k+1):Nat):Int))] ⟨(k+1),⟨by omega,q_one hk.2 hqn⟩,rfl,rfl⟩ (Sub.all (.cons 0 rfl (.cons 1 rfl (.cons 2 rfl (.cons 3 rfl .nil)))))))))
  ·
   have hno:=q_end hk.2 (fun m hm=>q1_end (i:=i) m (by have:=of_decide_eq_false e26;omega))
   refine Tr.exit (Nx.thX (Nx.thX (Nx.bkX (Nx.bkN (Nx.go (Tr.reg [(2,2)] (.k (mv .k (.b 2 rfl)) (.k (add_ .k (.g 0 rfl) .c (wr1 (by omega))) (.k (asg .k (.g 1 rfl)) .n))) [0,1] [2] rfl rfl (Nx.again (P.length - (i+1)) (by omega) [.b 1 (SP.poly P L I) 47 3,.b 2 (.is (trv (0,0,0))) 164 3,.s 3 (iv (((i+1):Nat):Int))] ⟨(i+1),⟨by omega,q_succ ho.2 hno⟩,rfl,rfl⟩ (Sub.all (.cons 0 rfl (.cons 1 rfl (.cons 2 rfl .nil)))))))))))
 ·
  have hie:P.length≤i:=by have:=of_decide_eq_false e17;omega
  refine Tr.exit (Nx.thX (Nx.thX (Nx.bkX (Nx.go (?_)))))
  have n1:=q1_all hie ho.2
  refine Tr.rs [] (.k (ld .k (.b 0 rfl) tyQ) (.k (cal .k Tryz.func106 rfl (fn_All10 hP hL hI) (.k (.g 0 rfl) .n)) (.k (asg .k (.g 1 rfl)) .n))) [0,1] [2] rfl rfl ?_
  refine Tr.seq (Tr.rs [] (.k (asg .k .c) .n) [0,1,2] [0] rfl rfl ?_)
  refine Tr.block (?_)
  refine Tr.loop (fun n_ F_=>∃ i2:Nat,(i2≤(L++I).length∧∀ j,j < i2→¬ q2 (L++I) j)∧n_=(L++I).length - i2∧F_=[.b 1 (SP.poly P L I) 47 3,.b 2 (.is (trv (0,0,0))) 164 3,.s 5 (svec (L++I)),.s 6 (iv ((i2:Nat):Int))]) ((L++I).length - 0) (F0:=[.b 1 (SP.poly P L I) 47 3,.b 2 (.is (trv (0,0,0))) 164 3,.s 5 (svec (L++I)),.s 6 (iv ((0:Nat):Int))]) ⟨0,⟨Nat.zero_le _,fun j h=>absurd h (Nat.not_lt_zero _)⟩,rfl,rfl⟩ (Sub.all (.cons 0 rfl (.cons 1 rfl (.cons 2 rfl (.cons 3 rfl .nil))))) (fun n_ F_ hI=>?_)
  obtain ⟨i2,h2,rfl,rfl⟩:=hI
  refine Tr.seq (Tr.rs [] (.k (mv .k (.b 3 rfl)) (.k (mv .k (.b 2 rfl)) (.k (len_ .k rwS (.g 1 rfl) (by rw [List.length_map])) (.k (lt_ .k (.g 0 rfl) (.g 2 rfl) rfl) .n)))) [0,1,2,3] [3] rfl rfl ?_)
  refine Tr.cond 4 rfl (fun e48=>?_) (fun e48=>?_)
  ·
   have hi2:i2 < (L++I).length:=by have:=of_decide_eq_true e48;omega
   refine Tr.skip (Nx.go (Tr.seq (Tr.block (?_))))
   obtain ⟨s,p1⟩:∃ s,(L++I)[i2]?=some s:=⟨_,List.getElem?_eq_getElem hi2⟩
   refine Tr.ds hmx [] (.k (mv .k (.b 2 rfl)) (.k (mv .k (.b 3 rfl)) (.k (idx_ .k rwS (.g 0 rfl) (.g 1 rfl) rfl (gm p1)) (.k (fat .k (.g 2 rfl) aSA rfl) (.k (ldc_at .k (.g 3 rfl) tyI) (.k (mv .k (.b 2 rfl)) (.k (mv .k (.b 3 rfl)) (.k (idx_ .k rwS (.g 5 rfl) (.g 6 rfl) rfl (gm p1)) (.k (fat .k (.g 7 rfl) aSB rfl) (.k (ldc_at .k (.g 8 rfl) tyI) (.k (eq_ .k (.g 4 rfl) (.g 9 rfl) rfl) .n))))))))))) [0,1,2,3] [10] rfl rfl ?_
   refine Tr.cond 4 rfl (fun e61=>?_) (fun e61=>?_)
   ·
    rw [flw_2 n1 ⟨s,p1,beq_iff_eq.1 e61⟩ h2.2]
    refine Tr.rs [(1,2)] (.k (mv .k (.b 3 rfl)) (.k (bld .k (.k .c (.k (.g 0 rfl) .n)) (bF2 _ _) (aT _ _ 0)) (.k (sto .k (.b 1 rfl) (.g 1 rfl) tyF) .n))) [] [2] rfl rfl ?_
    refine Tr.ret (end_cell 0 rfl rfl tyF)
   ·
    have hqn:=q2_no p1 (beq_eq_false_iff_ne.1 e61)
    refine Tr.skip (Nx.bkN (Nx.go (Tr.reg [(3,2)] (.k (mv .k (.b 3 rfl)) (.k (add_ .k (.g 0 rfl) .c (wr1 (by omega))) (.k (asg .k (.g 1 rfl)) .n))) [0,1,2] [2] rfl rfl (Nx.again ((L++I).length - (i2+1)) (by omega) [.b 1 (SP.poly P L I) 47 3,.b 2 (.is (trv (0,0,0))) 164 3,.s 5 (svec (L++I)),.s 6 (iv (((i2+1):Nat):Int))] ⟨(i2+1),⟨by omega,q_one h2.2 hqn⟩,rfl,rfl⟩ (Sub.all (.cons 0 rfl (.cons 1 rfl (.cons 2 rfl (.cons 3 rfl .nil)))))))))
  ·
   have hie2:(L++I).length≤i2:=by have:=of_decide_eq_false e48;omega
   refine Tr.exit (Nx.thX (Nx.thX (Nx.bkX (Nx.go (?_)))))
   have n2:=q2_all hie2 h2.2
   refine Tr.seq (Tr.rs [] (.k (asg .k .c) .n) [0,1,2] [0] rfl rfl ?_)
   refine Tr.block (?_)
   refine Tr.loop (fun n_ F_=>∃ i3:Nat,(i3≤(L++I).length∧∀ j,j < i3→∀ m,¬ (q3 P (L++I)) j m)∧n_=(L++I).length - i3∧F_=[.b 1 (SP.poly P L I) 47 3,.b 2 (.is (trv (0,0,0))) 164 3,.s 5 (svec (L++I)),.s 7 (iv ((i3:Nat):Int))]) ((L++I).length - 0) (F0:=[.b 1 (SP.poly P L I) 47 3,.b 2 (.is (trv (0,0,0))) 164 3,.s 5 (svec (L++I)),.s 7 (iv ((0:Nat):Int))]) ⟨0,⟨Nat.zero_le _,fun j h=>absurd h (Nat.not_lt_zero _)⟩,rfl,rfl⟩ (Sub.all (.cons 0 rfl (.cons 1 rfl (.cons 2 rfl (.cons 3 rfl .nil))))) (fun n_ F_ hI=>?_)
   obtain ⟨i3,h3,rfl,rfl⟩:=hI
   refine Tr.seq (Tr.rs [] (.k (mv .k (.b 3 rfl)) (.k (mv .k (.b 2 rfl)) (.k (len_ .k rwS (.g 1 rfl) (by rw [List.length_map])) (.k (lt_ .k (.g 0 rfl) (.g 2 rfl) rfl) .n)))) [0,1,2,3] [3] rfl rfl ?_)
   refine Tr.cond 4 rfl (fun e67=>?_) (fun e67=>?_)
   ·
    have hi3:i3 < (L++I).length:=by have:=of_decide_eq_true e67;omega
    refine Tr.skip (Nx.go (Tr.seq (Tr.block (Tr.rs [] (.k (mv .k (.b 3 rfl)) (.k (add_ .k (.g 0 rfl) .c (wr1 (by omega))) (.k (asg .k (.g 1 rfl)) .n))) [0,1,2,3] [2] rfl rfl ?_))))
    refine Tr.block (?_)
    refine Tr.loop (fun n_ F_=>∃ k3:Nat,((i3 < k3∧k3≤(L++I).length)∧∀ m,m < k3→¬ (q3 P (L++I)) i3 m)∧n_=(L++I).length - k3∧F_=[.b 1 (SP.poly P L I) 47 3,.b 2 (.is (trv (0,0,0))) 164 3,.s 5 (svec (L++I)),.s 7 (iv ((i3:Nat):Int)),.s 8 (iv ((k3:Nat):Int))]) ((L++I).length - (i3+1)) (F0:=[.b 1 (SP.poly P L I) 47 3,.b 2 (.is (trv (0,0,0))) 164 3,.s 5 (svec (L++I)),.s 7 (iv ((i3:Nat):Int)),.s 8 (iv (((i3+1):Nat):Int))]) ⟨(i3+1),⟨⟨Nat.lt_succ_self _,hi3⟩,fun m hm h=>by have:=h.1;omega⟩,rfl,rfl⟩ (Sub.all (.cons 0 rfl (.cons 1 rfl (.cons 2 rfl (.cons 3 rfl (.cons 4 rfl .nil)))))) (fun n_ F_ hI=>?_)
    obtain ⟨k3,hk3,rfl,rfl⟩:=hI
    refine Tr.seq (Tr.rs [] (.k (mv .k (.b 4 rfl)) (.k (mv .k (.b 2 rfl)) (.k (len_ .k rwS (.g 1 rfl) (by rw [List.length_map])) (.k (lt_ .k (.g 0 rfl) (.g 2 rfl) rfl) .n)))) [0,1,2,3,4] [3] rfl rfl ?_)
    refine Tr.cond 5 rfl (fun e75=>?_) (fun e75=>?_)
    ·
     have hk2:k3 < (L++I).length:=by have:=of_decide_eq_true e75;omega
     refine Tr.skip (Nx.go (Tr.seq (Tr.block (?_))))
     obtain ⟨s,p1⟩:∃ s,(L++I)[i3]?=some s:=⟨_,List.getElem?_eq_getElem hi3⟩;obtain ⟨t,p2⟩:∃ s,(L++I)[k3]?=some s:=⟨_,List.getElem?_eq_getElem hk2⟩;obtain ⟨⟨a,ap,ea,ha⟩,b,bp,eb,hb⟩:=inS_of hok s (List.mem_of_getElem? p1);have na:=(hok.1.at ha).nea1;have nb:=(hok.1.at hb).nea1;obtain ⟨⟨c,cp,ec,hc⟩,d,dp,ed,hd⟩:=inS_of hok t (List.mem_of_getElem? p2);have nc:=(hok.1.at hc).nea1;have nd:=(hok.1.at hd).nea1;have em:metS P s t=(metR ap.1 ap.2 bp.1 bp.2 cp.1 cp.2 dp.1 dp.2).1:=by unfold metS;rw [ea,eb,ec,ed,atP_of ha,atP_of hb,atP_of hc,atP_of hd]
     refine Tr.ds hmx [] (.k (faddr .k (.b 0 rfl) rfl fQP) (.k (ldc .k (.g 0 rfl) (.b 0 rfl) tyvP) (.k (mv .k (.b 2 rfl)) (.k (mv .k (.b 3 rfl)) (.k (idx_ .k rwS (.g 2 rfl) (.g 3 rfl) rfl (gm p1)) (.k (fat .k (.g 4 rfl) aSA rfl) (.k (ldc_at .k (.g 5 rfl) tyI) (.k (idx_ .k rwP (.g 1 rfl) (.g 6 rfl) ea (gm ha)) (.k (ld_at .k (.g 7 rfl) tyP rfl (show _=ptv _ _ from rfl)) (.k (faddr .k (.b 0 rfl) rfl fQP) (.k (ldc .k (.g 9 rfl) (.b 0 rfl) tyvP) (.k (mv .k (.b 2 rfl)) (.k (mv .k (.b 3 rfl)) (.k (idx_ .k rwS (.g 11 rfl) (.g 12 rfl) rfl (gm p1)) (.k (fat .k (.g 13 rfl) aSB rfl) (.k (ldc_at .k (.g 14 rfl) tyI) (.k (idx_ .k rwP (.g 10 rfl) (.g 15 rfl) eb (gm hb)) (.k (ld_at .k (.g 16 rfl) tyP rfl (show _=ptv _ _ from rfl)) (.k (faddr .k (.b 0 rfl) rfl fQP) (.k (ldc .k (.g 18 rfl) (.b 0 rfl) tyvP) (.k (mv .k (.b 2 rfl)) (.k (mv .k (.b 4 rfl)) (.k (idx_ .k rwS (.g 20 rfl) (.g 21 rfl) rfl (gm p2)) (.k (fat .k (.g 22 rfl) aSA rfl) (.k (ldc_at .k (.g 23 rfl) tyI) (.k (idx_ .k rwP (.g 19 rfl) (.g 24 rfl) ec (gm hc)) (.k (ld_at .k (.g 25 rfl) tyP rfl (show _=ptv _ _ from rfl)) (.k (faddr .k (.b 0 rfl) rfl fQP) (.k (ldc .k (.g 27 rfl) (.b 0 rfl) tyvP) (.k (mv .k (.b 2 rfl)) (.k (mv .k (.b 4 rfl)) (.k (idx_ .k rwS (.g 29 rfl) (.g 30 rfl) rfl (gm p2)) (.k (fat .k (.g 31 rfl) aSB rfl) (.k (ldc_at .k (.g 32 rfl) tyI) (.k (idx_ .k rwP (.g 28 rfl) (.g 33 rfl) ed (gm hd)) (.k (ld_at .k (.g 34 rfl) tyP rfl (show _=ptv _ _ from rfl)) (.k (cal .k Tryz.func49 rfl (fn_rSegs na nb nc nd) (.k (.g 8 rfl) (.k (.g 17 rfl) (.k (.g 26 rfl) (.k (.g 35 rfl) .n))))) (.k (mv .k (.g 36 rfl)) (.k (exx .k (.g 37 rfl) rfl) (.k (exx .k (.g 37 rfl) rfl) (.k (asg .k (.g 38 rfl)) (.k (asg .k (.g 39 rfl)) .n)))))))))))))))))))))))))))))))))))))))))) [0,1,2,3,4] [40] rfl rfl ?_
     refine Tr.rs [] (.k (mv .k (.b 5 rfl)) (.k (gt_ .k (.g 0 rfl) .c rfl) .n)) [0,1,2,3,4] [1] rfl rfl ?_
     refine Tr.cond 5 rfl (fun e119=>?_) (fun e119=>?_)
     ·
      rw [flw_3 n1 n2 ⟨hk3.1.1,s,t,p1,p2,em ▸ of_decide_eq_true e119⟩ h3.2 hk3.2]
      refine Tr.rs [(1,3)] (.k (mv .k (.b 3 rfl)) (.k (mv .k (.b 4 rfl)) (.k (bld .k (.k .c (.k (.g 0 rfl) (.k (.g 1 rfl) .n))) (bF3 _ _ _) (aT _ _ _)) (.k (sto .k (.b 1 rfl) (.g 2 rfl) tyF) .n)))) [] [3] rfl rfl ?_
      refine Tr.ret (end_cell 0 rfl rfl tyF)
     ·
      have hqn:=q3_no p1 p2 (P:=P) (em ▸ of_decide_eq_false e119)
      refine Tr.skip (Nx.bkN (Nx.go (Tr.reg [(4,2)] (.k (mv .k (.b 4 rfl)) (.k (add_ .k (.g 0 rfl) .c (wr1 (by omega))) (.k (asg .k (.g 1 rfl)) .n))) [0,1,2,3] [2] rfl rfl (Nx.again ((L++I).length - (k3+1)) (by omega) [.b 1 (SP.poly P L I) 47 3,.b 2 (.is (trv (0,0,0))) 164 3,.s 5 (svec (L++I)),.s 7 (iv ((i3:Nat):Int)),.s 8 (iv (((k3+1):Nat):Int))] ⟨(k3+1),⟨by omega,q_one hk3.2 hqn⟩,rfl,rfl⟩ (Sub.all (.cons 0 rfl (.cons 1 rfl (.cons 2 rfl (.cons 3 rfl (.cons 4 rfl .nil))))))))))
    ·
     have hno:=q_end hk3.2 (fun m hm=>q3_end (i:=i3) m (by have:=of_decide_eq_false e75;omega))
     refine Tr.exit (Nx.thX (Nx.thX (Nx.bkX (Nx.bkN (Nx.go (Tr.reg [(3,2)] (.k (mv .k (.b 3 rfl)) (.k (add_ .k (.g 0 rfl) .c (wr1 (by omega))) (.k (asg .k (.g 1 rfl)) .n))) [0,1,2] [2] rfl rfl (Nx.again ((L++I).length - (i3+1)) (by omega) [.b 1 (SP.poly P L I) 47 3,.b 2 (.is (trv (0,0,0))) 164 3,.s 5 (svec (L++I)),.s 7 (iv (((i3+1):Nat):Int))] ⟨(i3+1),⟨by omega,q_succ h3.2 hno⟩,rfl,rfl⟩ (Sub.all (.cons 0 rfl (.cons 1 rfl (.cons 2 rfl (.cons 3 rfl .nil))))))))))))
   ·
    have hie3:(L++I).length≤i3:=by have:=of_decide_eq_false e67;omega
    refine Tr.exit (Nx.thX (Nx.thX (Nx.bkX (Nx.go (?_)))))
    have n3:=q3_all hie3 h3.2
    refine Tr.seq (Tr.rs [] (.k (asg .k .c) .n) [0,1,2] [0] rfl rfl ?_)
    refine Tr.block (?_)
    refine Tr.loop (fun n_ F_=>∃ i4:Nat,(i4≤P.length∧∀ j,j < i4→∀ m,¬ (q4 P (L++I)) j m)∧n_=P.length - i4∧F_=[.b 1 (SP.poly P L I) 47 3,.b 2 (.is (trv (0,0,0))) 164 3,.s 5 (svec (L++I)),.s 11 (iv ((i4:Nat):Int))]) (P.length - 0) (F0:=[.b 1 (SP.poly P L I) 47 3,.b 2 (.is (trv (0,0,0))) 164 3,.s 5 (svec (L++I)),.s 11 (iv ((0:Nat):Int))]) ⟨0,⟨Nat.zero_le _,fun j h=>absurd h (Nat.not_lt_zero _)⟩,rfl,rfl⟩ (Sub.all (.cons 0 rfl (.cons 1 rfl (.cons 2 rfl (.cons 3 rfl .nil))))) (fun n_ F_ hI=>?_)
    obtain ⟨i4,h4,rfl,rfl⟩:=hI
    refine Tr.seq (Tr.rs [] (.k (mv .k (.b 3 rfl)) (.k (faddr .k (.b 0 rfl) rfl fQP) (.k (ldc .k (.g 1 rfl) (.b 0 rfl) tyvP) (.k (len_ .k rwP (.g 2 rfl) (by rw [List.length_map])) (.k (lt_ .k (.g 0 rfl) (.g 3 rfl) rfl) .n))))) [0,1,2,3] [4] rfl rfl ?_)
    refine Tr.cond 4 rfl (fun e127=>?_) (fun e127=>?_)
    ·
     have hi4:i4 < P.length:=by have:=of_decide_eq_true e127;omega
     refine Tr.skip (Nx.go (Tr.seq (Tr.block (Tr.rs [] (.k (asg .k .c) .n) [0,1,2,3] [0] rfl rfl ?_))))
     refine Tr.block (?_)
     refine Tr.loop (fun n_ F_=>∃ k4:Nat,(k4≤(L++I).length∧∀ m,m < k4→¬ (q4 P (L++I)) i4 m)∧n_=(L++I).length - k4∧F_=[.b 1 (SP.poly P L I) 47 3,.b 2 (.is (trv (0,0,0))) 164 3,.s 5 (svec (L++I)),.s 11 (iv ((i4:Nat):Int)),.s 12 (iv ((k4:Nat):Int))]) ((L++I).length - 0) (F0:=[.b 1 (SP.poly P L I) 47 3,.b 2 (.is (trv (0,0,0))) 164 3,.s 5 (svec (L++I)),.s 11 (iv ((i4:Nat):Int)),.s 12 (iv ((0:Nat):Int))]) ⟨0,⟨Nat.zero_le _,fun m h=>absurd h (Nat.not_lt_zero _)⟩,rfl,rfl⟩ (Sub.all (.cons 0 rfl (.cons 1 rfl (.cons 2 rfl (.cons 3 rfl (.cons 4 rfl .nil)))))) (fun n_ F_ hI=>?_)
     obtain ⟨k4,hk4,rfl,rfl⟩:=hI
     refine Tr.seq (Tr.rs [] (.k (mv .k (.b 4 rfl)) (.k (mv .k (.b 2 rfl)) (.k (len_ .k rwS (.g 1 rfl) (by rw [List.length_map])) (.k (lt_ .k (.g 0 rfl) (.g 2 rfl) rfl) .n)))) [0,1,2,3,4] [3] rfl rfl ?_)
     refine Tr.cond 5 rfl (fun e133=>?_) (fun e133=>?_)
     ·
      have hk2:k4 < (L++I).length:=by have:=of_decide_eq_true e133;omega
      refine Tr.skip (Nx.go (Tr.seq (Tr.block (?_))))
      obtain ⟨p,p1⟩:∃ s,P[i4]?=some s:=⟨_,List.getElem?_eq_getElem hi4⟩;obtain ⟨s,p2⟩:∃ s,(L++I)[k4]?=some s:=⟨_,List.getElem?_eq_getElem hk2⟩;obtain ⟨⟨a,ap,ea,ha⟩,b,bp,eb,hb⟩:=inS_of hok s (List.mem_of_getElem? p2);have na:=(hok.1.at ha).nea1;have nb:=(hok.1.at hb).nea1;have np:=(hok.1.at p1).nea1;have em:insS P s p=insZ ap.1 ap.2 bp.1 bp.2 p.1 p.2:=by unfold insS;rw [ea,eb,atP_of ha,atP_of hb]
      refine Tr.ds hmx [] (.k (faddr .k (.b 0 rfl) rfl fQP) (.k (ldc .k (.g 0 rfl) (.b 0 rfl) tyvP) (.k (mv .k (.b 2 rfl)) (.k (mv .k (.b 4 rfl)) (.k (idx_ .k rwS (.g 2 rfl) (.g 3 rfl) rfl (gm p2)) (.k (fat .k (.g 4 rfl) aSA rfl) (.k (ldc_at .k (.g 5 rfl) tyI) (.k (idx_ .k rwP (.g 1 rfl) (.g 6 rfl) ea (gm ha)) (.k (ld_at .k (.g 7 rfl) tyP rfl (show _=ptv _ _ from rfl)) (.k (faddr .k (.b 0 rfl) rfl fQP) (.k (ldc .k (.g 9 rfl) (.b 0 rfl) tyvP) (.k (mv .k (.b 2 rfl)) (.k (mv .k (.b 4 rfl)) (.k (idx_ .k rwS (.g 11 rfl) (.g 12 rfl) rfl (gm p2)) (.k (fat .k (.g 13 rfl) aSB rfl) (.k (ldc_at .k (.g 14 rfl) tyI) (.k (idx_ .k rwP (.g 10 rfl) (.g 15 rfl) eb (gm hb)) (.k (ld_at .k (.g 16 rfl) tyP rfl (show _=ptv _ _ from rfl)) (.k (faddr .k (.b 0 rfl) rfl fQP) (.k (ldc .k (.g 18 rfl) (.b 0 rfl) tyvP) (.k (mv .k (.b 3 rfl)) (.k (idx_ .k rwP (.g 19 rfl) (.g 20 rfl) rfl (gm p1)) (.k (ld_at .k (.g 21 rfl) tyP rfl (show _=ptv _ _ from rfl)) (.k (cal .k Tryz.func130 rfl (fn_Inside na nb np) (.k (.g 8 rfl) (.k (.g 17 rfl) (.k (.g 22 rfl) .n)))) .n)))))))))))))))))))))))) [0,1,2,3,4] [23] rfl rfl ?_
      refine Tr.cond 5 rfl (fun e159=>?_) (fun e159=>?_)
      ·
       rw [flw_4 n1 n2 n3 ⟨p,s,p1,p2,em.trans e159⟩ h4.2 hk4.2]
       refine Tr.rs [(1,3)] (.k (mv .k (.b 3 rfl)) (.k (mv .k (.b 4 rfl)) (.k (bld .k (.k .c (.k (.g 0 rfl) (.k (.g 1 rfl) .n))) (bF3 _ _ _) (aT _ _ _)) (.k (sto .k (.b 1 rfl) (.g 2 rfl) tyF) .n)))) [] [3] rfl rfl ?_
       refine Tr.ret (end_cell 0 rfl rfl tyF)
      ·
       have hqn:=q4_no p1 p2 (em.trans e159)
       refine Tr.skip (Nx.bkN (Nx.go (Tr.reg [(4,2)] (.k (mv .k (.b 4 rfl)) (.k (add_ .k (.g 0 rfl) .c (wr1 (by omega))) (.k (asg .k (.g 1 rfl)) .n))) [0,1,2,3] [2] rfl rfl (Nx.again ((L++I).length - (k4+1)) (by omega) [.b 1 (SP.poly P L I) 47 3,.b 2 (.is (trv (0,0,0))) 164 3,.s 5 (svec (L++I)),.s 11 (iv ((i4:Nat):Int)),.s 12 (iv (((k4+1):Nat):Int))] ⟨(k4+1),⟨by omega,q_one hk4.2 hqn⟩,rfl,rfl⟩ (Sub.all (.cons 0 rfl (.cons 1 rfl (.cons 2 rfl (.cons 3 rfl (.cons 4 rfl .nil))))))))))
     ·
      have hno:=q_end hk4.2 (fun m hm=>q4_end (P:=P) (i:=i4) m (by have:=of_decide_eq_false e133;omega))
      refine Tr.exit (Nx.thX (Nx.thX (Nx.bkX (Nx.bkN (Nx.go (Tr.reg [(3,2)] (.k (mv .k (.b 3 rfl)) (.k (add_ .k (.g 0 rfl) .c (wr1 (by omega))) (.k (asg .k (.g 1 rfl)) .n))) [0,1,2] [2] rfl rfl (Nx.again (P.length - (i4+1)) (by omega) [.b 1 (SP.poly P L I) 47 3,.b 2 (.is (trv (0,0,0))) 164 3,.s 5 (svec (L++I)),.s 11 (iv (((i4+1):Nat):Int))] ⟨(i4+1),⟨by omega,q_succ h4.2 hno⟩,rfl,rfl⟩ (Sub.all (.cons 0 rfl (.cons 1 rfl (.cons 2 rfl (.cons 3 rfl .nil))))))))))))
    ·
     have hie4:P.length≤i4:=by have:=of_decide_eq_false e127;omega
     refine Tr.exit (Nx.thX (Nx.thX (Nx.bkX (Nx.go (?_)))))
     have n4:=q4_all hie4 h4.2
     rw [flw_0 n1 n2 n3 n4]
     refine Tr.rs [(1,1)] (.k (bld .k .n bF0 (aT 0 0 0)) (.k (sto .k (.b 1 rfl) (.g 0 rfl) tyF) .n)) [] [1] rfl rfl ?_
     refine Tr.ret (end_cell 0 rfl rfl tyF)
theorem mem2 {q:Int→Prop} {a b:Int} (h1:q a) (h2:q b):∀ z∈[a,b],q z:=by
  intro z hz
  simp only [List.mem_cons,List.not_mem_nil,or_false] at hz
  rcases hz with rfl|rfl
  · exact h1
  · exact h2
theorem fn_loops {P L I:List (Int × Int)} (hP:P.length≤14) (hL:L.length≤30) (hI:I.length≤30) (hok:okQ P L I) (hD:disS P (L++I)):FnC Tryz.prog 151 [SP.poly P L I] (.is (trv (flwL P L I))):=by
 refine FnC.of (N:=144) Tryz.func151 rfl rfl (Nat.le_of_ble_eq_true rfl) (fun w0 ok0=>?_)
 refine Tr.rs [] (.k (bxx .k (.b 0 rfl)) (.k (alc .k zF) .n)) [] [0,1] rfl rfl ?_
 have hLI:(L++I).length=L.length+I.length:=List.length_append
 have hin:=inS_of hok
 have hLS:inS P L:=fun s hs=>hin s (List.mem_append_left _ hs)
 have hIS:inS P I:=fun s hs=>hin s (List.mem_append_right _ hs)
 have hLD:disS P L:=fun s hs=>hD s (List.mem_append_left _ hs)
 refine Tr.seq (Tr.rs [] (.k (asg .k .c) .n) [0,1] [0] rfl rfl ?_)
 refine Tr.block (?_)
 refine Tr.loop (fun n_ F_=>∃ i:Nat,(i≤P.length∧∀ j,j < i→¬ q5 P L j)∧n_=P.length - i∧F_=[.b 1 (SP.poly P L I) 47 3,.b 2 (.is (trv (0,0,0))) 164 3,.s 3 (iv ((i:Nat):Int))]) (P.length - 0) (F0:=[.b 1 (SP.poly P L I) 47 3,.b 2 (.is (trv (0,0,0))) 164 3,.s 3 (iv ((0:Nat):Int))]) ⟨0,⟨Nat.zero_le _,fun j h=>absurd h (Nat.not_lt_zero _)⟩,rfl,rfl⟩ (Sub.all (.cons 0 rfl (.cons 1 rfl (.cons 2 rfl .nil)))) (fun n_ F_ hI=>?_)
 obtain ⟨i,h5,rfl,rfl⟩:=hI
 refine Tr.seq (Tr.rs [] (.k (mv .k (.b 2 rfl)) (.k (faddr .k (.b 0 rfl) rfl fQP) (.k (ldc .k (.g 1 rfl) (.b 0 rfl) tyvP) (.k (len_ .k rwP (.g 2 rfl) (by rw [List.length_map])) (.k (lt_ .k (.g 0 rfl) (.g 3 rfl) rfl) .n))))) [0,1,2] [4] rfl rfl ?_)
 refine Tr.cond 3 rfl (fun e17=>?_) (fun e17=>?_)
 ·
  have hi2:i < P.length:=by have:=of_decide_eq_true e17;omega
  refine Tr.skip (Nx.go (Tr.seq (Tr.block (Tr.rs [] (.k (asg .k .c) .n) [0,1,2] [0] rfl rfl ?_))))
  refine Tr.seq (Tr.rs [] (.k (asg .k .c) .n) [0,1,2,3] [0] rfl rfl ?_)
  refine Tr.block (?_)
  refine Tr.loop (fun n_ F_=>∃ k:Nat,∃ d:Int,(k≤L.length∧d=degN (L.take k) i)∧n_=L.length - k∧F_=[.b 1 (SP.poly P L I) 47 3,.b 2 (.is (trv (0,0,0))) 164 3,.s 3 (iv ((i:Nat):Int)),.s 4 (iv d),.s 5 (iv ((k:Nat):Int))]) (L.length - 0) (F0:=[.b 1 (SP.poly P L I) 47 3,.b 2 (.is (trv (0,0,0))) 164 3,.s 3 (iv ((i:Nat):Int)),.s 4 (iv 0),.s 5 (iv ((0:Nat):Int))]) ⟨0,0,⟨Nat.zero_le _,rfl⟩,rfl,rfl⟩ (Sub.all (.cons 0 rfl (.cons 1 rfl (.cons 2 rfl (.cons 3 rfl (.cons 4 rfl .nil)))))) (fun n_ F_ hI=>?_)
  obtain ⟨k,d,hk,rfl,rfl⟩:=hI
  refine Tr.seq (Tr.rs [] (.k (mv .k (.b 4 rfl)) (.k (faddr .k (.b 0 rfl) rfl fQL) (.k (ldc .k (.g 1 rfl) (.b 0 rfl) tyvS) (.k (len_ .k rwS (.g 2 rfl) (by rw [List.length_map])) (.k (lt_ .k (.g 0 rfl) (.g 3 rfl) rfl) .n))))) [0,1,2,3,4] [4] rfl rfl ?_)
  refine Tr.cond 5 rfl (fun e24=>?_) (fun e24=>?_)
  ·
   have hk2:k < L.length:=by have:=of_decide_eq_true e24;omega
   refine Tr.skip (Nx.go (Tr.seq (Tr.block (?_))))
   obtain ⟨s,p1⟩:∃ s,L[k]?=some s:=⟨_,List.getElem?_eq_getElem hk2⟩;rcases or_ways2 (s.1=(i:Int)) (s.2=(i:Int)) with c1|⟨c1,c2⟩|⟨c1,c2⟩
   ·
    refine Tr.rs [] (.k (faddr .k (.b 0 rfl) rfl fQL) (.k (ldc .k (.g 0 rfl) (.b 0 rfl) tyvS) (.k (mv .k (.b 4 rfl)) (.k (idx_ .k rwS (.g 1 rfl) (.g 2 rfl) rfl (gm p1)) (.k (fat .k (.g 3 rfl) aSA rfl) (.k (ldc_at .k (.g 4 rfl) tyI) (.k (mv .k (.b 2 rfl)) (.k (eq_ .k (.g 5 rfl) (.g 6 rfl) (beq_iff_eq.2 c1)) (.k (mv .k (.g 7 rfl)) (.k (skp (.o 8 rfl rfl rfl)) (.k (skp (.o 8 rfl rfl rfl)) (.k (skp (.o 8 rfl rfl rfl)) (.k (skp (.o 8 rfl rfl rfl)) (.k (skp (.o 8 rfl rfl rfl)) (.k (skp (.o 8 rfl rfl rfl)) (.k (skp (.o 8 rfl rfl rfl)) (.k (skp (.o 8 rfl rfl rfl)) (.k (pickT .k (.g 8 rfl) .c) .n)))))))))))))))))) [0,1,2,3,4] [17] rfl rfl ?_
    refine Tr.cond 5 rfl (fun _=>?_) nofun
    refine Tr.reg [(3,2)] (.k (mv .k (.b 3 rfl)) (.k (add_ .k (.g 0 rfl) .c (show IntKind.i64.wrap (d+1)=d+1 from IntWalk.i64_in _ (by have:=deg_bd L i k;have:=hk.2;omega))) (.k (asg .k (.g 1 rfl)) .n))) [0,1,2,4] [2] rfl rfl (Nx.bkN (Nx.go (Tr.reg [(3,2)] (.k (mv .k (.b 3 rfl)) (.k (add_ .k (.g 0 rfl) .c (wr1 (by omega))) (.k (asg .k (.g 1 rfl)) .n))) [0,1,2,4] [2] rfl rfl (Nx.again (L.length - (k+1)) (by omega) [.b 1 (SP.poly P L I) 47 3,.b 2 (.is (trv (0,0,0))) 164 3,.s 3 (iv ((i:Nat):Int)),.s 4 (iv (d+1)),.s 5 (iv (((k+1):Nat):Int))] ⟨(k+1),(d+1),⟨by omega,by rw [deg_succ p1,← hk.2,show (s.1==(i:Int) || s.2==(i:Int))=true by rw [beq_iff_eq.2 c1];rfl];rfl⟩,rfl,rfl⟩ (Sub.all (.cons 0 rfl (.cons 1 rfl (.cons 2 rfl (.cons 3 rfl (.cons 4 rfl .nil))))))))))
   ·
    refine Tr.rs [] (.k (faddr .k (.b 0 rfl) rfl fQL) (.k (ldc .k (.g 0 rfl) (.b 0 rfl) tyvS) (.k (mv .k (.b 4 rfl)) (.k (idx_ .k rwS (.g 1 rfl) (.g 2 rfl) rfl (gm p1)) (.k (fat .k (.g 3 rfl) aSA rfl) (.k (ldc_at .k (.g 4 rfl) tyI) (.k (mv .k (.b 2 rfl)) (.k (eq_ .k (.g 5 rfl) (.g 6 rfl) (beq_eq_false_iff_ne.2 c1)) (.k (mv .k (.g 7 rfl)) (.k (faddr (.o 8 rfl rfl rfl) (.b 0 rfl) rfl fQL) (.k (ldc (.o 8 rfl rfl rfl) (.g 9 rfl) (.b 0 rfl) tyvS) (.k (mv (.o 8 rfl rfl rfl) (.b 4 rfl)) (.k (idx_ (.o 8 rfl rfl rfl) rwS (.g 10 rfl) (.g 11 rfl) rfl (gm p1)) (.k (fat (.o 8 rfl rfl rfl) (.g 12 rfl) aSB rfl) (.k (ldc_at (.o 8 rfl rfl rfl) (.g 13 rfl) tyI) (.k (mv (.o 8 rfl rfl rfl) (.b 2 rfl)) (.k (eq_ (.o 8 rfl rfl rfl) (.g 14 rfl) (.g 15 rfl) (beq_iff_eq.2 c2)) (.k (pickF .k (.g 8 rfl) (.g 16 rfl)) .n)))))))))))))))))) [0,1,2,3,4] [17] rfl rfl ?_
    refine Tr.cond 5 rfl (fun _=>?_) nofun
    refine Tr.reg [(3,2)] (.k (mv .k (.b 3 rfl)) (.k (add_ .k (.g 0 rfl) .c (show IntKind.i64.wrap (d+1)=d+1 from IntWalk.i64_in _ (by have:=deg_bd L i k;have:=hk.2;omega))) (.k (asg .k (.g 1 rfl)) .n))) [0,1,2,4] [2] rfl rfl (Nx.bkN (Nx.go (Tr.reg [(3,2)] (.k (mv .k (.b 3 rfl)) (.k (add_ .k (.g 0 rfl) .c (wr1 (by omega))) (.k (asg .k (.g 1 rfl)) .n))) [0,1,2,4] [2] rfl rfl (Nx.again (L.length - (k+1)) (by omega) [.b 1 (SP.poly P L I) 47 3,.b 2 (.is (trv (0,0,0))) 164 3,.s 3 (iv ((i:Nat):Int)),.s 4 (iv (d+1)),.s 5 (iv (((k+1):Nat):Int))] ⟨(k+1),(d+1),⟨by omega,by rw [deg_succ p1,← hk.2,show (s.1==(i:Int) || s.2==(i:Int))=true by rw [beq_iff_eq.2 c2,Bool.or_true]];rfl⟩,rfl,rfl⟩ (Sub.all (.cons 0 rfl (.cons 1 rfl (.cons 2 rfl (.cons 3 rfl (.cons 4 rfl .nil))))))))))
   ·
    refine Tr.rs [] (.k (faddr .k (.b 0 rfl) rfl fQL) (.k (ldc .k (.g 0 rfl) (.b 0 rfl) tyvS) (.k (mv .k (.b 4 rfl)) (.k (idx_ .k rwS (.g 1 rfl) (.g 2 rfl) rfl (gm p1)) (.k (fat .k (.g 3 rfl) aSA rfl) (.k (ldc_at .k (.g 4 rfl) tyI) (.k (mv .k (.b 2 rfl)) (.k (eq_ .k (.g 5 rfl) (.g 6 rfl) (beq_eq_false_iff_ne.2 c1)) (.k (mv .k (.g 7 rfl)) (.k (faddr (.o 8 rfl rfl rfl) (.b 0 rfl) rfl fQL) (.k (ldc (.o 8 rfl rfl rfl) (.g 9 rfl) (.b 0 rfl) tyvS) (.k (mv (.o 8 rfl rfl rfl) (.b 4 rfl)) (.k (idx_ (.o 8 rfl rfl rfl) rwS (.g 10 rfl) (.g 11 rfl) rfl (gm p1)) (.k (fat (.o 8 rfl rfl rfl) (.g 12 rfl) aSB rfl) (.k (ldc_at (.o 8 rfl rfl rfl) (.g 13 rfl) tyI) (.k (mv (.o 8 rfl rfl rfl) (.b 2 rfl)) (.k (eq_ (.o 8 rfl rfl rfl) (.g 14 rfl) (.g 15 rfl) (beq_eq_false_iff_ne.2 c2)) (.k (pickF .k (.g 8 rfl) (.g 16 rfl)) .n)))))))))))))))))) [0,1,2,3,4] [17] rfl rfl ?_
    refine Tr.cond 5 rfl nofun (fun _=>?_)
    refine Tr.skip (Nx.bkN (Nx.go (Tr.reg [(4,2)] (.k (mv .k (.b 4 rfl)) (.k (add_ .k (.g 0 rfl) .c (wr1 (by omega))) (.k (asg .k (.g 1 rfl)) .n))) [0,1,2,3] [2] rfl rfl (Nx.again (L.length - (k+1)) (by omega) [.b 1 (SP.poly P L I) 47 3,.b 2 (.is (trv (0,0,0))) 164 3,.s 3 (iv ((i:Nat):Int)),.s 4 (iv d),.s 5 (iv (((k+1):Nat):Int))] ⟨(k+1),d,⟨by omega,by rw [deg_succ p1,← hk.2,show (s.1==(i:Int) || s.2==(i:Int))=false by rw [beq_eq_false_iff_ne.2 c1,beq_eq_false_iff_ne.2 c2];rfl];exact (Int.add_zero d).symm⟩,rfl,rfl⟩ (Sub.all (.cons 0 rfl (.cons 1 rfl (.cons 2 rfl (.cons 3 rfl (.cons 4 rfl .nil))))))))))
  ·
   obtain rfl:k=L.length:=by have:=of_decide_eq_false e24;omega
   refine Tr.exit (Nx.thX (Nx.thX (Nx.bkX (Nx.go (?_)))))
   rcases and_ways2 (d≠0) (d≠2) with c1|⟨c1,c2⟩|⟨c1,c2⟩
   ·
    have hdd:d=degN L i:=by rw [hk.2,List.take_length]
    have hqn:¬ q5 P L i:=fun h=>h.2.1 (hdd ▸ Classical.not_not.1 c1)
    refine Tr.rs [] (.k (mv .k (.b 3 rfl)) (.k (ne_ .k (.g 0 rfl) .c (bne_eq_false_iff_eq.2 (Classical.not_not.1 c1))) (.k (mv .k (.g 1 rfl)) (.k (skp (.o 2 rfl rfl rfl)) (.k (skp (.o 2 rfl rfl rfl)) (.k (pickF .k (.g 2 rfl) .c) .n)))))) [0,1,2] [5] rfl rfl ?_
    refine Tr.cond 3 rfl nofun (fun _=>?_)
    refine Tr.skip (Nx.bkN (Nx.go (Tr.reg [(2,2)] (.k (mv .k (.b 2 rfl)) (.k (add_ .k (.g 0 rfl) .c (wr1 (by omega))) (.k (asg .k (.g 1 rfl)) .n))) [0,1] [2] rfl rfl (Nx.again (P.length - (i+1)) (by omega) [.b 1 (SP.poly P L I) 47 3,.b 2 (.is (trv (0,0,0))) 164 3,.s 3 (iv (((i+1):Nat):Int))] ⟨(i+1),⟨by omega,q_one h5.2 hqn⟩,rfl,rfl⟩ (Sub.all (.cons 0 rfl (.cons 1 rfl (.cons 2 rfl .nil))))))))
   ·
    have hdd:d=degN L i:=by rw [hk.2,List.take_length]
    have hqn:¬ q5 P L i:=fun h=>h.2.2 (hdd ▸ Classical.not_not.1 c2)
    refine Tr.rs [] (.k (mv .k (.b 3 rfl)) (.k (ne_ .k (.g 0 rfl) .c (bne_iff_ne.2 c1)) (.k (mv .k (.g 1 rfl)) (.k (mv (.o 2 rfl rfl rfl) (.b 3 rfl)) (.k (ne_ (.o 2 rfl rfl rfl) (.g 3 rfl) .c (bne_eq_false_iff_eq.2 (Classical.not_not.1 c2))) (.k (pickT .k (.g 2 rfl) (.g 4 rfl)) .n)))))) [0,1,2] [5] rfl rfl ?_
    refine Tr.cond 3 rfl nofun (fun _=>?_)
    refine Tr.skip (Nx.bkN (Nx.go (Tr.reg [(2,2)] (.k (mv .k (.b 2 rfl)) (.k (add_ .k (.g 0 rfl) .c (wr1 (by omega))) (.k (asg .k (.g 1 rfl)) .n))) [0,1] [2] rfl rfl (Nx.again (P.length - (i+1)) (by omega) [.b 1 (SP.poly P L I) 47 3,.b 2 (.is (trv (0,0,0))) 164 3,.s 3 (iv (((i+1):Nat):Int))] ⟨(i+1),⟨by omega,q_one h5.2 hqn⟩,rfl,rfl⟩ (Sub.all (.cons 0 rfl (.cons 1 rfl (.cons 2 rfl .nil))))))))
   ·
    have hdd:d=degN L i:=by rw [hk.2,List.take_length]
    rw [flw_5 ⟨hi2,hdd ▸ c1,hdd ▸ c2⟩ h5.2]
    refine Tr.rs [] (.k (mv .k (.b 3 rfl)) (.k (ne_ .k (.g 0 rfl) .c (bne_iff_ne.2 c1)) (.k (mv .k (.g 1 rfl)) (.k (mv (.o 2 rfl rfl rfl) (.b 3 rfl)) (.k (ne_ (.o 2 rfl rfl rfl) (.g 3 rfl) .c (bne_iff_ne.2 c2)) (.k (pickT .k (.g 2 rfl) (.g 4 rfl)) .n)))))) [0,1,2] [5] rfl rfl ?_
    refine Tr.cond 3 rfl (fun _=>?_) nofun
    refine Tr.rs [(1,2)] (.k (mv .k (.b 2 rfl)) (.k (bld .k (.k .c (.k (.g 0 rfl) .n)) (bF2 _ _) (aT _ _ 0)) (.k (sto .k (.b 1 rfl) (.g 1 rfl) tyF) .n))) [] [2] rfl rfl ?_
    refine Tr.ret (end_cell 0 rfl rfl tyF)
 ·
  have hie:P.length≤i:=by have:=of_decide_eq_false e17;omega
  refine Tr.exit (Nx.thX (Nx.thX (Nx.bkX (Nx.go (?_)))))
  have n5:=q5_all hie h5.2
  refine Tr.seq (Tr.rs [] (.k (faddr .k (.b 0 rfl) rfl fQL) (.k (ldc .k (.g 0 rfl) (.b 0 rfl) tyvS) (.k (len_ .k rwS (.g 1 rfl) (by rw [List.length_map])) (.k (eq_ .k (.g 2 rfl) .c rfl) .n)))) [0,1] [3] rfl rfl ?_)
  refine Tr.cond 2 rfl (fun e58=>?_) (fun e58=>?_)
  ·
   rw [flw_6 n5 (beq_iff_eq.1 e58)]
   refine Tr.rs [(1,1)] (.k (bld .k (.k .c .n) (bF1 _) (aT _ 0 0)) (.k (sto .k (.b 1 rfl) (.g 0 rfl) tyF) .n)) [] [1] rfl rfl ?_
   refine Tr.ret (end_cell 0 rfl rfl tyF)
  ·
   have hL0:=beq_eq_false_iff_ne.1 e58
   refine Tr.skip (Nx.go (Tr.seq (Tr.rs [] (.k (asg .k .c) .n) [0,1] [0] rfl rfl ?_)))
   refine Tr.block (?_)
   refine Tr.loop (fun n_ F_=>∃ i7:Nat,(i7≤I.length∧∀ j,j < i7→¬ q7 P L I j)∧n_=I.length - i7∧F_=[.b 1 (SP.poly P L I) 47 3,.b 2 (.is (trv (0,0,0))) 164 3,.s 6 (iv ((i7:Nat):Int))]) (I.length - 0) (F0:=[.b 1 (SP.poly P L I) 47 3,.b 2 (.is (trv (0,0,0))) 164 3,.s 6 (iv ((0:Nat):Int))]) ⟨0,⟨Nat.zero_le _,fun j h=>absurd h (Nat.not_lt_zero _)⟩,rfl,rfl⟩ (Sub.all (.cons 0 rfl (.cons 1 rfl (.cons 2 rfl .nil)))) (fun n_ F_ hI=>?_)
   obtain ⟨i7,h7,rfl,rfl⟩:=hI
   refine Tr.seq (Tr.rs [] (.k (mv .k (.b 2 rfl)) (.k (faddr .k (.b 0 rfl) rfl fQI) (.k (ldc .k (.g 1 rfl) (.b 0 rfl) tyvS) (.k (len_ .k rwS (.g 2 rfl) (by rw [List.length_map])) (.k (lt_ .k (.g 0 rfl) (.g 3 rfl) rfl) .n))))) [0,1,2] [4] rfl rfl ?_)
   refine Tr.cond 3 rfl (fun e64=>?_) (fun e64=>?_)
   ·
    have hi2:i7 < I.length:=by have:=of_decide_eq_true e64;omega
    refine Tr.skip (Nx.go (Tr.seq (Tr.block (?_))))
    obtain ⟨s,p1⟩:∃ s,I[i7]?=some s:=⟨_,List.getElem?_eq_getElem hi2⟩;have hs:=hIS s (List.mem_of_getElem? p1)
    refine Tr.ds hmx [] (.k (faddr .k (.b 0 rfl) rfl fQP) (.k (ldc .k (.g 0 rfl) (.b 0 rfl) tyvP) (.k (faddr .k (.b 0 rfl) rfl fQL) (.k (ldc .k (.g 2 rfl) (.b 0 rfl) tyvS) (.k (faddr .k (.b 0 rfl) rfl fQI) (.k (ldc .k (.g 4 rfl) (.b 0 rfl) tyvS) (.k (mv .k (.b 2 rfl)) (.k (idx_ .k rwS (.g 5 rfl) (.g 6 rfl) rfl (gm p1)) (.k (fat .k (.g 7 rfl) aSA rfl) (.k (ldc_at .k (.g 8 rfl) tyI) (.k (faddr .k (.b 0 rfl) rfl fQI) (.k (ldc .k (.g 10 rfl) (.b 0 rfl) tyvS) (.k (mv .k (.b 2 rfl)) (.k (idx_ .k rwS (.g 11 rfl) (.g 12 rfl) rfl (gm p1)) (.k (fat .k (.g 13 rfl) aSB rfl) (.k (ldc_at .k (.g 14 rfl) tyI) (.k (mkrow .k rwI (.k (.g 9 rfl) (.k (.g 15 rfl) .n)) rfl rfl (by kernel_rfl)) (.k (cal .k Tryz.func78 rfl (show FnC _ _ [_,_,.vec 1 [[ic s.1],[ic s.2]]] _ from fn_Middle9 (l:=[s.1,s.2]) hok.1 (by omega) (by omega) hLS hLD (mem2 hs.1 hs.2) (.inr (.inl rfl))) (.k (.g 1 rfl) (.k (.g 3 rfl) (.k (.g 16 rfl) .n)))) (.k (mv .k (.g 17 rfl)) (.k (exx .k (.g 18 rfl) rfl) (.k (exx .k (.g 18 rfl) rfl) (.k (asg .k (.g 19 rfl)) (.k (asg .k (.g 20 rfl)) .n))))))))))))))))))))))) [0,1,2] [21] rfl rfl ?_
    refine Tr.rs [] (.k (mv .k (.b 3 rfl)) (.k (ne_ .k (.g 0 rfl) .c rfl) .n)) [0,1,2] [1] rfl rfl ?_
    refine Tr.cond 3 rfl (fun e89=>?_) (fun e89=>?_)
    ·
     rw [flw_7 n5 hL0 ⟨s,p1,bne_iff_ne.1 e89⟩ h7.2]
     refine Tr.rs [(1,2)] (.k (mv .k (.b 2 rfl)) (.k (bld .k (.k .c (.k (.g 0 rfl) .n)) (bF2 _ _) (aT _ _ 0)) (.k (sto .k (.b 1 rfl) (.g 1 rfl) tyF) .n))) [] [2] rfl rfl ?_
     refine Tr.ret (end_cell 0 rfl rfl tyF)
    ·
     have hqn:=q7_no p1 (bne_eq_false_iff_eq.1 e89)
     refine Tr.skip (Nx.bkN (Nx.go (Tr.reg [(2,2)] (.k (mv .k (.b 2 rfl)) (.k (add_ .k (.g 0 rfl) .c (wr1 (by omega))) (.k (asg .k (.g 1 rfl)) .n))) [0,1] [2] rfl rfl (Nx.again (I.length - (i7+1)) (by omega) [.b 1 (SP.poly P L I) 47 3,.b 2 (.is (trv (0,0,0))) 164 3,.s 6 (iv (((i7+1):Nat):Int))] ⟨(i7+1),⟨by omega,q_one h7.2 hqn⟩,rfl,rfl⟩ (Sub.all (.cons 0 rfl (.cons 1 rfl (.cons 2 rfl .nil))))))))
   ·
    have hie7:I.length≤i7:=by have:=of_decide_eq_false e64;omega
    refine Tr.exit (Nx.thX (Nx.thX (Nx.bkX (Nx.go (?_)))))
    have n7:=q7_all hie7 h7.2
    refine Tr.rs [] (.k (ld .k (.b 0 rfl) tyQ) (.k (cal .k Tryz.func106 rfl (fn_All10 hP hL hI) (.k (.g 0 rfl) .n)) (.k (asg .k (.g 1 rfl)) .n))) [0,1] [2] rfl rfl ?_
    refine Tr.seq (Tr.rs [] (.k (asg .k .c) .n) [0,1,2] [0] rfl rfl ?_)
    refine Tr.block (?_)
    refine Tr.loop (fun n_ F_=>∃ i:Nat,(i≤P.length∧∀ j,j < i→¬ q8 P L I j)∧n_=P.length - i∧F_=[.b 1 (SP.poly P L I) 47 3,.b 2 (.is (trv (0,0,0))) 164 3,.s 9 (svec (L++I)),.s 10 (iv ((i:Nat):Int))]) (P.length - 0) (F0:=[.b 1 (SP.poly P L I) 47 3,.b 2 (.is (trv (0,0,0))) 164 3,.s 9 (svec (L++I)),.s 10 (iv ((0:Nat):Int))]) ⟨0,⟨Nat.zero_le _,fun j h=>absurd h (Nat.not_lt_zero _)⟩,rfl,rfl⟩ (Sub.all (.cons 0 rfl (.cons 1 rfl (.cons 2 rfl (.cons 3 rfl .nil))))) (fun n_ F_ hI=>?_)
    obtain ⟨i,h8,rfl,rfl⟩:=hI
    refine Tr.seq (Tr.rs [] (.k (mv .k (.b 3 rfl)) (.k (faddr .k (.b 0 rfl) rfl fQP) (.k (ldc .k (.g 1 rfl) (.b 0 rfl) tyvP) (.k (len_ .k rwP (.g 2 rfl) (by rw [List.length_map])) (.k (lt_ .k (.g 0 rfl) (.g 3 rfl) rfl) .n))))) [0,1,2,3] [4] rfl rfl ?_)
    refine Tr.cond 4 rfl (fun e98=>?_) (fun e98=>?_)
    ·
     have hi2:i < P.length:=by have:=of_decide_eq_true e98;omega
     refine Tr.skip (Nx.go (Tr.seq (Tr.block (Tr.rs [] (.k (asg .k .c) .n) [0,1,2,3] [0] rfl rfl ?_))))
     refine Tr.seq (Tr.rs [] (.k (asg .k .c) .n) [0,1,2,3,4] [0] rfl rfl ?_)
     refine Tr.block (?_)
     refine Tr.loop (fun n_ F_=>∃ k:Nat,∃ b:Bool,(k≤(L++I).length∧b=endB ((L++I).take k) i)∧n_=(L++I).length - k∧F_=[.b 1 (SP.poly P L I) 47 3,.b 2 (.is (trv (0,0,0))) 164 3,.s 9 (svec (L++I)),.s 10 (iv ((i:Nat):Int)),.s 11 (bv b),.s 12 (iv ((k:Nat):Int))]) ((L++I).length - 0) (F0:=[.b 1 (SP.poly P L I) 47 3,.b 2 (.is (trv (0,0,0))) 164 3,.s 9 (svec (L++I)),.s 10 (iv ((i:Nat):Int)),.s 11 (bv false),.s 12 (iv ((0:Nat):Int))]) ⟨0,false,⟨Nat.zero_le _,rfl⟩,rfl,rfl⟩ (Sub.all (.cons 0 rfl (.cons 1 rfl (.cons 2 rfl (.cons 3 rfl (.cons 4 rfl (.cons 5 rfl .nil))))))) (fun n_ F_ hI=>?_)
     obtain ⟨k,b,hk,rfl,rfl⟩:=hI
     refine Tr.seq (Tr.rs [] (.k (mv .k (.b 5 rfl)) (.k (mv .k (.b 2 rfl)) (.k (len_ .k rwS (.g 1 rfl) (by rw [List.length_map])) (.k (lt_ .k (.g 0 rfl) (.g 2 rfl) rfl) .n)))) [0,1,2,3,4,5] [3] rfl rfl ?_)
     refine Tr.cond 6 rfl (fun e104=>?_) (fun e104=>?_)
     ·
      have hk2:k < (L++I).length:=by have:=of_decide_eq_true e104;omega
      refine Tr.skip (Nx.go (Tr.seq (Tr.block (?_))))
      obtain ⟨s,p1⟩:∃ s,(L++I)[k]?=some s:=⟨_,List.getElem?_eq_getElem hk2⟩;rcases or_ways2 (b=true) (s.1=(i:Int)) with c1|⟨c1,c2⟩|⟨c1,c2⟩
      ·
       subst c1
       refine Tr.reg [(4,19)] (.k (mv .k (.b 4 rfl)) (.k (mv .k (.g 0 rfl)) (.k (skp (.o 1 rfl rfl rfl)) (.k (skp (.o 1 rfl rfl rfl)) (.k (skp (.o 1 rfl rfl rfl)) (.k (skp (.o 1 rfl rfl rfl)) (.k (skp (.o 1 rfl rfl rfl)) (.k (skp (.o 1 rfl rfl rfl)) (.k (skp (.o 1 rfl rfl rfl)) (.k (pickT .k (.g 1 rfl) .c) (.k (mv .k (.g 9 rfl)) (.k (skp (.o 10 rfl rfl rfl)) (.k (skp (.o 10 rfl rfl rfl)) (.k (skp (.o 10 rfl rfl rfl)) (.k (skp (.o 10 rfl rfl rfl)) (.k (skp (.o 10 rfl rfl rfl)) (.k (skp (.o 10 rfl rfl rfl)) (.k (skp (.o 10 rfl rfl rfl)) (.k (pickT .k (.g 10 rfl) .c) (.k (asg .k (.g 18 rfl)) .n)))))))))))))))))))) [0,1,2,3,5] [19] rfl rfl (Nx.bkN (Nx.go (Tr.reg [(4,2)] (.k (mv .k (.b 4 rfl)) (.k (add_ .k (.g 0 rfl) .c (wr1 (by omega))) (.k (asg .k (.g 1 rfl)) .n))) [0,1,2,3,5] [2] rfl rfl (Nx.again ((L++I).length - (k+1)) (by omega) [.b 1 (SP.poly P L I) 47 3,.b 2 (.is (trv (0,0,0))) 164 3,.s 9 (svec (L++I)),.s 10 (iv ((i:Nat):Int)),.s 11 (bv true),.s 12 (iv (((k+1):Nat):Int))] ⟨(k+1),true,⟨by omega,by rw [end_succ p1,← hk.2,Bool.true_or]⟩,rfl,rfl⟩ (Sub.all (.cons 0 rfl (.cons 1 rfl (.cons 2 rfl (.cons 3 rfl (.cons 4 rfl (.cons 5 rfl .nil)))))))))))
      ·
       obtain rfl:b=false:=fls c1
       refine Tr.reg [(4,19)] (.k (mv .k (.b 4 rfl)) (.k (mv .k (.g 0 rfl)) (.k (mv (.o 1 rfl rfl rfl) (.b 2 rfl)) (.k (mv (.o 1 rfl rfl rfl) (.b 5 rfl)) (.k (idx_ (.o 1 rfl rfl rfl) rwS (.g 2 rfl) (.g 3 rfl) rfl (gm p1)) (.k (fat (.o 1 rfl rfl rfl) (.g 4 rfl) aSA rfl) (.k (ldc_at (.o 1 rfl rfl rfl) (.g 5 rfl) tyI) (.k (mv (.o 1 rfl rfl rfl) (.b 3 rfl)) (.k (eq_ (.o 1 rfl rfl rfl) (.g 6 rfl) (.g 7 rfl) (beq_iff_eq.2 c2)) (.k (pickF .k (.g 1 rfl) (.g 8 rfl)) (.k (mv .k (.g 9 rfl)) (.k (skp (.o 10 rfl rfl rfl)) (.k (skp (.o 10 rfl rfl rfl)) (.k (skp (.o 10 rfl rfl rfl)) (.k (skp (.o 10 rfl rfl rfl)) (.k (skp (.o 10 rfl rfl rfl)) (.k (skp (.o 10 rfl rfl rfl)) (.k (skp (.o 10 rfl rfl rfl)) (.k (pickT .k (.g 10 rfl) .c) (.k (asg .k (.g 18 rfl)) .n)))))))))))))))))))) [0,1,2,3,5] [19] rfl rfl (Nx.bkN (Nx.go (Tr.reg [(4,2)] (.k (mv .k (.b 4 rfl)) (.k (add_ .k (.g 0 rfl) .c (wr1 (by omega))) (.k (asg .k (.g 1 rfl)) .n))) [0,1,2,3,5] [2] rfl rfl (Nx.again ((L++I).length - (k+1)) (by omega) [.b 1 (SP.poly P L I) 47 3,.b 2 (.is (trv (0,0,0))) 164 3,.s 9 (svec (L++I)),.s 10 (iv ((i:Nat):Int)),.s 11 (bv true),.s 12 (iv (((k+1):Nat):Int))] ⟨(k+1),true,⟨by omega,by rw [end_succ p1,← hk.2,beq_iff_eq.2 c2];rfl⟩,rfl,rfl⟩ (Sub.all (.cons 0 rfl (.cons 1 rfl (.cons 2 rfl (.cons 3 rfl (.cons 4 rfl (.cons 5 rfl .nil)))))))))))
      ·
       obtain rfl:b=false:=fls c1
       refine Tr.reg [(4,19)] (.k (mv .k (.b 4 rfl)) (.k (mv .k (.g 0 rfl)) (.k (mv (.o 1 rfl rfl rfl) (.b 2 rfl)) (.k (mv (.o 1 rfl rfl rfl) (.b 5 rfl)) (.k (idx_ (.o 1 rfl rfl rfl) rwS (.g 2 rfl) (.g 3 rfl) rfl (gm p1)) (.k (fat (.o 1 rfl rfl rfl) (.g 4 rfl) aSA rfl) (.k (ldc_at (.o 1 rfl rfl rfl) (.g 5 rfl) tyI) (.k (mv (.o 1 rfl rfl rfl) (.b 3 rfl)) (.k (eq_ (.o 1 rfl rfl rfl) (.g 6 rfl) (.g 7 rfl) (beq_eq_false_iff_ne.2 c2)) (.k (pickF .k (.g 1 rfl) (.g 8 rfl)) (.k (mv .k (.g 9 rfl)) (.k (mv (.o 10 rfl rfl rfl) (.b 2 rfl)) (.k (mv (.o 10 rfl rfl rfl) (.b 5 rfl)) (.k (idx_ (.o 10 rfl rfl rfl) rwS (.g 11 rfl) (.g 12 rfl) rfl (gm p1)) (.k (fat (.o 10 rfl rfl rfl) (.g 13 rfl) aSB rfl) (.k (ldc_at (.o 10 rfl rfl rfl) (.g 14 rfl) tyI) (.k (mv (.o 10 rfl rfl rfl) (.b 3 rfl)) (.k (eq_ (.o 10 rfl rfl rfl) (.g 15 rfl) (.g 16 rfl) rfl) (.k (pickF .k (.g 10 rfl) (.g 17 rfl)) (.k (asg .k (.g 18 rfl)) .n)))))))))))))))))))) [0,1,2,3,5] [19] rfl rfl (Nx.bkN (Nx.go (Tr.reg [(4,2)] (.k (mv .k (.b 4 rfl)) (.k (add_ .k (.g 0 rfl) .c (wr1 (by omega))) (.k (asg .k (.g 1 rfl)) .n))) [0,1,2,3,5] [2] rfl rfl (Nx.again ((L++I).length - (k+1)) (by omega) [.b 1 (SP.poly P L I) 47 3,.b 2 (.is (trv (0,0,0))) 164 3,.s 9 (svec (L++I)),.s 10 (iv ((i:Nat):Int)),.s 11 (bv (s.2==(i:Int))),.s 12 (iv (((k+1):Nat):Int))] ⟨(k+1),(s.2==(i:Int)),⟨by omega,by rw [end_succ p1,← hk.2,beq_eq_false_iff_ne.2 c2];rfl⟩,rfl,rfl⟩ (Sub.all (.cons 0 rfl (.cons 1 rfl (.cons 2 rfl (.cons 3 rfl (.cons 4 rfl (.cons 5 rfl .nil)))))))))))
     ·
      obtain rfl:k=(L++I).length:=by have:=of_decide_eq_false e104;omega
      refine Tr.exit (Nx.thX (Nx.thX (Nx.bkX (Nx.go (?_)))))
      obtain ⟨p,p1⟩:∃ s,P[i]?=some s:=⟨_,List.getElem?_eq_getElem hi2⟩;rcases or_ways2 (b=true) (whrR P L 1 p≠1) with c1|⟨c1,c2⟩|⟨c1,c2⟩
      ·
       have hee:endB (L++I) i=true:=by rw [List.take_length] at hk;exact hk.2.symm.trans c1
       subst c1
       have hqn:=q8_no p1 (.inl hee)
       refine Tr.ds hmx [] (.k (mv .k (.b 4 rfl)) (.k (not_ .k (.g 0 rfl)) (.k (mv .k (.g 1 rfl)) (.k (skp (.o 2 rfl rfl rfl)) (.k (skp (.o 2 rfl rfl rfl)) (.k (skp (.o 2 rfl rfl rfl)) (.k (skp (.o 2 rfl rfl rfl)) (.k (skp (.o 2 rfl rfl rfl)) (.k (skp (.o 2 rfl rfl rfl)) (.k (skp (.o 2 rfl rfl rfl)) (.k (skp (.o 2 rfl rfl rfl)) (.k (skp (.o 2 rfl rfl rfl)) (.k (skp (.o 2 rfl rfl rfl)) (.k (skp (.o 2 rfl rfl rfl)) (.k (pickF .k (.g 2 rfl) .c) .n))))))))))))))) [0,1,2,3] [14] rfl rfl ?_
       refine Tr.cond 4 rfl nofun (fun _=>?_)
       refine Tr.skip (Nx.bkN (Nx.go (Tr.reg [(3,2)] (.k (mv .k (.b 3 rfl)) (.k (add_ .k (.g 0 rfl) .c (wr1 (by omega))) (.k (asg .k (.g 1 rfl)) .n))) [0,1,2] [2] rfl rfl (Nx.again (P.length - (i+1)) (by omega) [.b 1 (SP.poly P L I) 47 3,.b 2 (.is (trv (0,0,0))) 164 3,.s 9 (svec (L++I)),.s 10 (iv (((i+1):Nat):Int))] ⟨(i+1),⟨by omega,q_one h8.2 hqn⟩,rfl,rfl⟩ (Sub.all (.cons 0 rfl (.cons 1 rfl (.cons 2 rfl (.cons 3 rfl .nil)))))))))
      ·
       have hee:endB (L++I) i=false:=by rw [List.take_length] at hk;exact hk.2.symm.trans (fls c1)
       obtain rfl:b=false:=fls c1
       rw [flw_8 n5 hL0 n7 ⟨p,p1,hee,c2⟩ h8.2]
       refine Tr.ds hmx [] (.k (mv .k (.b 4 rfl)) (.k (not_ .k (.g 0 rfl)) (.k (mv .k (.g 1 rfl)) (.k (faddr (.o 2 rfl rfl rfl) (.b 0 rfl) rfl fQP) (.k (ldc (.o 2 rfl rfl rfl) (.g 3 rfl) (.b 0 rfl) tyvP) (.k (faddr (.o 2 rfl rfl rfl) (.b 0 rfl) rfl fQL) (.k (ldc (.o 2 rfl rfl rfl) (.g 5 rfl) (.b 0 rfl) tyvS) (.k (faddr (.o 2 rfl rfl rfl) (.b 0 rfl) rfl fQP) (.k (ldc (.o 2 rfl rfl rfl) (.g 7 rfl) (.b 0 rfl) tyvP) (.k (mv (.o 2 rfl rfl rfl) (.b 3 rfl)) (.k (idx_ (.o 2 rfl rfl rfl) rwP (.g 8 rfl) (.g 9 rfl) rfl (gm p1)) (.k (ld_at (.o 2 rfl rfl rfl) (.g 10 rfl) tyP rfl (show _=ptv _ _ from rfl)) (.k (cal (.o 2 rfl rfl rfl) Tryz.func108 rfl (fn_Where hok.1 (by omega) hLS (.inl rfl) (hok.1.at p1).nea1) (.k (.g 4 rfl) (.k (.g 6 rfl) (.k .c (.k (.g 11 rfl) .n))))) (.k (ne_ (.o 2 rfl rfl rfl) (.g 12 rfl) .c (bne_iff_ne.2 c2)) (.k (pickT .k (.g 2 rfl) (.g 13 rfl)) .n))))))))))))))) [0,1,2,3] [14] rfl rfl ?_
       refine Tr.cond 4 rfl (fun _=>?_) nofun
       refine Tr.rs [(1,2)] (.k (mv .k (.b 3 rfl)) (.k (bld .k (.k .c (.k (.g 0 rfl) .n)) (bF2 _ _) (aT _ _ 0)) (.k (sto .k (.b 1 rfl) (.g 1 rfl) tyF) .n))) [] [2] rfl rfl ?_
       refine Tr.ret (end_cell 0 rfl rfl tyF)
      ·
       obtain rfl:b=false:=fls c1
       have hqn:=q8_no (L:=L) (I:=I) p1 (.inr (Classical.not_not.1 c2))
       refine Tr.ds hmx [] (.k (mv .k (.b 4 rfl)) (.k (not_ .k (.g 0 rfl)) (.k (mv .k (.g 1 rfl)) (.k (faddr (.o 2 rfl rfl rfl) (.b 0 rfl) rfl fQP) (.k (ldc (.o 2 rfl rfl rfl) (.g 3 rfl) (.b 0 rfl) tyvP) (.k (faddr (.o 2 rfl rfl rfl) (.b 0 rfl) rfl fQL) (.k (ldc (.o 2 rfl rfl rfl) (.g 5 rfl) (.b 0 rfl) tyvS) (.k (faddr (.o 2 rfl rfl rfl) (.b 0 rfl) rfl fQP) (.k (ldc (.o 2 rfl rfl rfl) (.g 7 rfl) (.b 0 rfl) tyvP) (.k (mv (.o 2 rfl rfl rfl) (.b 3 rfl)) (.k (idx_ (.o 2 rfl rfl rfl) rwP (.g 8 rfl) (.g 9 rfl) rfl (gm p1)) (.k (ld_at (.o 2 rfl rfl rfl) (.g 10 rfl) tyP rfl (show _=ptv _ _ from rfl)) (.k (cal (.o 2 rfl rfl rfl) Tryz.func108 rfl (fn_Where hok.1 (by omega) hLS (.inl rfl) (hok.1.at p1).nea1) (.k (.g 4 rfl) (.k (.g 6 rfl) (.k .c (.k (.g 11 rfl) .n))))) (.k (ne_ (.o 2 rfl rfl rfl) (.g 12 rfl) .c (bne_eq_false_iff_eq.2 (Classical.not_not.1 c2))) (.k (pickT .k (.g 2 rfl) (.g 13 rfl)) .n))))))))))))))) [0,1,2,3] [14] rfl rfl ?_
       refine Tr.cond 4 rfl nofun (fun _=>?_)
       refine Tr.skip (Nx.bkN (Nx.go (Tr.reg [(3,2)] (.k (mv .k (.b 3 rfl)) (.k (add_ .k (.g 0 rfl) .c (wr1 (by omega))) (.k (asg .k (.g 1 rfl)) .n))) [0,1,2] [2] rfl rfl (Nx.again (P.length - (i+1)) (by omega) [.b 1 (SP.poly P L I) 47 3,.b 2 (.is (trv (0,0,0))) 164 3,.s 9 (svec (L++I)),.s 10 (iv (((i+1):Nat):Int))] ⟨(i+1),⟨by omega,q_one h8.2 hqn⟩,rfl,rfl⟩ (Sub.all (.cons 0 rfl (.cons 1 rfl (.cons 2 rfl (.cons 3 rfl .nil)))))))))
    ·
     have hie8:P.length≤i:=by have:=of_decide_eq_false e98;omega
     refine Tr.exit (Nx.thX (Nx.thX (Nx.bkX (Nx.go (?_)))))
     have n8:=q8_all hie8 h8.2
     rw [flw_9 n5 hL0 n7 n8]
     refine Tr.rs [(1,1)] (.k (bld .k .n bF0 (aT 0 0 0)) (.k (sto .k (.b 1 rfl) (.g 0 rfl) tyF) .n)) [] [1] rfl rfl ?_
     refine Tr.ret (end_cell 0 rfl rfl tyF)
theorem chk5_yes {P L I:List (Int × Int)} (h:chk5 P L I=0):okQ P L I:=Classical.byContradiction fun hn=>by
  unfold chk5 at h
  rw [if_neg hn] at h
  cases h
noncomputable def fErr (P L I:List (Int × Int)):Int:=if chk5 P L I≠0 then 2 else 0
theorem first_n {P L I:List (Int × Int)} (h:¬ chk5 P L I=0):flwF P L I=(0,0,0):=if_pos h
theorem first_e {P L I:List (Int × Int)} (h:¬ chk5 P L I=0):fErr P L I=2:=if_pos h
theorem first_l {P L I:List (Int × Int)} (h:chk5 P L I=0) (h2:(flwP P (L++I)).1=0):flwF P L I=flwL P L I:=by unfold flwF;rw [if_neg (fun hh=>hh h),if_pos h2]
theorem first_p {P L I:List (Int × Int)} (h:chk5 P L I=0) (h2:¬ (flwP P (L++I)).1=0):flwF P L I=flwP P (L++I):=by unfold flwF;rw [if_neg (fun hh=>hh h),if_neg h2]
theorem first_z {P L I:List (Int × Int)} (h:chk5 P L I=0):fErr P L I=0:=if_neg (fun hh=>hh h)
theorem fn_First {P L I:List (Int × Int)} (hP:P.length≤14) (hL:L.length≤30) (hI:I.length≤30):FnC Tryz.prog 129 [SP.poly P L I] (.tup [.is (trv (flwF P L I)),iv (fErr P L I)]):=by
 refine FnC.of (N:=19) Tryz.func129 rfl rfl (Nat.le_of_ble_eq_true rfl) (fun w0 ok0=>?_)
 refine Tr.rs [] (.k (bxx .k (.b 0 rfl)) (.k (alc .k zF) (.k (asg .k .c) .n))) [] [0,1] rfl rfl ?_
 by_cases c1:chk5 P L I=0
 ·
  have hok:okQ P L I:=chk5_yes c1
  refine Tr.rs [] (.k (ld .k (.b 0 rfl) tyQ) (.k (cal .k Tryz.func149 rfl (c1 ▸ fn_Check5 hP hL hI) (.k (.g 0 rfl) .n)) (.k (asg .k (.g 1 rfl)) .n))) [0,1] [2] rfl rfl ?_
  refine Tr.seq (Tr.rs [] (.k (mv .k (.b 2 rfl)) (.k (ne_ .k (.g 0 rfl) .c (bne_eq_false_iff_eq.2 rfl)) .n)) [0,1] [1] rfl rfl ?_)
  refine Tr.cond 2 rfl nofun (fun _=>?_)
  refine Tr.skip (Nx.go (?_))
  by_cases c2:(flwP P (L++I)).1=0
  ·
   rw [first_l c1 c2]
   rw [first_z c1]
   refine Tr.rs [] (.k (ld .k (.b 0 rfl) tyQ) (.k (cal .k Tryz.func150 rfl (fn_pairs hP hL hI hok) (.k (.g 0 rfl) .n)) (.k (ala .k zF) (.k (sta .k (.g 2 rfl) (.g 1 rfl) tyF) .n)))) [0,1] [3] rfl rfl ?_
   refine Tr.seq (Tr.rs [] (.k (faddr .k (.b 2 rfl) rfl fFK) (.k (ldc .k (.g 0 rfl) (.b 2 rfl) tyI) (.k (eq_ .k (.g 1 rfl) .c (beq_iff_eq.2 c2)) .n))) [0,1,2] [2] rfl rfl ?_)
   refine Tr.cond 3 rfl (fun _=>?_) nofun
   refine Tr.reg [(2,2)] (.k (ld .k (.b 0 rfl) tyQ) (.k (cal .k Tryz.func151 rfl (fn_loops hP hL hI hok (dis_of hok c2).2) (.k (.g 0 rfl) .n)) (.k (sto .k (.b 2 rfl) (.g 1 rfl) tyF) .n))) [1] [2] rfl rfl (Nx.go (Tr.rs [(0,1)] (.k (ld .k (.b 1 rfl) tyF) (.k (sto .k (.b 0 rfl) (.g 0 rfl) tyF) (.k (asg .k .c) .n))) [] [1,2] rfl rfl ?_))
   refine Tr.ret (end_cell_tmp 0 1 rfl rfl rfl tyF)
  ·
   rw [first_p c1 c2]
   rw [first_z c1]
   refine Tr.rs [] (.k (ld .k (.b 0 rfl) tyQ) (.k (cal .k Tryz.func150 rfl (fn_pairs hP hL hI hok) (.k (.g 0 rfl) .n)) (.k (ala .k zF) (.k (sta .k (.g 2 rfl) (.g 1 rfl) tyF) .n)))) [0,1] [3] rfl rfl ?_
   refine Tr.seq (Tr.rs [] (.k (faddr .k (.b 2 rfl) rfl fFK) (.k (ldc .k (.g 0 rfl) (.b 2 rfl) tyI) (.k (eq_ .k (.g 1 rfl) .c (beq_eq_false_iff_ne.2 c2)) .n))) [0,1,2] [2] rfl rfl ?_)
   refine Tr.cond 3 rfl nofun (fun _=>?_)
   refine Tr.skip (Nx.go (Tr.rs [(1,1)] (.k (ld .k (.b 2 rfl) tyF) (.k (sto .k (.b 1 rfl) (.g 0 rfl) tyF) (.k (asg .k .c) .n))) [] [1,2] rfl rfl ?_))
   refine Tr.ret (end_cell_tmp 0 1 rfl rfl rfl tyF)
 ·
  rw [first_n c1,first_e c1]
  refine Tr.rs [] (.k (ld .k (.b 0 rfl) tyQ) (.k (cal .k Tryz.func149 rfl (fn_Check5 hP hL hI) (.k (.g 0 rfl) .n)) (.k (asg .k (.g 1 rfl)) .n))) [0,1] [2] rfl rfl ?_
  refine Tr.seq (Tr.rs [] (.k (mv .k (.b 2 rfl)) (.k (ne_ .k (.g 0 rfl) .c (bne_iff_ne.2 c1)) .n)) [0,1] [1] rfl rfl ?_)
  refine Tr.cond 2 rfl (fun _=>?_) nofun
  refine Tr.rs [(1,1)] (.k (bld .k .n bF0 (aT 0 0 0)) (.k (sto .k (.b 1 rfl) (.g 0 rfl) tyF) (.k (asg .k .c) .n))) [] [1,2] rfl rfl ?_
  refine Tr.ret (end_cell_tmp 0 1 rfl rfl rfl tyF)
theorem Int.beq_dec (a:Int):(a==0)=decide (a=0):=by
  by_cases h:a=0
  · rw [decide_eq_true h];exact beq_iff_eq.2 h
  · rw [decide_eq_false h];exact beq_eq_false_iff_ne.2 h
theorem fn_Right10 {P L I:List (Int × Int)} (hP:P.length≤14) (hL:L.length≤30) (hI:I.length≤30):FnC Tryz.prog 103 [SP.poly P L I] (bv (rightB P L I)):=by
 refine FnC.of (N:=17) Tryz.func103 rfl rfl (Nat.le_of_ble_eq_true rfl) (fun w0 ok0=>?_)
 refine Tr.rs [] (.k (bxx .k (.b 0 rfl)) (.k (asg .k .c) .n)) [] [0] rfl rfl ?_
 refine Tr.rs [] (.k (ld .k (.b 0 rfl) tyQ) (.k (cal .k Tryz.func129 rfl (fn_First hP hL hI) (.k (.g 0 rfl) .n)) (.k (mv .k (.g 1 rfl)) (.k (exx .k (.g 2 rfl) rfl) (.k (exx .k (.g 2 rfl) rfl) (.k (ala .k zF) (.k (sta .k (.g 5 rfl) (.g 3 rfl) tyF) (.k (asg .k (.g 4 rfl)) .n)))))))) [] [6,7] rfl rfl ?_
 by_cases c1:chk5 P L I=0
 ·
  rw [show rightB P L I=decide ((flwF P L I).1=0) by unfold rightB;rw [decide_eq_true c1,Bool.true_and]]
  refine Tr.rs [] (.k (mv .k (.b 1 rfl)) (.k (eq_ .k (.g 0 rfl) .c (beq_iff_eq.2 (first_z c1))) (.k (mv .k (.g 1 rfl)) (.k (faddr (.o 2 rfl rfl rfl) (.b 0 rfl) rfl fFK) (.k (ldc (.o 2 rfl rfl rfl) (.g 3 rfl) (.b 0 rfl) tyI) (.k (eq_ (.o 2 rfl rfl rfl) (.g 4 rfl) .c (Int.beq_dec _)) (.k (pickT .k (.g 2 rfl) (.g 5 rfl)) (.k (asg .k (.g 6 rfl)) .n)))))))) [] [7] rfl rfl ?_
  refine Tr.ret (end_tmp 0 rfl rfl)
 ·
  rw [show rightB P L I=false by unfold rightB;rw [decide_eq_false c1,Bool.false_and]]
  refine Tr.rs [] (.k (mv .k (.b 1 rfl)) (.k (eq_ .k (.g 0 rfl) .c (beq_eq_false_iff_ne.2 (by rw [first_e c1];decide))) (.k (mv .k (.g 1 rfl)) (.k (skp (.o 2 rfl rfl rfl)) (.k (skp (.o 2 rfl rfl rfl)) (.k (skp (.o 2 rfl rfl rfl)) (.k (pickF .k (.g 2 rfl) .c) (.k (asg .k (.g 6 rfl)) .n)))))))) [] [7] rfl rfl ?_
  refine Tr.ret (end_tmp 0 rfl rfl)
end Go.Proofs.YtkgagdjogedoiaaGreat

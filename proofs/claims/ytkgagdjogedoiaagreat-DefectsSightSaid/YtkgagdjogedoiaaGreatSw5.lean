/- Segments and triangles, laid at their places; may an edge be laid: the document's, walked. -/
import Derived.Test.YtkgagdjogedoiaaGreatSx3
set_option linter.unusedVariables false
set_option linter.unusedSimpArgs false
set_option maxRecDepth 100000
set_option maxHeartbeats 8000000
namespace Go.Proofs.YtkgagdjogedoiaaGreat
open Go Go.RowKit Go.Proofs.YtkgagdjogedoiaaGreat.Fx Go.Proofs.YtkgagdjogedoiaaGreatW.PrintWords
theorem at_ways {α:Type} (q:α→Prop) (l:List α) (k:Nat):(∃ x,l[k]?=some x∧q x)∨(∃ x,l[k]?=some x∧¬ q x)∨¬ k < l.length:=by
  by_cases h:k < l.length
  · by_cases h2:q l[k]
    · exact .inl ⟨_,List.getElem?_eq_getElem h,h2⟩
    · exact .inr (.inl ⟨_,List.getElem?_eq_getElem h,h2⟩)
  · exact .inr (.inr h)
theorem fn_Put {l:List (Int × Int × Int)} {t:Int × Int × Int} (hl:l.length≤1000000):FnC Tryz.prog 80 [tvec l,.is (trv t)] (tvec (putT l t)):=by
 refine FnC.of (N:=37) Tryz.func80 rfl rfl (Nat.le_of_ble_eq_true rfl) (fun w0 ok0=>?_)
 refine Tr.rs [] (.k (bxx .k (.b 1 rfl)) (.k (oini (sz:=3) (E:=55) .k (.inl rfl)) .n)) [0] [0] rfl rfl ?_
 refine Tr.rs [] (.k (oini (sz:=3) (E:=55) .k (.inl rfl)) .n) [0,1] [0] rfl rfl ?_
 refine Tr.rs [] (.k (asg .k .c) .n) [0,1,2] [0] rfl rfl ?_
 refine Tr.seq (Tr.block (?_))
 refine Tr.loop (fun n_ F_=>∃ k:Nat,(k≤l.length∧∀ x∈l.take k,ltT x t)∧n_=l.length - k∧F_=[.s 0 (tvec l),.b 3 (.is (trv t)) 55 3,.o 5 3 55 ((l.take k).map trc),.s 6 (iv ((k:Nat):Int))]) (l.length - 0) (F0:=[.s 0 (tvec l),.b 3 (.is (trv t)) 55 3,.o 5 3 55 ((l.take 0).map trc),.s 6 (iv ((0:Nat):Int))]) ⟨0,⟨Nat.zero_le _,by simp⟩,rfl,rfl⟩ (Sub.all (.cons 0 rfl (.cons 1 rfl (.cons 2 rfl (.cons 3 rfl .nil))))) (fun n_ F_ hI=>?_)
 obtain ⟨k,hinv,rfl,rfl⟩:=hI
 rcases at_ways (fun x=>ltT x t) l k with ⟨x,p1,hlt⟩|⟨x,p1,hlt⟩|hk'
 ·
  have hk:=(List.getElem?_eq_some_iff.1 p1).1
  refine Tr.seq (Tr.ds hmx [] (.k (mv .k (.b 3 rfl)) (.k (mv .k (.b 0 rfl)) (.k (len_ .k rwT (.g 1 rfl) (by rw [List.length_map])) (.k (lt_ .k (.g 0 rfl) (.g 2 rfl) (dT (by omega))) (.k (mv .k (.g 3 rfl)) (.k (mv (.o 4 rfl rfl rfl) (.b 0 rfl)) (.k (mv (.o 4 rfl rfl rfl) (.b 3 rfl)) (.k (idx_ (.o 4 rfl rfl rfl) rwT (.g 5 rfl) (.g 6 rfl) rfl (gm p1)) (.k (ld_at (.o 4 rfl rfl rfl) (.g 7 rfl) tyT rfl (show _=trv (_,_,_) from rfl)) (.k (ld (.o 4 rfl rfl rfl) (.b 1 rfl) tyT) (.k (cal (.o 4 rfl rfl rfl) Tryz.func51 rfl (fn_beforeT hlt) (.k (.g 8 rfl) (.k (.g 9 rfl) .n))) (.k (pickT .k (.g 4 rfl) (.g 10 rfl)) .n)))))))))))) [0,1,2,3] [11] rfl rfl ?_)
  refine Tr.cond 4 rfl (fun _=>?_) nofun
  refine Tr.skip (Nx.go (Tr.block (Tr.rs [(2,0),(1000,6),(1006,7)] (.k (omv .k (.inr rfl) (.b 2 rfl)) (.k (mv .k (.b 0 rfl)) (.k (mv .k (.b 3 rfl)) (.k (idx_ .k rwT (.g 1 rfl) (.g 2 rfl) rfl (gm p1)) (.k (ld_at .k (.g 3 rfl) tyT rfl (show _=trv (_,_,_) from rfl)) (.k (mkrow .k rwT (.k (.g 4 rfl) .n) rfl rfl (by kernel_rfl)) (.k (oapp_ .k apT (.g 0 rfl) (.g 5 rfl) (by decide) ⟨(show _=(l.take (k+1)).map trc by rw [take_succ' p1,List.map_append];rfl),⟨rfl,rfl⟩,by rw [List.length_map,List.length_take];omega⟩) (.k (omv .k (.inl rfl) (.g 6 rfl)) .n)))))))) [0,1,3] [7] rfl rfl ?_)))
  refine Tr.reg [(2,2)] (.k (mv .k (.b 2 rfl)) (.k (add_ .k (.g 0 rfl) .c (wr1 (by omega))) (.k (asg .k (.g 1 rfl)) .n))) [0,1,3] [2] rfl rfl (Nx.bkN (Nx.again (l.length - (k+1)) (by omega) [.s 0 (tvec l),.b 3 (.is (trv t)) 55 3,.o 5 3 55 ((l.take (k+1)).map trc),.s 6 (iv (((k+1):Nat):Int))] ⟨(k+1),⟨by omega,all_succ p1 hlt hinv.2⟩,rfl,rfl⟩ (Sub.all (.cons 0 rfl (.cons 1 rfl (.cons 2 rfl (.cons 3 rfl .nil)))))))
 ·
  have hk:=(List.getElem?_eq_some_iff.1 p1).1
  have hat:=put_at (t:=t) hinv.1 hinv.2 (fun y hy=>by rw [p1] at hy;cases hy;exact hlt)
  refine Tr.seq (Tr.ds hmx [] (.k (mv .k (.b 3 rfl)) (.k (mv .k (.b 0 rfl)) (.k (len_ .k rwT (.g 1 rfl) (by rw [List.length_map])) (.k (lt_ .k (.g 0 rfl) (.g 2 rfl) (dT (by omega))) (.k (mv .k (.g 3 rfl)) (.k (mv (.o 4 rfl rfl rfl) (.b 0 rfl)) (.k (mv (.o 4 rfl rfl rfl) (.b 3 rfl)) (.k (idx_ (.o 4 rfl rfl rfl) rwT (.g 5 rfl) (.g 6 rfl) rfl (gm p1)) (.k (ld_at (.o 4 rfl rfl rfl) (.g 7 rfl) tyT rfl (show _=trv (_,_,_) from rfl)) (.k (ld (.o 4 rfl rfl rfl) (.b 1 rfl) tyT) (.k (cal (.o 4 rfl rfl rfl) Tryz.func51 rfl (fn_beforeF hlt) (.k (.g 8 rfl) (.k (.g 9 rfl) .n))) (.k (pickT .k (.g 4 rfl) (.g 10 rfl)) .n)))))))))))) [0,1,2,3] [11] rfl rfl ?_)
  refine Tr.cond 4 rfl nofun (fun _=>?_)
  refine Tr.exit (Nx.thX (Nx.thX (Nx.bkX (Nx.go (Tr.rs [(2,0),(1000,3),(1003,4)] (.k (omv .k (.inr rfl) (.b 2 rfl)) (.k (ld .k (.b 1 rfl) tyT) (.k (mkrow .k rwT (.k (.g 1 rfl) .n) rfl rfl (by kernel_rfl)) (.k (oapp_ .k apT (.g 0 rfl) (.g 2 rfl) (by decide) ⟨(show _=(l.take k++[t]).map trc by rw [List.map_append];rfl),⟨rfl,rfl⟩,by rw [List.length_map,List.length_take];omega⟩) (.k (omv .k (.inl rfl) (.g 3 rfl)) .n))))) [0,3] [4] rfl rfl ?_)))))
  refine Tr.rs [(2,0),(1000,4),(1004,5)] (.k (omv .k (.inr rfl) (.b 2 rfl)) (.k (mv .k (.b 0 rfl)) (.k (mv .k (.b 1 rfl)) (.k (slcL .k rwT (.g 1 rfl) (.g 2 rfl) rfl (by rw [List.length_map];exact hinv.1)) (.k (oapa .k apT (.g 0 rfl) (.g 3 rfl) (by decide) ⟨(show _=(putT l t).map trc by rw [hat,List.map_append (l₂:=l.drop k),List.map_drop]),(by rw [← List.map_drop];exact tri_all _),by rw [List.length_map,List.length_append,List.length_take,List.length_drop,List.length_map,List.length_cons,List.length_nil];omega⟩) (.k (frz .k (.inl rfl) (.g 4 rfl)) .n)))))) [] [5] rfl rfl ?_
  refine Tr.ret (end_tmp 0 rfl rfl)
 ·
  have hat:=put_at (t:=t) hinv.1 hinv.2 (fun y hy=>absurd (List.getElem?_eq_some_iff.1 hy).1 hk')
  refine Tr.seq (Tr.ds hmx [] (.k (mv .k (.b 3 rfl)) (.k (mv .k (.b 0 rfl)) (.k (len_ .k rwT (.g 1 rfl) (by rw [List.length_map])) (.k (lt_ .k (.g 0 rfl) (.g 2 rfl) (dF (by omega))) (.k (mv .k (.g 3 rfl)) (.k (skp (.o 4 rfl rfl rfl)) (.k (skp (.o 4 rfl rfl rfl)) (.k (skp (.o 4 rfl rfl rfl)) (.k (skp (.o 4 rfl rfl rfl)) (.k (skp (.o 4 rfl rfl rfl)) (.k (skp (.o 4 rfl rfl rfl)) (.k (pickF .k (.g 4 rfl) .c) .n)))))))))))) [0,1,2,3] [11] rfl rfl ?_)
  refine Tr.cond 4 rfl nofun (fun _=>?_)
  refine Tr.exit (Nx.thX (Nx.thX (Nx.bkX (Nx.go (Tr.rs [(2,0),(1000,3),(1003,4)] (.k (omv .k (.inr rfl) (.b 2 rfl)) (.k (ld .k (.b 1 rfl) tyT) (.k (mkrow .k rwT (.k (.g 1 rfl) .n) rfl rfl (by kernel_rfl)) (.k (oapp_ .k apT (.g 0 rfl) (.g 2 rfl) (by decide) ⟨(show _=(l.take k++[t]).map trc by rw [List.map_append];rfl),⟨rfl,rfl⟩,by rw [List.length_map,List.length_take];omega⟩) (.k (omv .k (.inl rfl) (.g 3 rfl)) .n))))) [0,3] [4] rfl rfl ?_)))))
  refine Tr.rs [(2,0),(1000,4),(1004,5)] (.k (omv .k (.inr rfl) (.b 2 rfl)) (.k (mv .k (.b 0 rfl)) (.k (mv .k (.b 1 rfl)) (.k (slcL .k rwT (.g 1 rfl) (.g 2 rfl) rfl (by rw [List.length_map];exact hinv.1)) (.k (oapa .k apT (.g 0 rfl) (.g 3 rfl) (by decide) ⟨(show _=(putT l t).map trc by rw [hat,List.map_append (l₂:=l.drop k),List.map_drop]),(by rw [← List.map_drop];exact tri_all _),by rw [List.length_map,List.length_append,List.length_take,List.length_drop,List.length_map,List.length_cons,List.length_nil];omega⟩) (.k (frz .k (.inl rfl) (.g 4 rfl)) .n)))))) [] [5] rfl rfl ?_
  refine Tr.ret (end_tmp 0 rfl rfl)
theorem lay_ways (l:List (Int × Int)) (k:Nat) (s:Int × Int):(∃ x,l[k]?=some x∧x.1 < s.1)∨(∃ x,l[k]?=some x∧x.1=s.1∧x.2 < s.2)∨(∃ x,l[k]?=some x∧x.1=s.1∧¬ x.2 < s.2)∨(∃ x,l[k]?=some x∧x.1 > s.1)∨¬ k < l.length:=by
  by_cases h:k < l.length
  · have hx:=List.getElem?_eq_getElem h
    by_cases h1:l[k].1 < s.1
    · exact .inl ⟨_,hx,h1⟩
    by_cases h2:l[k].1=s.1
    · by_cases h3:l[k].2 < s.2
      · exact .inr (.inl ⟨_,hx,h2,h3⟩)
      · exact .inr (.inr (.inl ⟨_,hx,h2,h3⟩))
    · exact .inr (.inr (.inr (.inl ⟨_,hx,by omega⟩)))
  · exact .inr (.inr (.inr (.inr h)))
theorem is_ways (l:List (Int × Int)) (k:Nat) (s:Int × Int):(l[k]?=some s∧(if l[k]?=some s then k+1 else k)=k+1)∨(∃ x,l[k]?=some x∧x≠s∧(if l[k]?=some s then k+1 else k)=k)∨(¬ k < l.length∧(if l[k]?=some s then k+1 else k)=k):=by
  by_cases h:k < l.length
  · by_cases h2:l[k]?=some s
    · exact .inl ⟨h2,if_pos h2⟩
    · exact .inr (.inl ⟨_,List.getElem?_eq_getElem h,fun e=>h2 (by rw [List.getElem?_eq_getElem h,e]),if_neg h2⟩)
  · exact .inr (.inr ⟨h,if_neg (fun h2=>h (List.getElem?_eq_some_iff.1 h2).1)⟩)
theorem sg_self (s:Int × Int):(s.1==s.1 && s.2==s.2)=true:=by simp
theorem sg_nq {x s:Int × Int} (h:x≠s):(x.1==s.1 && x.2==s.2)=false:=by
  refine Bool.eq_false_iff.2 fun h'=>h ?_
  simp only [Bool.and_eq_true,beq_iff_eq] at h'
  exact Prod.ext h'.1 h'.2
theorem fn_Lay {l:List (Int × Int)} {s0:Int × Int} (hl:l.length≤1000000):FnC Tryz.prog 105 [svec l,.is (sgv s0)] (svec (layS l s0)):=by
 refine FnC.of (N:=83) Tryz.func105 rfl rfl (Nat.le_of_ble_eq_true rfl) (fun w0 ok0=>?_)
 refine Tr.rs [] (.k (bxx .k (.b 1 rfl)) (.k (oini (sz:=2) (E:=28) .k (.inl rfl)) .n)) [0] [0] rfl rfl ?_
 refine Tr.cut [.s 0 (svec l),.b 3 (.is (sgv (nrm s0))) 28 2] ?_ ?_
 ·
  refine Tr.rs [] (.k (faddr .k (.b 1 rfl) rfl fSA) (.k (ldc .k (.g 0 rfl) (.b 1 rfl) tyI) (.k (faddr .k (.b 1 rfl) rfl fSB) (.k (ldc .k (.g 2 rfl) (.b 1 rfl) tyI) (.k (gt_ .k (.g 1 rfl) (.g 3 rfl) rfl) .n))))) [0,1] [4] rfl rfl ?_
  refine Tr.cond 2 rfl (fun e11=>?_) (fun e11=>?_)
  ·
   refine Tr.reg [(1,5)] (.k (faddr .k (.b 1 rfl) rfl fSB) (.k (ldc .k (.g 0 rfl) (.b 1 rfl) tyI) (.k (faddr .k (.b 1 rfl) rfl fSA) (.k (ldc .k (.g 2 rfl) (.b 1 rfl) tyI) (.k (bld .k (.k (.g 1 rfl) (.k (.g 3 rfl) .n)) (bS _ _) (aS _ _)) (.k (sto .k (.b 1 rfl) (.g 4 rfl) tyS) .n)))))) [0] [5] rfl rfl (?_)
   rw [nrm_gt (s:=s0) (of_decide_eq_true e11)]
   refine Nx.met _ (Sub.all (.cons 0 rfl (.cons 1 rfl .nil)))
  ·
   refine Tr.skip (?_)
   rw [nrm_lt (s:=s0) (of_decide_eq_false e11)]
   refine Nx.met _ (Sub.all (.cons 0 rfl (.cons 1 rfl .nil)))
 ·
  refine Tr.rs [] (.k (oini (sz:=2) (E:=28) .k (.inl rfl)) .n) [0,1] [0] rfl rfl ?_
  refine Tr.rs [] (.k (asg .k .c) .n) [0,1,2] [0] rfl rfl ?_
  refine Tr.seq (Tr.block (?_))
  refine Tr.loop (fun n_ F_=>∃ k:Nat,(k≤l.length∧∀ x∈l.take k,ltS x (nrm s0))∧n_=l.length - k∧F_=[.s 0 (svec l),.b 3 (.is (sgv (nrm s0))) 28 2,.o 5 2 28 ((l.take k).map sgc),.s 6 (iv ((k:Nat):Int))]) (l.length - 0) (F0:=[.s 0 (svec l),.b 3 (.is (sgv (nrm s0))) 28 2,.o 5 2 28 ((l.take 0).map sgc),.s 6 (iv ((0:Nat):Int))]) ⟨0,⟨Nat.zero_le _,by simp⟩,rfl,rfl⟩ (Sub.all (.cons 0 rfl (.cons 1 rfl (.cons 2 rfl (.cons 3 rfl .nil))))) (fun n_ F_ hI=>?_)
  obtain ⟨k,hinv,rfl,rfl⟩:=hI
  rcases lay_ways l k (nrm s0) with ⟨x,p1,c1⟩|⟨x,p1,c1,c2⟩|⟨x,p1,c1,c2⟩|⟨x,p1,c1⟩|hk'
  ·
   have hk:=(List.getElem?_eq_some_iff.1 p1).1
   have hlt:ltS x (nrm s0):=by unfold ltS;omega
   refine Tr.seq (Tr.ds hmx [] (.k (mv .k (.b 3 rfl)) (.k (mv .k (.b 0 rfl)) (.k (len_ .k rwS (.g 1 rfl) (by rw [List.length_map])) (.k (lt_ .k (.g 0 rfl) (.g 2 rfl) (dT (by omega))) (.k (mv .k (.g 3 rfl)) (.k (mv (.o 4 rfl rfl rfl) (.b 0 rfl)) (.k (mv (.o 4 rfl rfl rfl) (.b 3 rfl)) (.k (idx_ (.o 4 rfl rfl rfl) rwS (.g 5 rfl) (.g 6 rfl) rfl (gm p1)) (.k (fat (.o 4 rfl rfl rfl) (.g 7 rfl) aSA rfl) (.k (ldc_at (.o 4 rfl rfl rfl) (.g 8 rfl) tyI) (.k (faddr (.o 4 rfl rfl rfl) (.b 1 rfl) rfl fSA) (.k (ldc (.o 4 rfl rfl rfl) (.g 10 rfl) (.b 1 rfl) tyI) (.k (lt_ (.o 4 rfl rfl rfl) (.g 9 rfl) (.g 11 rfl) (decide_eq_true c1)) (.k (mv (.o 4 rfl rfl rfl) (.g 12 rfl)) (.k (skp (.o 13 rfl rfl rfl)) (.k (skp (.o 13 rfl rfl rfl)) (.k (skp (.o 13 rfl rfl rfl)) (.k (skp (.o 13 rfl rfl rfl)) (.k (skp (.o 13 rfl rfl rfl)) (.k (skp (.o 13 rfl rfl rfl)) (.k (skp (.o 13 rfl rfl rfl)) (.k (skp (.o 13 rfl rfl rfl)) (.k (skpu (.o 13 rfl rfl rfl)) (.k (skpn (.g 22 rfl) rfl) (.k (skpn (.g 22 rfl) rfl) (.k (skpn (.g 22 rfl) rfl) (.k (skpn (.g 22 rfl) rfl) (.k (skpn (.g 22 rfl) rfl) (.k (skpn (.g 22 rfl) rfl) (.k (skpn (.g 22 rfl) rfl) (.k (skpn (.g 22 rfl) rfl) (.k (skp (.o 13 rfl rfl rfl)) (.k (pickT (.o 4 rfl rfl rfl) (.g 13 rfl) .c) (.k (pickT .k (.g 4 rfl) (.g 32 rfl)) .n)))))))))))))))))))))))))))))))))) [0,1,2,3] [33] rfl rfl ?_)
   refine Tr.cond 4 rfl (fun _=>?_) nofun
   refine Tr.skip (Nx.go (Tr.block (Tr.rs [(2,0),(1000,6),(1006,7)] (.k (omv .k (.inr rfl) (.b 2 rfl)) (.k (mv .k (.b 0 rfl)) (.k (mv .k (.b 3 rfl)) (.k (idx_ .k rwS (.g 1 rfl) (.g 2 rfl) rfl (gm p1)) (.k (ld_at .k (.g 3 rfl) tyS rfl (show _=sgv (_,_) from rfl)) (.k (mkrow .k rwS (.k (.g 4 rfl) .n) rfl rfl (by kernel_rfl)) (.k (oapp_ .k apS (.g 0 rfl) (.g 5 rfl) (by decide) ⟨(show _=(l.take (k+1)).map sgc by rw [take_succ' p1,List.map_append];rfl),⟨rfl,rfl⟩,by rw [List.length_map,List.length_take];omega⟩) (.k (omv .k (.inl rfl) (.g 6 rfl)) .n)))))))) [0,1,3] [7] rfl rfl ?_)))
   refine Tr.reg [(2,2)] (.k (mv .k (.b 2 rfl)) (.k (add_ .k (.g 0 rfl) .c (wr1 (by omega))) (.k (asg .k (.g 1 rfl)) .n))) [0,1,3] [2] rfl rfl (Nx.bkN (Nx.again (l.length - (k+1)) (by omega) [.s 0 (svec l),.b 3 (.is (sgv (nrm s0))) 28 2,.o 5 2 28 ((l.take (k+1)).map sgc),.s 6 (iv (((k+1):Nat):Int))] ⟨(k+1),⟨by omega,all_succ p1 hlt hinv.2⟩,rfl,rfl⟩ (Sub.all (.cons 0 rfl (.cons 1 rfl (.cons 2 rfl (.cons 3 rfl .nil)))))))
  ·
   have hk:=(List.getElem?_eq_some_iff.1 p1).1
   have hlt:ltS x (nrm s0):=by unfold ltS;omega
   refine Tr.seq (Tr.ds hmx [] (.k (mv .k (.b 3 rfl)) (.k (mv .k (.b 0 rfl)) (.k (len_ .k rwS (.g 1 rfl) (by rw [List.length_map])) (.k (lt_ .k (.g 0 rfl) (.g 2 rfl) (dT (by omega))) (.k (mv .k (.g 3 rfl)) (.k (mv (.o 4 rfl rfl rfl) (.b 0 rfl)) (.k (mv (.o 4 rfl rfl rfl) (.b 3 rfl)) (.k (idx_ (.o 4 rfl rfl rfl) rwS (.g 5 rfl) (.g 6 rfl) rfl (gm p1)) (.k (fat (.o 4 rfl rfl rfl) (.g 7 rfl) aSA rfl) (.k (ldc_at (.o 4 rfl rfl rfl) (.g 8 rfl) tyI) (.k (faddr (.o 4 rfl rfl rfl) (.b 1 rfl) rfl fSA) (.k (ldc (.o 4 rfl rfl rfl) (.g 10 rfl) (.b 1 rfl) tyI) (.k (lt_ (.o 4 rfl rfl rfl) (.g 9 rfl) (.g 11 rfl) (dF (by omega))) (.k (mv (.o 4 rfl rfl rfl) (.g 12 rfl)) (.k (mv (.o 13 rfl rfl rfl) (.b 0 rfl)) (.k (mv (.o 13 rfl rfl rfl) (.b 3 rfl)) (.k (idx_ (.o 13 rfl rfl rfl) rwS (.g 14 rfl) (.g 15 rfl) rfl (gm p1)) (.k (fat (.o 13 rfl rfl rfl) (.g 16 rfl) aSA rfl) (.k (ldc_at (.o 13 rfl rfl rfl) (.g 17 rfl) tyI) (.k (faddr (.o 13 rfl rfl rfl) (.b 1 rfl) rfl fSA) (.k (ldc (.o 13 rfl rfl rfl) (.g 19 rfl) (.b 1 rfl) tyI) (.k (eq_ (.o 13 rfl rfl rfl) (.g 18 rfl) (.g 20 rfl) (beq_iff_eq.2 c1)) (.k (mv (.o 13 rfl rfl rfl) (.g 21 rfl)) (.k (mv (.o 22 rfl rfl rfl) (.b 0 rfl)) (.k (mv (.o 22 rfl rfl rfl) (.b 3 rfl)) (.k (idx_ (.o 22 rfl rfl rfl) rwS (.g 23 rfl) (.g 24 rfl) rfl (gm p1)) (.k (fat (.o 22 rfl rfl rfl) (.g 25 rfl) aSB rfl) (.k (ldc_at (.o 22 rfl rfl rfl) (.g 26 rfl) tyI) (.k (faddr (.o 22 rfl rfl rfl) (.b 1 rfl) rfl fSB) (.k (ldc (.o 22 rfl rfl rfl) (.g 28 rfl) (.b 1 rfl) tyI) (.k (lt_ (.o 22 rfl rfl rfl) (.g 27 rfl) (.g 29 rfl) (decide_eq_true c2)) (.k (pickT (.o 13 rfl rfl rfl) (.g 22 rfl) (.g 30 rfl)) (.k (pickF (.o 4 rfl rfl rfl) (.g 13 rfl) (.g 31 rfl)) (.k (pickT .k (.g 4 rfl) (.g 32 rfl)) .n)))))))))))))))))))))))))))))))))) [0,1,2,3] [33] rfl rfl ?_)
   refine Tr.cond 4 rfl (fun _=>?_) nofun
   refine Tr.skip (Nx.go (Tr.block (Tr.rs [(2,0),(1000,6),(1006,7)] (.k (omv .k (.inr rfl) (.b 2 rfl)) (.k (mv .k (.b 0 rfl)) (.k (mv .k (.b 3 rfl)) (.k (idx_ .k rwS (.g 1 rfl) (.g 2 rfl) rfl (gm p1)) (.k (ld_at .k (.g 3 rfl) tyS rfl (show _=sgv (_,_) from rfl)) (.k (mkrow .k rwS (.k (.g 4 rfl) .n) rfl rfl (by kernel_rfl)) (.k (oapp_ .k apS (.g 0 rfl) (.g 5 rfl) (by decide) ⟨(show _=(l.take (k+1)).map sgc by rw [take_succ' p1,List.map_append];rfl),⟨rfl,rfl⟩,by rw [List.length_map,List.length_take];omega⟩) (.k (omv .k (.inl rfl) (.g 6 rfl)) .n)))))))) [0,1,3] [7] rfl rfl ?_)))
   refine Tr.reg [(2,2)] (.k (mv .k (.b 2 rfl)) (.k (add_ .k (.g 0 rfl) .c (wr1 (by omega))) (.k (asg .k (.g 1 rfl)) .n))) [0,1,3] [2] rfl rfl (Nx.bkN (Nx.again (l.length - (k+1)) (by omega) [.s 0 (svec l),.b 3 (.is (sgv (nrm s0))) 28 2,.o 5 2 28 ((l.take (k+1)).map sgc),.s 6 (iv (((k+1):Nat):Int))] ⟨(k+1),⟨by omega,all_succ p1 hlt hinv.2⟩,rfl,rfl⟩ (Sub.all (.cons 0 rfl (.cons 1 rfl (.cons 2 rfl (.cons 3 rfl .nil)))))))
  ·
   have hk:=(List.getElem?_eq_some_iff.1 p1).1
   have hlt:¬ ltS x (nrm s0):=by unfold ltS;omega
   have hat:=lay_at (s0:=s0) hinv.1 hinv.2 (fun y hy=>by rw [p1] at hy;cases hy;exact hlt)
   refine Tr.seq (Tr.ds hmx [] (.k (mv .k (.b 3 rfl)) (.k (mv .k (.b 0 rfl)) (.k (len_ .k rwS (.g 1 rfl) (by rw [List.length_map])) (.k (lt_ .k (.g 0 rfl) (.g 2 rfl) (dT (by omega))) (.k (mv .k (.g 3 rfl)) (.k (mv (.o 4 rfl rfl rfl) (.b 0 rfl)) (.k (mv (.o 4 rfl rfl rfl) (.b 3 rfl)) (.k (idx_ (.o 4 rfl rfl rfl) rwS (.g 5 rfl) (.g 6 rfl) rfl (gm p1)) (.k (fat (.o 4 rfl rfl rfl) (.g 7 rfl) aSA rfl) (.k (ldc_at (.o 4 rfl rfl rfl) (.g 8 rfl) tyI) (.k (faddr (.o 4 rfl rfl rfl) (.b 1 rfl) rfl fSA) (.k (ldc (.o 4 rfl rfl rfl) (.g 10 rfl) (.b 1 rfl) tyI) (.k (lt_ (.o 4 rfl rfl rfl) (.g 9 rfl) (.g 11 rfl) (dF (by omega))) (.k (mv (.o 4 rfl rfl rfl) (.g 12 rfl)) (.k (mv (.o 13 rfl rfl rfl) (.b 0 rfl)) (.k (mv (.o 13 rfl rfl rfl) (.b 3 rfl)) (.k (idx_ (.o 13 rfl rfl rfl) rwS (.g 14 rfl) (.g 15 rfl) rfl (gm p1)) (.k (fat (.o 13 rfl rfl rfl) (.g 16 rfl) aSA rfl) (.k (ldc_at (.o 13 rfl rfl rfl) (.g 17 rfl) tyI) (.k (faddr (.o 13 rfl rfl rfl) (.b 1 rfl) rfl fSA) (.k (ldc (.o 13 rfl rfl rfl) (.g 19 rfl) (.b 1 rfl) tyI) (.k (eq_ (.o 13 rfl rfl rfl) (.g 18 rfl) (.g 20 rfl) (beq_iff_eq.2 c1)) (.k (mv (.o 13 rfl rfl rfl) (.g 21 rfl)) (.k (mv (.o 22 rfl rfl rfl) (.b 0 rfl)) (.k (mv (.o 22 rfl rfl rfl) (.b 3 rfl)) (.k (idx_ (.o 22 rfl rfl rfl) rwS (.g 23 rfl) (.g 24 rfl) rfl (gm p1)) (.k (fat (.o 22 rfl rfl rfl) (.g 25 rfl) aSB rfl) (.k (ldc_at (.o 22 rfl rfl rfl) (.g 26 rfl) tyI) (.k (faddr (.o 22 rfl rfl rfl) (.b 1 rfl) rfl fSB) (.k (ldc (.o 22 rfl rfl rfl) (.g 28 rfl) (.b 1 rfl) tyI) (.k (lt_ (.o 22 rfl rfl rfl) (.g 27 rfl) (.g 29 rfl) (decide_eq_false c2)) (.k (pickT (.o 13 rfl rfl rfl) (.g 22 rfl) (.g 30 rfl)) (.k (pickF (.o 4 rfl rfl rfl) (.g 13 rfl) (.g 31 rfl)) (.k (pickT .k (.g 4 rfl) (.g 32 rfl)) .n)))))))))))))))))))))))))))))))))) [0,1,2,3] [33] rfl rfl ?_)
   refine Tr.cond 4 rfl nofun (fun _=>?_)
   refine Tr.exit (Nx.thX (Nx.thX (Nx.bkX (Nx.go (?_)))))
   rcases is_ways l k (nrm s0) with ⟨p1,hd⟩|⟨x,p1,hx,hd⟩|⟨hk2,hd⟩
   ·
    have hk:=(List.getElem?_eq_some_iff.1 p1).1
    refine Tr.seq (Tr.ds hmx [] (.k (mv .k (.b 3 rfl)) (.k (mv .k (.b 0 rfl)) (.k (len_ .k rwS (.g 1 rfl) (by rw [List.length_map])) (.k (lt_ .k (.g 0 rfl) (.g 2 rfl) (dT (by omega))) (.k (mv .k (.g 3 rfl)) (.k (mv (.o 4 rfl rfl rfl) (.b 0 rfl)) (.k (mv (.o 4 rfl rfl rfl) (.b 3 rfl)) (.k (idx_ (.o 4 rfl rfl rfl) rwS (.g 5 rfl) (.g 6 rfl) rfl (gm p1)) (.k (ld_at (.o 4 rfl rfl rfl) (.g 7 rfl) tyS rfl (show _=sgv (_,_) from rfl)) (.k (ld (.o 4 rfl rfl rfl) (.b 1 rfl) tyS) (.k (eqS_ (.o 4 rfl rfl rfl) sG (.g 8 rfl) (.g 9 rfl) (eqSg _ _) (sg_self _)) (.k (pickT .k (.g 4 rfl) (.g 10 rfl)) .n)))))))))))) [0,1,2,3] [11] rfl rfl ?_)
    refine Tr.cond 4 rfl (fun _=>?_) nofun
    refine Tr.reg [(3,2)] (.k (mv .k (.b 3 rfl)) (.k (add_ .k (.g 0 rfl) .c (wr1 (by omega))) (.k (asg .k (.g 1 rfl)) .n))) [0,1,2] [2] rfl rfl (Nx.go (Tr.rs [(2,0),(1000,3),(1003,4)] (.k (omv .k (.inr rfl) (.b 2 rfl)) (.k (ld .k (.b 1 rfl) tyS) (.k (mkrow .k rwS (.k (.g 1 rfl) .n) rfl rfl (by kernel_rfl)) (.k (oapp_ .k apS (.g 0 rfl) (.g 2 rfl) (by decide) ⟨(show _=(l.take k++[nrm s0]).map sgc by rw [List.map_append];rfl),⟨rfl,rfl⟩,by rw [List.length_map,List.length_take];omega⟩) (.k (omv .k (.inl rfl) (.g 3 rfl)) .n))))) [0,3] [4] rfl rfl ?_))
    refine Tr.rs [(2,0),(1000,4),(1004,5)] (.k (omv .k (.inr rfl) (.b 2 rfl)) (.k (mv .k (.b 0 rfl)) (.k (mv .k (.b 1 rfl)) (.k (slcL .k rwS (.g 1 rfl) (.g 2 rfl) rfl (by rw [List.length_map];omega)) (.k (oapa .k apS (.g 0 rfl) (.g 3 rfl) (by decide) ⟨(show _=(layS l s0).map sgc by rw [hat,hd,List.map_append (l₂:=l.drop (k+1)),List.map_drop]),(by rw [← List.map_drop];exact seg_all _),by rw [List.length_map,List.length_append,List.length_take,List.length_drop,List.length_map,List.length_cons,List.length_nil];omega⟩) (.k (frz .k (.inl rfl) (.g 4 rfl)) .n)))))) [] [5] rfl rfl ?_
    refine Tr.ret (end_tmp 0 rfl rfl)
   ·
    have hk:=(List.getElem?_eq_some_iff.1 p1).1
    refine Tr.seq (Tr.ds hmx [] (.k (mv .k (.b 3 rfl)) (.k (mv .k (.b 0 rfl)) (.k (len_ .k rwS (.g 1 rfl) (by rw [List.length_map])) (.k (lt_ .k (.g 0 rfl) (.g 2 rfl) (dT (by omega))) (.k (mv .k (.g 3 rfl)) (.k (mv (.o 4 rfl rfl rfl) (.b 0 rfl)) (.k (mv (.o 4 rfl rfl rfl) (.b 3 rfl)) (.k (idx_ (.o 4 rfl rfl rfl) rwS (.g 5 rfl) (.g 6 rfl) rfl (gm p1)) (.k (ld_at (.o 4 rfl rfl rfl) (.g 7 rfl) tyS rfl (show _=sgv (_,_) from rfl)) (.k (ld (.o 4 rfl rfl rfl) (.b 1 rfl) tyS) (.k (eqS_ (.o 4 rfl rfl rfl) sG (.g 8 rfl) (.g 9 rfl) (eqSg _ _) (sg_nq hx)) (.k (pickT .k (.g 4 rfl) (.g 10 rfl)) .n)))))))))))) [0,1,2,3] [11] rfl rfl ?_)
    refine Tr.cond 4 rfl nofun (fun _=>?_)
    refine Tr.skip (Nx.go (Tr.rs [(2,0),(1000,3),(1003,4)] (.k (omv .k (.inr rfl) (.b 2 rfl)) (.k (ld .k (.b 1 rfl) tyS) (.k (mkrow .k rwS (.k (.g 1 rfl) .n) rfl rfl (by kernel_rfl)) (.k (oapp_ .k apS (.g 0 rfl) (.g 2 rfl) (by decide) ⟨(show _=(l.take k++[nrm s0]).map sgc by rw [List.map_append];rfl),⟨rfl,rfl⟩,by rw [List.length_map,List.length_take];omega⟩) (.k (omv .k (.inl rfl) (.g 3 rfl)) .n))))) [0,3] [4] rfl rfl ?_))
    refine Tr.rs [(2,0),(1000,4),(1004,5)] (.k (omv .k (.inr rfl) (.b 2 rfl)) (.k (mv .k (.b 0 rfl)) (.k (mv .k (.b 1 rfl)) (.k (slcL .k rwS (.g 1 rfl) (.g 2 rfl) rfl (by rw [List.length_map];omega)) (.k (oapa .k apS (.g 0 rfl) (.g 3 rfl) (by decide) ⟨(show _=(layS l s0).map sgc by rw [hat,hd,List.map_append (l₂:=l.drop k),List.map_drop]),(by rw [← List.map_drop];exact seg_all _),by rw [List.length_map,List.length_append,List.length_take,List.length_drop,List.length_map,List.length_cons,List.length_nil];omega⟩) (.k (frz .k (.inl rfl) (.g 4 rfl)) .n)))))) [] [5] rfl rfl ?_
    refine Tr.ret (end_tmp 0 rfl rfl)
   ·
    refine Tr.seq (Tr.ds hmx [] (.k (mv .k (.b 3 rfl)) (.k (mv .k (.b 0 rfl)) (.k (len_ .k rwS (.g 1 rfl) (by rw [List.length_map])) (.k (lt_ .k (.g 0 rfl) (.g 2 rfl) (dF (by omega))) (.k (mv .k (.g 3 rfl)) (.k (skp (.o 4 rfl rfl rfl)) (.k (skp (.o 4 rfl rfl rfl)) (.k (skp (.o 4 rfl rfl rfl)) (.k (skp (.o 4 rfl rfl rfl)) (.k (skp (.o 4 rfl rfl rfl)) (.k (skp (.o 4 rfl rfl rfl)) (.k (pickF .k (.g 4 rfl) .c) .n)))))))))))) [0,1,2,3] [11] rfl rfl ?_)
    refine Tr.cond 4 rfl nofun (fun _=>?_)
    refine Tr.skip (Nx.go (Tr.rs [(2,0),(1000,3),(1003,4)] (.k (omv .k (.inr rfl) (.b 2 rfl)) (.k (ld .k (.b 1 rfl) tyS) (.k (mkrow .k rwS (.k (.g 1 rfl) .n) rfl rfl (by kernel_rfl)) (.k (oapp_ .k apS (.g 0 rfl) (.g 2 rfl) (by decide) ⟨(show _=(l.take k++[nrm s0]).map sgc by rw [List.map_append];rfl),⟨rfl,rfl⟩,by rw [List.length_map,List.length_take];omega⟩) (.k (omv .k (.inl rfl) (.g 3 rfl)) .n))))) [0,3] [4] rfl rfl ?_))
    refine Tr.rs [(2,0),(1000,4),(1004,5)] (.k (omv .k (.inr rfl) (.b 2 rfl)) (.k (mv .k (.b 0 rfl)) (.k (mv .k (.b 1 rfl)) (.k (slcL .k rwS (.g 1 rfl) (.g 2 rfl) rfl (by rw [List.length_map];omega)) (.k (oapa .k apS (.g 0 rfl) (.g 3 rfl) (by decide) ⟨(show _=(layS l s0).map sgc by rw [hat,hd,List.map_append (l₂:=l.drop k),List.map_drop]),(by rw [← List.map_drop];exact seg_all _),by rw [List.length_map,List.length_append,List.length_take,List.length_drop,List.length_map,List.length_cons,List.length_nil];omega⟩) (.k (frz .k (.inl rfl) (.g 4 rfl)) .n)))))) [] [5] rfl rfl ?_
    refine Tr.ret (end_tmp 0 rfl rfl)
  ·
   have hk:=(List.getElem?_eq_some_iff.1 p1).1
   have hlt:¬ ltS x (nrm s0):=by unfold ltS;omega
   have hat:=lay_at (s0:=s0) hinv.1 hinv.2 (fun y hy=>by rw [p1] at hy;cases hy;exact hlt)
   refine Tr.seq (Tr.ds hmx [] (.k (mv .k (.b 3 rfl)) (.k (mv .k (.b 0 rfl)) (.k (len_ .k rwS (.g 1 rfl) (by rw [List.length_map])) (.k (lt_ .k (.g 0 rfl) (.g 2 rfl) (dT (by omega))) (.k (mv .k (.g 3 rfl)) (.k (mv (.o 4 rfl rfl rfl) (.b 0 rfl)) (.k (mv (.o 4 rfl rfl rfl) (.b 3 rfl)) (.k (idx_ (.o 4 rfl rfl rfl) rwS (.g 5 rfl) (.g 6 rfl) rfl (gm p1)) (.k (fat (.o 4 rfl rfl rfl) (.g 7 rfl) aSA rfl) (.k (ldc_at (.o 4 rfl rfl rfl) (.g 8 rfl) tyI) (.k (faddr (.o 4 rfl rfl rfl) (.b 1 rfl) rfl fSA) (.k (ldc (.o 4 rfl rfl rfl) (.g 10 rfl) (.b 1 rfl) tyI) (.k (lt_ (.o 4 rfl rfl rfl) (.g 9 rfl) (.g 11 rfl) (dF (by omega))) (.k (mv (.o 4 rfl rfl rfl) (.g 12 rfl)) (.k (mv (.o 13 rfl rfl rfl) (.b 0 rfl)) (.k (mv (.o 13 rfl rfl rfl) (.b 3 rfl)) (.k (idx_ (.o 13 rfl rfl rfl) rwS (.g 14 rfl) (.g 15 rfl) rfl (gm p1)) (.k (fat (.o 13 rfl rfl rfl) (.g 16 rfl) aSA rfl) (.k (ldc_at (.o 13 rfl rfl rfl) (.g 17 rfl) tyI) (.k (faddr (.o 13 rfl rfl rfl) (.b 1 rfl) rfl fSA) (.k (ldc (.o 13 rfl rfl rfl) (.g 19 rfl) (.b 1 rfl) tyI) (.k (eq_ (.o 13 rfl rfl rfl) (.g 18 rfl) (.g 20 rfl) (beq_eq_false_iff_ne.2 (by omega))) (.k (mv (.o 13 rfl rfl rfl) (.g 21 rfl)) (.k (skp (.o 22 rfl rfl rfl)) (.k (skp (.o 22 rfl rfl rfl)) (.k (skp (.o 22 rfl rfl rfl)) (.k (skp (.o 22 rfl rfl rfl)) (.k (skp (.o 22 rfl rfl rfl)) (.k (skp (.o 22 rfl rfl rfl)) (.k (skp (.o 22 rfl rfl rfl)) (.k (skp (.o 22 rfl rfl rfl)) (.k (pickF (.o 13 rfl rfl rfl) (.g 22 rfl) .c) (.k (pickF (.o 4 rfl rfl rfl) (.g 13 rfl) (.g 31 rfl)) (.k (pickT .k (.g 4 rfl) (.g 32 rfl)) .n)))))))))))))))))))))))))))))))))) [0,1,2,3] [33] rfl rfl ?_)
   refine Tr.cond 4 rfl nofun (fun _=>?_)
   refine Tr.exit (Nx.thX (Nx.thX (Nx.bkX (Nx.go (?_)))))
   rcases is_ways l k (nrm s0) with ⟨p1,hd⟩|⟨x,p1,hx,hd⟩|⟨hk2,hd⟩
   ·
    have hk:=(List.getElem?_eq_some_iff.1 p1).1
    refine Tr.seq (Tr.ds hmx [] (.k (mv .k (.b 3 rfl)) (.k (mv .k (.b 0 rfl)) (.k (len_ .k rwS (.g 1 rfl) (by rw [List.length_map])) (.k (lt_ .k (.g 0 rfl) (.g 2 rfl) (dT (by omega))) (.k (mv .k (.g 3 rfl)) (.k (mv (.o 4 rfl rfl rfl) (.b 0 rfl)) (.k (mv (.o 4 rfl rfl rfl) (.b 3 rfl)) (.k (idx_ (.o 4 rfl rfl rfl) rwS (.g 5 rfl) (.g 6 rfl) rfl (gm p1)) (.k (ld_at (.o 4 rfl rfl rfl) (.g 7 rfl) tyS rfl (show _=sgv (_,_) from rfl)) (.k (ld (.o 4 rfl rfl rfl) (.b 1 rfl) tyS) (.k (eqS_ (.o 4 rfl rfl rfl) sG (.g 8 rfl) (.g 9 rfl) (eqSg _ _) (sg_self _)) (.k (pickT .k (.g 4 rfl) (.g 10 rfl)) .n)))))))))))) [0,1,2,3] [11] rfl rfl ?_)
    refine Tr.cond 4 rfl (fun _=>?_) nofun
    refine Tr.reg [(3,2)] (.k (mv .k (.b 3 rfl)) (.k (add_ .k (.g 0 rfl) .c (wr1 (by omega))) (.k (asg .k (.g 1 rfl)) .n))) [0,1,2] [2] rfl rfl (Nx.go (Tr.rs [(2,0),(1000,3),(1003,4)] (.k (omv .k (.inr rfl) (.b 2 rfl)) (.k (ld .k (.b 1 rfl) tyS) (.k (mkrow .k rwS (.k (.g 1 rfl) .n) rfl rfl (by kernel_rfl)) (.k (oapp_ .k apS (.g 0 rfl) (.g 2 rfl) (by decide) ⟨(show _=(l.take k++[nrm s0]).map sgc by rw [List.map_append];rfl),⟨rfl,rfl⟩,by rw [List.length_map,List.length_take];omega⟩) (.k (omv .k (.inl rfl) (.g 3 rfl)) .n))))) [0,3] [4] rfl rfl ?_))
    refine Tr.rs [(2,0),(1000,4),(1004,5)] (.k (omv .k (.inr rfl) (.b 2 rfl)) (.k (mv .k (.b 0 rfl)) (.k (mv .k (.b 1 rfl)) (.k (slcL .k rwS (.g 1 rfl) (.g 2 rfl) rfl (by rw [List.length_map];omega)) (.k (oapa .k apS (.g 0 rfl) (.g 3 rfl) (by decide) ⟨(show _=(layS l s0).map sgc by rw [hat,hd,List.map_append (l₂:=l.drop (k+1)),List.map_drop]),(by rw [← List.map_drop];exact seg_all _),by rw [List.length_map,List.length_append,List.length_take,List.length_drop,List.length_map,List.length_cons,List.length_nil];omega⟩) (.k (frz .k (.inl rfl) (.g 4 rfl)) .n)))))) [] [5] rfl rfl ?_
    refine Tr.ret (end_tmp 0 rfl rfl)
   ·
    have hk:=(List.getElem?_eq_some_iff.1 p1).1
    refine Tr.seq (Tr.ds hmx [] (.k (mv .k (.b 3 rfl)) (.k (mv .k (.b 0 rfl)) (.k (len_ .k rwS (.g 1 rfl) (by rw [List.length_map])) (.k (lt_ .k (.g 0 rfl) (.g 2 rfl) (dT (by omega))) (.k (mv .k (.g 3 rfl)) (.k (mv (.o 4 rfl rfl rfl) (.b 0 rfl)) (.k (mv (.o 4 rfl rfl rfl) (.b 3 rfl)) (.k (idx_ (.o 4 rfl rfl rfl) rwS (.g 5 rfl) (.g 6 rfl) rfl (gm p1)) (.k (ld_at (.o 4 rfl rfl rfl) (.g 7 rfl) tyS rfl (show _=sgv (_,_) from rfl)) (.k (ld (.o 4 rfl rfl rfl) (.b 1 rfl) tyS) (.k (eqS_ (.o 4 rfl rfl rfl) sG (.g 8 rfl) (.g 9 rfl) (eqSg _ _) (sg_nq hx)) (.k (pickT .k (.g 4 rfl) (.g 10 rfl)) .n)))))))))))) [0,1,2,3] [11] rfl rfl ?_)
    refine Tr.cond 4 rfl nofun (fun _=>?_)
    refine Tr.skip (Nx.go (Tr.rs [(2,0),(1000,3),(1003,4)] (.k (omv .k (.inr rfl) (.b 2 rfl)) (.k (ld .k (.b 1 rfl) tyS) (.k (mkrow .k rwS (.k (.g 1 rfl) .n) rfl rfl (by kernel_rfl)) (.k (oapp_ .k apS (.g 0 rfl) (.g 2 rfl) (by decide) ⟨(show _=(l.take k++[nrm s0]).map sgc by rw [List.map_append];rfl),⟨rfl,rfl⟩,by rw [List.length_map,List.length_take];omega⟩) (.k (omv .k (.inl rfl) (.g 3 rfl)) .n))))) [0,3] [4] rfl rfl ?_))
    refine Tr.rs [(2,0),(1000,4),(1004,5)] (.k (omv .k (.inr rfl) (.b 2 rfl)) (.k (mv .k (.b 0 rfl)) (.k (mv .k (.b 1 rfl)) (.k (slcL .k rwS (.g 1 rfl) (.g 2 rfl) rfl (by rw [List.length_map];omega)) (.k (oapa .k apS (.g 0 rfl) (.g 3 rfl) (by decide) ⟨(show _=(layS l s0).map sgc by rw [hat,hd,List.map_append (l₂:=l.drop k),List.map_drop]),(by rw [← List.map_drop];exact seg_all _),by rw [List.length_map,List.length_append,List.length_take,List.length_drop,List.length_map,List.length_cons,List.length_nil];omega⟩) (.k (frz .k (.inl rfl) (.g 4 rfl)) .n)))))) [] [5] rfl rfl ?_
    refine Tr.ret (end_tmp 0 rfl rfl)
   ·
    refine Tr.seq (Tr.ds hmx [] (.k (mv .k (.b 3 rfl)) (.k (mv .k (.b 0 rfl)) (.k (len_ .k rwS (.g 1 rfl) (by rw [List.length_map])) (.k (lt_ .k (.g 0 rfl) (.g 2 rfl) (dF (by omega))) (.k (mv .k (.g 3 rfl)) (.k (skp (.o 4 rfl rfl rfl)) (.k (skp (.o 4 rfl rfl rfl)) (.k (skp (.o 4 rfl rfl rfl)) (.k (skp (.o 4 rfl rfl rfl)) (.k (skp (.o 4 rfl rfl rfl)) (.k (skp (.o 4 rfl rfl rfl)) (.k (pickF .k (.g 4 rfl) .c) .n)))))))))))) [0,1,2,3] [11] rfl rfl ?_)
    refine Tr.cond 4 rfl nofun (fun _=>?_)
    refine Tr.skip (Nx.go (Tr.rs [(2,0),(1000,3),(1003,4)] (.k (omv .k (.inr rfl) (.b 2 rfl)) (.k (ld .k (.b 1 rfl) tyS) (.k (mkrow .k rwS (.k (.g 1 rfl) .n) rfl rfl (by kernel_rfl)) (.k (oapp_ .k apS (.g 0 rfl) (.g 2 rfl) (by decide) ⟨(show _=(l.take k++[nrm s0]).map sgc by rw [List.map_append];rfl),⟨rfl,rfl⟩,by rw [List.length_map,List.length_take];omega⟩) (.k (omv .k (.inl rfl) (.g 3 rfl)) .n))))) [0,3] [4] rfl rfl ?_))
    refine Tr.rs [(2,0),(1000,4),(1004,5)] (.k (omv .k (.inr rfl) (.b 2 rfl)) (.k (mv .k (.b 0 rfl)) (.k (mv .k (.b 1 rfl)) (.k (slcL .k rwS (.g 1 rfl) (.g 2 rfl) rfl (by rw [List.length_map];omega)) (.k (oapa .k apS (.g 0 rfl) (.g 3 rfl) (by decide) ⟨(show _=(layS l s0).map sgc by rw [hat,hd,List.map_append (l₂:=l.drop k),List.map_drop]),(by rw [← List.map_drop];exact seg_all _),by rw [List.length_map,List.length_append,List.length_take,List.length_drop,List.length_map,List.length_cons,List.length_nil];omega⟩) (.k (frz .k (.inl rfl) (.g 4 rfl)) .n)))))) [] [5] rfl rfl ?_
    refine Tr.ret (end_tmp 0 rfl rfl)
  ·
   have hat:=lay_at (s0:=s0) hinv.1 hinv.2 (fun y hy=>absurd (List.getElem?_eq_some_iff.1 hy).1 hk')
   refine Tr.seq (Tr.ds hmx [] (.k (mv .k (.b 3 rfl)) (.k (mv .k (.b 0 rfl)) (.k (len_ .k rwS (.g 1 rfl) (by rw [List.length_map])) (.k (lt_ .k (.g 0 rfl) (.g 2 rfl) (dF (by omega))) (.k (mv .k (.g 3 rfl)) (.k (skp (.o 4 rfl rfl rfl)) (.k (skp (.o 4 rfl rfl rfl)) (.k (skp (.o 4 rfl rfl rfl)) (.k (skp (.o 4 rfl rfl rfl)) (.k (skp (.o 4 rfl rfl rfl)) (.k (skp (.o 4 rfl rfl rfl)) (.k (skp (.o 4 rfl rfl rfl)) (.k (skp (.o 4 rfl rfl rfl)) (.k (skpu (.o 4 rfl rfl rfl)) (.k (skpn (.g 13 rfl) rfl) (.k (skpn (.g 13 rfl) rfl) (.k (skpn (.g 13 rfl) rfl) (.k (skpn (.g 13 rfl) rfl) (.k (skpn (.g 13 rfl) rfl) (.k (skpn (.g 13 rfl) rfl) (.k (skpn (.g 13 rfl) rfl) (.k (skpn (.g 13 rfl) rfl) (.k (skpnu (.g 13 rfl) rfl) (.k (skpn (.g 22 rfl) rfl) (.k (skpn (.g 22 rfl) rfl) (.k (skpn (.g 22 rfl) rfl) (.k (skpn (.g 22 rfl) rfl) (.k (skpn (.g 22 rfl) rfl) (.k (skpn (.g 22 rfl) rfl) (.k (skpn (.g 22 rfl) rfl) (.k (skpn (.g 22 rfl) rfl) (.k (skpn (.g 13 rfl) rfl) (.k (skp (.o 4 rfl rfl rfl)) (.k (pickF .k (.g 4 rfl) .c) .n)))))))))))))))))))))))))))))))))) [0,1,2,3] [33] rfl rfl ?_)
   refine Tr.cond 4 rfl nofun (fun _=>?_)
   refine Tr.exit (Nx.thX (Nx.thX (Nx.bkX (Nx.go (?_)))))
   rcases is_ways l k (nrm s0) with ⟨p1,hd⟩|⟨x,p1,hx,hd⟩|⟨hk2,hd⟩
   ·
    have hk:=(List.getElem?_eq_some_iff.1 p1).1
    refine Tr.seq (Tr.ds hmx [] (.k (mv .k (.b 3 rfl)) (.k (mv .k (.b 0 rfl)) (.k (len_ .k rwS (.g 1 rfl) (by rw [List.length_map])) (.k (lt_ .k (.g 0 rfl) (.g 2 rfl) (dT (by omega))) (.k (mv .k (.g 3 rfl)) (.k (mv (.o 4 rfl rfl rfl) (.b 0 rfl)) (.k (mv (.o 4 rfl rfl rfl) (.b 3 rfl)) (.k (idx_ (.o 4 rfl rfl rfl) rwS (.g 5 rfl) (.g 6 rfl) rfl (gm p1)) (.k (ld_at (.o 4 rfl rfl rfl) (.g 7 rfl) tyS rfl (show _=sgv (_,_) from rfl)) (.k (ld (.o 4 rfl rfl rfl) (.b 1 rfl) tyS) (.k (eqS_ (.o 4 rfl rfl rfl) sG (.g 8 rfl) (.g 9 rfl) (eqSg _ _) (sg_self _)) (.k (pickT .k (.g 4 rfl) (.g 10 rfl)) .n)))))))))))) [0,1,2,3] [11] rfl rfl ?_)
    refine Tr.cond 4 rfl (fun _=>?_) nofun
    refine Tr.reg [(3,2)] (.k (mv .k (.b 3 rfl)) (.k (add_ .k (.g 0 rfl) .c (wr1 (by omega))) (.k (asg .k (.g 1 rfl)) .n))) [0,1,2] [2] rfl rfl (Nx.go (Tr.rs [(2,0),(1000,3),(1003,4)] (.k (omv .k (.inr rfl) (.b 2 rfl)) (.k (ld .k (.b 1 rfl) tyS) (.k (mkrow .k rwS (.k (.g 1 rfl) .n) rfl rfl (by kernel_rfl)) (.k (oapp_ .k apS (.g 0 rfl) (.g 2 rfl) (by decide) ⟨(show _=(l.take k++[nrm s0]).map sgc by rw [List.map_append];rfl),⟨rfl,rfl⟩,by rw [List.length_map,List.length_take];omega⟩) (.k (omv .k (.inl rfl) (.g 3 rfl)) .n))))) [0,3] [4] rfl rfl ?_))
    refine Tr.rs [(2,0),(1000,4),(1004,5)] (.k (omv .k (.inr rfl) (.b 2 rfl)) (.k (mv .k (.b 0 rfl)) (.k (mv .k (.b 1 rfl)) (.k (slcL .k rwS (.g 1 rfl) (.g 2 rfl) rfl (by rw [List.length_map];omega)) (.k (oapa .k apS (.g 0 rfl) (.g 3 rfl) (by decide) ⟨(show _=(layS l s0).map sgc by rw [hat,hd,List.map_append (l₂:=l.drop (k+1)),List.map_drop]),(by rw [← List.map_drop];exact seg_all _),by rw [List.length_map,List.length_append,List.length_take,List.length_drop,List.length_map,List.length_cons,List.length_nil];omega⟩) (.k (frz .k (.inl rfl) (.g 4 rfl)) .n)))))) [] [5] rfl rfl ?_
    refine Tr.ret (end_tmp 0 rfl rfl)
   ·
    have hk:=(List.getElem?_eq_some_iff.1 p1).1
    refine Tr.seq (Tr.ds hmx [] (.k (mv .k (.b 3 rfl)) (.k (mv .k (.b 0 rfl)) (.k (len_ .k rwS (.g 1 rfl) (by rw [List.length_map])) (.k (lt_ .k (.g 0 rfl) (.g 2 rfl) (dT (by omega))) (.k (mv .k (.g 3 rfl)) (.k (mv (.o 4 rfl rfl rfl) (.b 0 rfl)) (.k (mv (.o 4 rfl rfl rfl) (.b 3 rfl)) (.k (idx_ (.o 4 rfl rfl rfl) rwS (.g 5 rfl) (.g 6 rfl) rfl (gm p1)) (.k (ld_at (.o 4 rfl rfl rfl) (.g 7 rfl) tyS rfl (show _=sgv (_,_) from rfl)) (.k (ld (.o 4 rfl rfl rfl) (.b 1 rfl) tyS) (.k (eqS_ (.o 4 rfl rfl rfl) sG (.g 8 rfl) (.g 9 rfl) (eqSg _ _) (sg_nq hx)) (.k (pickT .k (.g 4 rfl) (.g 10 rfl)) .n)))))))))))) [0,1,2,3] [11] rfl rfl ?_)
    refine Tr.cond 4 rfl nofun (fun _=>?_)
    refine Tr.skip (Nx.go (Tr.rs [(2,0),(1000,3),(1003,4)] (.k (omv .k (.inr rfl) (.b 2 rfl)) (.k (ld .k (.b 1 rfl) tyS) (.k (mkrow .k rwS (.k (.g 1 rfl) .n) rfl rfl (by kernel_rfl)) (.k (oapp_ .k apS (.g 0 rfl) (.g 2 rfl) (by decide) ⟨(show _=(l.take k++[nrm s0]).map sgc by rw [List.map_append];rfl),⟨rfl,rfl⟩,by rw [List.length_map,List.length_take];omega⟩) (.k (omv .k (.inl rfl) (.g 3 rfl)) .n))))) [0,3] [4] rfl rfl ?_))
    refine Tr.rs [(2,0),(1000,4),(1004,5)] (.k (omv .k (.inr rfl) (.b 2 rfl)) (.k (mv .k (.b 0 rfl)) (.k (mv .k (.b 1 rfl)) (.k (slcL .k rwS (.g 1 rfl) (.g 2 rfl) rfl (by rw [List.length_map];omega)) (.k (oapa .k apS (.g 0 rfl) (.g 3 rfl) (by decide) ⟨(show _=(layS l s0).map sgc by rw [hat,hd,List.map_append (l₂:=l.drop k),List.map_drop]),(by rw [← List.map_drop];exact seg_all _),by rw [List.length_map,List.length_append,List.length_take,List.length_drop,List.length_map,List.length_cons,List.length_nil];omega⟩) (.k (frz .k (.inl rfl) (.g 4 rfl)) .n)))))) [] [5] rfl rfl ?_
    refine Tr.ret (end_tmp 0 rfl rfl)
   ·
    refine Tr.seq (Tr.ds hmx [] (.k (mv .k (.b 3 rfl)) (.k (mv .k (.b 0 rfl)) (.k (len_ .k rwS (.g 1 rfl) (by rw [List.length_map])) (.k (lt_ .k (.g 0 rfl) (.g 2 rfl) (dF (by omega))) (.k (mv .k (.g 3 rfl)) (.k (skp (.o 4 rfl rfl rfl)) (.k (skp (.o 4 rfl rfl rfl)) (.k (skp (.o 4 rfl rfl rfl)) (.k (skp (.o 4 rfl rfl rfl)) (.k (skp (.o 4 rfl rfl rfl)) (.k (skp (.o 4 rfl rfl rfl)) (.k (pickF .k (.g 4 rfl) .c) .n)))))))))))) [0,1,2,3] [11] rfl rfl ?_)
    refine Tr.cond 4 rfl nofun (fun _=>?_)
    refine Tr.skip (Nx.go (Tr.rs [(2,0),(1000,3),(1003,4)] (.k (omv .k (.inr rfl) (.b 2 rfl)) (.k (ld .k (.b 1 rfl) tyS) (.k (mkrow .k rwS (.k (.g 1 rfl) .n) rfl rfl (by kernel_rfl)) (.k (oapp_ .k apS (.g 0 rfl) (.g 2 rfl) (by decide) ⟨(show _=(l.take k++[nrm s0]).map sgc by rw [List.map_append];rfl),⟨rfl,rfl⟩,by rw [List.length_map,List.length_take];omega⟩) (.k (omv .k (.inl rfl) (.g 3 rfl)) .n))))) [0,3] [4] rfl rfl ?_))
    refine Tr.rs [(2,0),(1000,4),(1004,5)] (.k (omv .k (.inr rfl) (.b 2 rfl)) (.k (mv .k (.b 0 rfl)) (.k (mv .k (.b 1 rfl)) (.k (slcL .k rwS (.g 1 rfl) (.g 2 rfl) rfl (by rw [List.length_map];omega)) (.k (oapa .k apS (.g 0 rfl) (.g 3 rfl) (by decide) ⟨(show _=(layS l s0).map sgc by rw [hat,hd,List.map_append (l₂:=l.drop k),List.map_drop]),(by rw [← List.map_drop];exact seg_all _),by rw [List.length_map,List.length_append,List.length_take,List.length_drop,List.length_map,List.length_cons,List.length_nil];omega⟩) (.k (frz .k (.inl rfl) (.g 4 rfl)) .n)))))) [] [5] rfl rfl ?_
    refine Tr.ret (end_tmp 0 rfl rfl)
theorem fn_segs {P L I:List (Int × Int)} (hP:P.length≤14) (hL:L.length≤30) (hI:I.length≤30):FnC Tryz.prog 77 [SP.poly P L I] (svec (segL (L++I))):=by
 refine FnC.of (N:=21) Tryz.func77 rfl rfl (Nat.le_of_ble_eq_true rfl) (fun w0 ok0=>?_)
 refine Tr.rs [] (.k (bxx .k (.b 0 rfl)) (.k (nilv (sz:=2) .k (.inl rfl)) .n)) [] [0] rfl rfl ?_
 refine Tr.rs [] (.k (nilv (sz:=2) .k (.inl rfl)) .n) [0] [0] rfl rfl ?_
 refine Tr.rs [] (.k (ld .k (.b 0 rfl) tyQ) (.k (cal .k Tryz.func106 rfl (fn_All10 hP hL hI) (.k (.g 0 rfl) .n)) (.k (asg .k (.g 1 rfl)) .n))) [1] [2] rfl rfl ?_
 have hLI:(L++I).length=L.length+I.length:=List.length_append
 refine Tr.seq (Tr.rs [] (.k (asg .k .c) .n) [0,1] [0] rfl rfl ?_)
 refine Tr.block (?_)
 refine Tr.loop (fun n_ F_=>∃ k:Nat,(k≤(L++I).length)∧n_=(L++I).length - k∧F_=[.s 3 (svec (segL ((L++I).take k))),.s 4 (svec (L++I)),.s 5 (iv ((k:Nat):Int))]) ((L++I).length - 0) (F0:=[.s 3 (svec (segL ((L++I).take 0))),.s 4 (svec (L++I)),.s 5 (iv ((0:Nat):Int))]) ⟨0,Nat.zero_le _,rfl,rfl⟩ (Sub.all (.cons 0 rfl (.cons 1 rfl (.cons 2 rfl .nil)))) (fun n_ F_ hI=>?_)
 obtain ⟨k,hinv,rfl,rfl⟩:=hI
 refine Tr.seq (Tr.rs [] (.k (mv .k (.b 2 rfl)) (.k (mv .k (.b 1 rfl)) (.k (len_ .k rwS (.g 1 rfl) (by rw [List.length_map])) (.k (lt_ .k (.g 0 rfl) (.g 2 rfl) rfl) .n)))) [0,1,2] [3] rfl rfl ?_)
 refine Tr.cond 3 rfl (fun e11=>?_) (fun e11=>?_)
 ·
  have hk2:k < (L++I).length:=by have:=of_decide_eq_true e11;omega
  refine Tr.skip (Nx.go (Tr.seq (Tr.block (?_))))
  obtain ⟨s,p1⟩:∃ s,(L++I)[k]?=some s:=⟨_,List.getElem?_eq_getElem hk2⟩;have hll:=segL_len (L++I) k (by omega)
  refine Tr.reg [(0,6)] (.k (mv .k (.b 0 rfl)) (.k (mv .k (.b 1 rfl)) (.k (mv .k (.b 2 rfl)) (.k (idx_ .k rwS (.g 1 rfl) (.g 2 rfl) rfl (gm p1)) (.k (ld_at .k (.g 3 rfl) tyS rfl (show _=sgv (_,_) from rfl)) (.k (cal .k Tryz.func105 rfl (show FnC _ _ _ (svec (segL ((L++I).take (k+1)))) from segL_succ p1 ▸ fn_Lay (by omega)) (.k (.g 0 rfl) (.k (.g 4 rfl) .n))) (.k (asg .k (.g 5 rfl)) .n))))))) [1,2] [6] rfl rfl (Nx.bkN (Nx.go (Tr.reg [(1,2)] (.k (mv .k (.b 1 rfl)) (.k (add_ .k (.g 0 rfl) .c (wr1 (by omega))) (.k (asg .k (.g 1 rfl)) .n))) [0,2] [2] rfl rfl (Nx.again ((L++I).length - (k+1)) (by omega) [.s 3 (svec (segL ((L++I).take (k+1)))),.s 4 (svec (L++I)),.s 5 (iv (((k+1):Nat):Int))] ⟨(k+1),(by omega),rfl,rfl⟩ (Sub.all (.cons 1 rfl (.cons 0 rfl (.cons 2 rfl .nil))))))))
 ·
  obtain rfl:k=(L++I).length:=by have:=of_decide_eq_false e11;omega
  refine Tr.exit (Nx.thX (Nx.thX (Nx.bkX (Nx.go (?_)))))
  rw [List.take_length]
  refine Tr.rs [] (.k (mv .k (.b 0 rfl)) (.k (asg .k (.g 0 rfl)) .n)) [] [1] rfl rfl ?_
  refine Tr.ret (end_tmp 0 rfl rfl)
theorem fn_goes {P L I l:List (Int × Int)} {a b:Int} (hP:P.length≤14) (hL:L.length≤30) (hI:I.length≤30) (hok:okQ P L I) (hLS:inS P L) (hLD:disS P L) (hll:l.length≤1000000) (hl2:inS P l) (hA:InP P a) (hB:InP P b):FnC Tryz.prog 104 [SP.poly P L I,svec l,iv a,iv b] (bv (goesB P L l a b)):=by
 refine FnC.of (N:=99) Tryz.func104 rfl rfl (Nat.le_of_ble_eq_true rfl) (fun w0 ok0=>?_)
 refine Tr.rs [] (.k (bxx .k (.b 0 rfl)) (.k (asg .k .c) .n)) [1,2,3] [0] rfl rfl ?_
 by_cases c0:hasP l a b
 ·
  rw [goes_has c0]
  refine Tr.seq (Tr.rs [] (.k (mv .k (.b 0 rfl)) (.k (mv .k (.b 1 rfl)) (.k (mv .k (.b 2 rfl)) (.k (cal .k Tryz.func53 rfl (fn_HasT hll c0) (.k (.g 0 rfl) (.k (.g 1 rfl) (.k (.g 2 rfl) .n)))) .n)))) [0,1,2,3] [3] rfl rfl ?_)
  refine Tr.cond 4 rfl (fun _=>?_) nofun
  refine Tr.rs [] (.k (asg .k .c) .n) [] [0] rfl rfl ?_
  refine Tr.ret (end_tmp 0 rfl rfl)
 ·
  obtain ⟨ua,ap,ea,ha⟩:=id hA;obtain ⟨ub,bp,eb,hb⟩:=id hB;have na:=(hok.1.at ha).nea1;have nb:=(hok.1.at hb).nea1
  refine Tr.seq (Tr.rs [] (.k (mv .k (.b 0 rfl)) (.k (mv .k (.b 1 rfl)) (.k (mv .k (.b 2 rfl)) (.k (cal .k Tryz.func53 rfl (fn_HasF hll c0) (.k (.g 0 rfl) (.k (.g 1 rfl) (.k (.g 2 rfl) .n)))) .n)))) [0,1,2,3] [3] rfl rfl ?_)
  refine Tr.cond 4 rfl nofun (fun _=>?_)
  refine Tr.skip (Nx.go (Tr.seq (Tr.rs [] (.k (asg .k .c) .n) [0,1,2,3] [0] rfl rfl ?_)))
  refine Tr.block (?_)
  refine Tr.loop (fun n_ F_=>∃ k:Nat,(k≤P.length∧∀ p∈P.take k,insS P (a,b) p=false)∧n_=P.length - k∧F_=[.b 4 (SP.poly P L I) 47 3,.s 1 (svec l),.s 2 (iv a),.s 3 (iv b),.s 9 (iv ((k:Nat):Int))]) (P.length - 0) (F0:=[.b 4 (SP.poly P L I) 47 3,.s 1 (svec l),.s 2 (iv a),.s 3 (iv b),.s 9 (iv ((0:Nat):Int))]) ⟨0,⟨Nat.zero_le _,by simp⟩,rfl,rfl⟩ (Sub.all (.cons 3 rfl (.cons 0 rfl (.cons 1 rfl (.cons 2 rfl (.cons 4 rfl .nil)))))) (fun n_ F_ hI=>?_)
  obtain ⟨k,hinv,rfl,rfl⟩:=hI
  refine Tr.seq (Tr.rs [] (.k (mv .k (.b 4 rfl)) (.k (faddr .k (.b 0 rfl) rfl fQP) (.k (ldc .k (.g 1 rfl) (.b 0 rfl) tyvP) (.k (len_ .k rwP (.g 2 rfl) (by rw [List.length_map])) (.k (lt_ .k (.g 0 rfl) (.g 3 rfl) rfl) .n))))) [0,1,2,3,4] [4] rfl rfl ?_)
  refine Tr.cond 5 rfl (fun e23=>?_) (fun e23=>?_)
  ·
   have hk2:k < P.length:=by have:=of_decide_eq_true e23;omega
   refine Tr.skip (Nx.go (Tr.seq (Tr.block (?_))))
   obtain ⟨p,p1⟩:∃ s,P[k]?=some s:=⟨_,List.getElem?_eq_getElem hk2⟩;have np:=(hok.1.at p1).nea1;have em:insS P (a,b) p=insZ ap.1 ap.2 bp.1 bp.2 p.1 p.2:=by unfold insS;simp only;rw [ea,eb,atP_of ha,atP_of hb]
   refine Tr.ds hmx [] (.k (faddr .k (.b 0 rfl) rfl fQP) (.k (ldc .k (.g 0 rfl) (.b 0 rfl) tyvP) (.k (mv .k (.b 2 rfl)) (.k (idx_ .k rwP (.g 1 rfl) (.g 2 rfl) ea (gm ha)) (.k (ld_at .k (.g 3 rfl) tyP rfl (show _=ptv _ _ from rfl)) (.k (faddr .k (.b 0 rfl) rfl fQP) (.k (ldc .k (.g 5 rfl) (.b 0 rfl) tyvP) (.k (mv .k (.b 3 rfl)) (.k (idx_ .k rwP (.g 6 rfl) (.g 7 rfl) eb (gm hb)) (.k (ld_at .k (.g 8 rfl) tyP rfl (show _=ptv _ _ from rfl)) (.k (faddr .k (.b 0 rfl) rfl fQP) (.k (ldc .k (.g 10 rfl) (.b 0 rfl) tyvP) (.k (mv .k (.b 4 rfl)) (.k (idx_ .k rwP (.g 11 rfl) (.g 12 rfl) rfl (gm p1)) (.k (ld_at .k (.g 13 rfl) tyP rfl (show _=ptv _ _ from rfl)) (.k (cal .k Tryz.func130 rfl (fn_Inside na nb np) (.k (.g 4 rfl) (.k (.g 9 rfl) (.k (.g 14 rfl) .n)))) .n)))))))))))))))) [0,1,2,3,4] [15] rfl rfl ?_
   refine Tr.cond 5 rfl (fun e41=>?_) (fun e41=>?_)
   ·
    rw [goes_ins p1 (em.trans e41)]
    refine Tr.rs [] (.k (asg .k .c) .n) [] [0] rfl rfl ?_
    refine Tr.ret (end_tmp 0 rfl rfl)
   ·
    refine Tr.skip (Nx.bkN (Nx.go (Tr.reg [(4,2)] (.k (mv .k (.b 4 rfl)) (.k (add_ .k (.g 0 rfl) .c (wr1 (by omega))) (.k (asg .k (.g 1 rfl)) .n))) [0,1,2,3] [2] rfl rfl (Nx.again (P.length - (k+1)) (by omega) [.b 4 (SP.poly P L I) 47 3,.s 1 (svec l),.s 2 (iv a),.s 3 (iv b),.s 9 (iv (((k+1):Nat):Int))] ⟨(k+1),⟨by omega,all_succ p1 (em.trans e41) hinv.2⟩,rfl,rfl⟩ (Sub.all (.cons 0 rfl (.cons 1 rfl (.cons 2 rfl (.cons 3 rfl (.cons 4 rfl .nil))))))))))
  ·
   obtain rfl:k=P.length:=by have:=of_decide_eq_false e23;omega
   refine Tr.exit (Nx.thX (Nx.thX (Nx.bkX (Nx.go (Tr.seq (Tr.rs [] (.k (asg .k .c) .n) [0,1,2,3] [0] rfl rfl ?_))))))
   refine Tr.block (?_)
   refine Tr.loop (fun n_ F_=>∃ i:Nat,(i≤l.length∧∀ s∈l.take i,metS P (a,b) s=0∨metS P (a,b) s=1)∧n_=l.length - i∧F_=[.b 4 (SP.poly P L I) 47 3,.s 1 (svec l),.s 2 (iv a),.s 3 (iv b),.s 10 (iv ((i:Nat):Int))]) (l.length - 0) (F0:=[.b 4 (SP.poly P L I) 47 3,.s 1 (svec l),.s 2 (iv a),.s 3 (iv b),.s 10 (iv ((0:Nat):Int))]) ⟨0,⟨Nat.zero_le _,by simp⟩,rfl,rfl⟩ (Sub.all (.cons 0 rfl (.cons 1 rfl (.cons 2 rfl (.cons 3 rfl (.cons 4 rfl .nil)))))) (fun n_ F_ hI=>?_)
   obtain ⟨i,hj,rfl,rfl⟩:=hI
   refine Tr.seq (Tr.rs [] (.k (mv .k (.b 4 rfl)) (.k (mv .k (.b 1 rfl)) (.k (len_ .k rwS (.g 1 rfl) (by rw [List.length_map])) (.k (lt_ .k (.g 0 rfl) (.g 2 rfl) rfl) .n)))) [0,1,2,3,4] [3] rfl rfl ?_)
   refine Tr.cond 5 rfl (fun e45=>?_) (fun e45=>?_)
   ·
    have hi2:i < l.length:=by have:=of_decide_eq_true e45;omega
    refine Tr.skip (Nx.go (Tr.seq (Tr.block (?_))))
    obtain ⟨s,p1⟩:∃ s,l[i]?=some s:=⟨_,List.getElem?_eq_getElem hi2⟩;obtain ⟨⟨uc,cp,ec,hc⟩,ud,dp,ed,hd⟩:=hl2 s (List.mem_of_getElem? p1);have nc:=(hok.1.at hc).nea1;have nd:=(hok.1.at hd).nea1;have em:metS P (a,b) s=(metR ap.1 ap.2 bp.1 bp.2 cp.1 cp.2 dp.1 dp.2).1:=by unfold metS;rw [ec,ed,atP_of hc,atP_of hd];simp only;rw [ea,eb,atP_of ha,atP_of hb]
    refine Tr.ds hmx [] (.k (faddr .k (.b 0 rfl) rfl fQP) (.k (ldc .k (.g 0 rfl) (.b 0 rfl) tyvP) (.k (mv .k (.b 2 rfl)) (.k (idx_ .k rwP (.g 1 rfl) (.g 2 rfl) ea (gm ha)) (.k (ld_at .k (.g 3 rfl) tyP rfl (show _=ptv _ _ from rfl)) (.k (faddr .k (.b 0 rfl) rfl fQP) (.k (ldc .k (.g 5 rfl) (.b 0 rfl) tyvP) (.k (mv .k (.b 3 rfl)) (.k (idx_ .k rwP (.g 6 rfl) (.g 7 rfl) eb (gm hb)) (.k (ld_at .k (.g 8 rfl) tyP rfl (show _=ptv _ _ from rfl)) (.k (faddr .k (.b 0 rfl) rfl fQP) (.k (ldc .k (.g 10 rfl) (.b 0 rfl) tyvP) (.k (mv .k (.b 1 rfl)) (.k (mv .k (.b 4 rfl)) (.k (idx_ .k rwS (.g 12 rfl) (.g 13 rfl) rfl (gm p1)) (.k (fat .k (.g 14 rfl) aSA rfl) (.k (ldc_at .k (.g 15 rfl) tyI) (.k (idx_ .k rwP (.g 11 rfl) (.g 16 rfl) ec (gm hc)) (.k (ld_at .k (.g 17 rfl) tyP rfl (show _=ptv _ _ from rfl)) (.k (faddr .k (.b 0 rfl) rfl fQP) (.k (ldc .k (.g 19 rfl) (.b 0 rfl) tyvP) (.k (mv .k (.b 1 rfl)) (.k (mv .k (.b 4 rfl)) (.k (idx_ .k rwS (.g 21 rfl) (.g 22 rfl) rfl (gm p1)) (.k (fat .k (.g 23 rfl) aSB rfl) (.k (ldc_at .k (.g 24 rfl) tyI) (.k (idx_ .k rwP (.g 20 rfl) (.g 25 rfl) ed (gm hd)) (.k (ld_at .k (.g 26 rfl) tyP rfl (show _=ptv _ _ from rfl)) (.k (cal .k Tryz.func49 rfl (fn_rSegs na nb nc nd) (.k (.g 4 rfl) (.k (.g 9 rfl) (.k (.g 18 rfl) (.k (.g 27 rfl) .n))))) (.k (mv .k (.g 28 rfl)) (.k (exx .k (.g 29 rfl) rfl) (.k (exx .k (.g 29 rfl) rfl) (.k (asg .k (.g 30 rfl)) (.k (asg .k (.g 31 rfl)) .n)))))))))))))))))))))))))))))))))) [0,1,2,3,4] [32] rfl rfl ?_
    rcases and_ways2 ((metR ap.1 ap.2 bp.1 bp.2 cp.1 cp.2 dp.1 dp.2).1≠0) ((metR ap.1 ap.2 bp.1 bp.2 cp.1 cp.2 dp.1 dp.2).1≠1) with c1|⟨c1,c2⟩|⟨c1,c2⟩
    ·
     have hm:metS P (a,b) s=0∨metS P (a,b) s=1 := .inl (em.trans (Classical.not_not.1 c1))
     refine Tr.rs [] (.k (mv .k (.b 5 rfl)) (.k (ne_ .k (.g 0 rfl) .c (bne_eq_false_iff_eq.2 (Classical.not_not.1 c1))) (.k (mv .k (.g 1 rfl)) (.k (skp (.o 2 rfl rfl rfl)) (.k (skp (.o 2 rfl rfl rfl)) (.k (pickF .k (.g 2 rfl) .c) .n)))))) [0,1,2,3,4] [5] rfl rfl ?_
     refine Tr.cond 5 rfl nofun (fun _=>?_)
     refine Tr.skip (Nx.bkN (Nx.go (Tr.reg [(4,2)] (.k (mv .k (.b 4 rfl)) (.k (add_ .k (.g 0 rfl) .c (wr1 (by omega))) (.k (asg .k (.g 1 rfl)) .n))) [0,1,2,3] [2] rfl rfl (Nx.again (l.length - (i+1)) (by omega) [.b 4 (SP.poly P L I) 47 3,.s 1 (svec l),.s 2 (iv a),.s 3 (iv b),.s 10 (iv (((i+1):Nat):Int))] ⟨(i+1),⟨by omega,all_succ p1 hm hj.2⟩,rfl,rfl⟩ (Sub.all (.cons 0 rfl (.cons 1 rfl (.cons 2 rfl (.cons 3 rfl (.cons 4 rfl .nil))))))))))
    ·
     have hm:metS P (a,b) s=0∨metS P (a,b) s=1 := .inr (em.trans (Classical.not_not.1 c2))
     refine Tr.rs [] (.k (mv .k (.b 5 rfl)) (.k (ne_ .k (.g 0 rfl) .c (bne_iff_ne.2 c1)) (.k (mv .k (.g 1 rfl)) (.k (mv (.o 2 rfl rfl rfl) (.b 5 rfl)) (.k (ne_ (.o 2 rfl rfl rfl) (.g 3 rfl) .c (bne_eq_false_iff_eq.2 (Classical.not_not.1 c2))) (.k (pickT .k (.g 2 rfl) (.g 4 rfl)) .n)))))) [0,1,2,3,4] [5] rfl rfl ?_
     refine Tr.cond 5 rfl nofun (fun _=>?_)
     refine Tr.skip (Nx.bkN (Nx.go (Tr.reg [(4,2)] (.k (mv .k (.b 4 rfl)) (.k (add_ .k (.g 0 rfl) .c (wr1 (by omega))) (.k (asg .k (.g 1 rfl)) .n))) [0,1,2,3] [2] rfl rfl (Nx.again (l.length - (i+1)) (by omega) [.b 4 (SP.poly P L I) 47 3,.s 1 (svec l),.s 2 (iv a),.s 3 (iv b),.s 10 (iv (((i+1):Nat):Int))] ⟨(i+1),⟨by omega,all_succ p1 hm hj.2⟩,rfl,rfl⟩ (Sub.all (.cons 0 rfl (.cons 1 rfl (.cons 2 rfl (.cons 3 rfl (.cons 4 rfl .nil))))))))))
    ·
     rw [goes_met p1 ⟨em ▸ c1,em ▸ c2⟩]
     refine Tr.rs [] (.k (mv .k (.b 5 rfl)) (.k (ne_ .k (.g 0 rfl) .c (bne_iff_ne.2 c1)) (.k (mv .k (.g 1 rfl)) (.k (mv (.o 2 rfl rfl rfl) (.b 5 rfl)) (.k (ne_ (.o 2 rfl rfl rfl) (.g 3 rfl) .c (bne_iff_ne.2 c2)) (.k (pickT .k (.g 2 rfl) (.g 4 rfl)) .n)))))) [0,1,2,3,4] [5] rfl rfl ?_
     refine Tr.cond 5 rfl (fun _=>?_) nofun
     refine Tr.rs [] (.k (asg .k .c) .n) [] [0] rfl rfl ?_
     refine Tr.ret (end_tmp 0 rfl rfl)
   ·
    obtain rfl:i=l.length:=by have:=of_decide_eq_false e45;omega
    refine Tr.exit (Nx.thX (Nx.thX (Nx.bkX (Nx.go (?_)))))
    rw [goes_so c0 hinv.2 hj.2]
    refine Tr.rs [] (.k (faddr .k (.b 0 rfl) rfl fQP) (.k (ldc .k (.g 0 rfl) (.b 0 rfl) tyvP) (.k (faddr .k (.b 0 rfl) rfl fQL) (.k (ldc .k (.g 2 rfl) (.b 0 rfl) tyvS) (.k (mv .k (.b 2 rfl)) (.k (mv .k (.b 3 rfl)) (.k (mkrow .k rwI (.k (.g 4 rfl) (.k (.g 5 rfl) .n)) rfl rfl (by kernel_rfl)) (.k (cal .k Tryz.func78 rfl (show FnC _ _ [_,_,.vec 1 [[ic a],[ic b]]] _ from fn_Middle9 (l:=[a,b]) hok.1 (by omega) (by omega) hLS hLD (mem2 hA hB) (.inr (.inl rfl))) (.k (.g 1 rfl) (.k (.g 3 rfl) (.k (.g 6 rfl) .n)))) (.k (mv .k (.g 7 rfl)) (.k (exx .k (.g 8 rfl) rfl) (.k (exx .k (.g 8 rfl) rfl) (.k (asg .k (.g 9 rfl)) (.k (asg .k (.g 10 rfl)) .n))))))))))))) [] [11] rfl rfl ?_
    refine Tr.rs [] (.k (mv .k (.b 0 rfl)) (.k (eq_ .k (.g 0 rfl) .c rfl) (.k (asg .k (.g 1 rfl)) .n))) [] [2] rfl rfl ?_
    refine Tr.ret (end_tmp 0 rfl rfl)
instance (P:List (Int × Int)) (t:Int × Int × Int) (i:Int):Decidable (in3P P t i):=by unfold in3P;infer_instance
theorem bne_dec (a:Int):(a != -1)=decide (a ≠ -1):=by
  by_cases h:a = -1
  · rw [decide_eq_false (fun hn=>hn h)];exact bne_eq_false_iff_eq.2 h
  · rw [decide_eq_true h];exact bne_iff_ne.2 h
theorem fn_In {P:List (Int × Int)} {t:Int × Int × Int} {i:Int} {u:Nat} {q:Int × Int} (hA:InP P t.1) (hB:InP P t.2.1) (hC:InP P t.2.2) (ei:i=u) (hi:P[u]?=some q):FnC Tryz.prog 79 [pvec P,.is (trv t),.is (ptv q.1 q.2)] (bv (decide (in3P P t i))):=by
 refine FnC.of (N:=50) Tryz.func79 rfl rfl (Nat.le_of_ble_eq_true rfl) (fun w0 ok0=>?_)
 refine Tr.rs [] (.k (bxx .k (.b 1 rfl)) (.k (bxx .k (.b 2 rfl)) (.k (asg .k .c) .n))) [0] [0,1] rfl rfl ?_
 obtain ⟨ua,ap,ea,ha⟩:=hA
 obtain ⟨ub,bp,eb,hb⟩:=hB
 obtain ⟨uc,cp,ec,hc⟩:=hC
 rcases and_ways2 (oP P t.1 t.2.1 i ≠ -1) (oP P t.2.1 t.2.2 i ≠ -1) with c1|⟨c1,c2⟩|⟨c1,c2⟩
 ·
  rw [decide_eq_false (show ¬ in3P P t i from fun h=>c1 h.1)]
  refine Tr.ds hmx [] (.k (mv .k (.b 0 rfl)) (.k (faddr .k (.b 1 rfl) rfl fTA) (.k (ldc .k (.g 1 rfl) (.b 1 rfl) tyI) (.k (idx_ .k rwP (.g 0 rfl) (.g 2 rfl) ea (gm ha)) (.k (ld_at .k (.g 3 rfl) tyP rfl (show _=ptv _ _ from rfl)) (.k (mv .k (.b 0 rfl)) (.k (faddr .k (.b 1 rfl) rfl fTB) (.k (ldc .k (.g 6 rfl) (.b 1 rfl) tyI) (.k (idx_ .k rwP (.g 5 rfl) (.g 7 rfl) eb (gm hb)) (.k (ld_at .k (.g 8 rfl) tyP rfl (show _=ptv _ _ from rfl)) (.k (ld .k (.b 2 rfl) tyP) (.k (cal .k Tryz.func47 rfl (oP_at ea eb ei ha hb hi ▸ fn_rOrient) (.k (.g 4 rfl) (.k (.g 9 rfl) (.k (.g 10 rfl) .n)))) (.k (ne_ .k (.g 11 rfl) .c (bne_eq_false_iff_eq.2 (Classical.not_not.1 c1))) (.k (mv .k (.g 12 rfl)) (.k (skp (.o 13 rfl rfl rfl)) (.k (skp (.o 13 rfl rfl rfl)) (.k (skp (.o 13 rfl rfl rfl)) (.k (skp (.o 13 rfl rfl rfl)) (.k (skp (.o 13 rfl rfl rfl)) (.k (skp (.o 13 rfl rfl rfl)) (.k (skp (.o 13 rfl rfl rfl)) (.k (skp (.o 13 rfl rfl rfl)) (.k (skp (.o 13 rfl rfl rfl)) (.k (skp (.o 13 rfl rfl rfl)) (.k (skp (.o 13 rfl rfl rfl)) (.k (skp (.o 13 rfl rfl rfl)) (.k (skp (.o 13 rfl rfl rfl)) (.k (pickF .k (.g 13 rfl) .c) (.k (mv .k (.g 27 rfl)) (.k (skp (.o 28 rfl rfl rfl)) (.k (skp (.o 28 rfl rfl rfl)) (.k (skp (.o 28 rfl rfl rfl)) (.k (skp (.o 28 rfl rfl rfl)) (.k (skp (.o 28 rfl rfl rfl)) (.k (skp (.o 28 rfl rfl rfl)) (.k (skp (.o 28 rfl rfl rfl)) (.k (skp (.o 28 rfl rfl rfl)) (.k (skp (.o 28 rfl rfl rfl)) (.k (skp (.o 28 rfl rfl rfl)) (.k (skp (.o 28 rfl rfl rfl)) (.k (skp (.o 28 rfl rfl rfl)) (.k (skp (.o 28 rfl rfl rfl)) (.k (pickF .k (.g 28 rfl) .c) (.k (asg .k (.g 42 rfl)) .n)))))))))))))))))))))))))))))))))))))))))))) [] [43] rfl rfl ?_
  refine Tr.ret (end_tmp 0 rfl rfl)
 ·
  rw [decide_eq_false (show ¬ in3P P t i from fun h=>c2 h.2.1)]
  refine Tr.ds hmx [] (.k (mv .k (.b 0 rfl)) (.k (faddr .k (.b 1 rfl) rfl fTA) (.k (ldc .k (.g 1 rfl) (.b 1 rfl) tyI) (.k (idx_ .k rwP (.g 0 rfl) (.g 2 rfl) ea (gm ha)) (.k (ld_at .k (.g 3 rfl) tyP rfl (show _=ptv _ _ from rfl)) (.k (mv .k (.b 0 rfl)) (.k (faddr .k (.b 1 rfl) rfl fTB) (.k (ldc .k (.g 6 rfl) (.b 1 rfl) tyI) (.k (idx_ .k rwP (.g 5 rfl) (.g 7 rfl) eb (gm hb)) (.k (ld_at .k (.g 8 rfl) tyP rfl (show _=ptv _ _ from rfl)) (.k (ld .k (.b 2 rfl) tyP) (.k (cal .k Tryz.func47 rfl (oP_at ea eb ei ha hb hi ▸ fn_rOrient) (.k (.g 4 rfl) (.k (.g 9 rfl) (.k (.g 10 rfl) .n)))) (.k (ne_ .k (.g 11 rfl) .c (bne_iff_ne.2 c1)) (.k (mv .k (.g 12 rfl)) (.k (mv (.o 13 rfl rfl rfl) (.b 0 rfl)) (.k (faddr (.o 13 rfl rfl rfl) (.b 1 rfl) rfl fTB) (.k (ldc (.o 13 rfl rfl rfl) (.g 15 rfl) (.b 1 rfl) tyI) (.k (idx_ (.o 13 rfl rfl rfl) rwP (.g 14 rfl) (.g 16 rfl) eb (gm hb)) (.k (ld_at (.o 13 rfl rfl rfl) (.g 17 rfl) tyP rfl (show _=ptv _ _ from rfl)) (.k (mv (.o 13 rfl rfl rfl) (.b 0 rfl)) (.k (faddr (.o 13 rfl rfl rfl) (.b 1 rfl) rfl fTC) (.k (ldc (.o 13 rfl rfl rfl) (.g 20 rfl) (.b 1 rfl) tyI) (.k (idx_ (.o 13 rfl rfl rfl) rwP (.g 19 rfl) (.g 21 rfl) ec (gm hc)) (.k (ld_at (.o 13 rfl rfl rfl) (.g 22 rfl) tyP rfl (show _=ptv _ _ from rfl)) (.k (ld (.o 13 rfl rfl rfl) (.b 2 rfl) tyP) (.k (cal (.o 13 rfl rfl rfl) Tryz.func47 rfl (oP_at eb ec ei hb hc hi ▸ fn_rOrient) (.k (.g 18 rfl) (.k (.g 23 rfl) (.k (.g 24 rfl) .n)))) (.k (ne_ (.o 13 rfl rfl rfl) (.g 25 rfl) .c (bne_eq_false_iff_eq.2 (Classical.not_not.1 c2))) (.k (pickT .k (.g 13 rfl) (.g 26 rfl)) (.k (mv .k (.g 27 rfl)) (.k (skp (.o 28 rfl rfl rfl)) (.k (skp (.o 28 rfl rfl rfl)) (.k (skp (.o 28 rfl rfl rfl)) (.k (skp (.o 28 rfl rfl rfl)) (.k (skp (.o 28 rfl rfl rfl)) (.k (skp (.o 28 rfl rfl rfl)) (.k (skp (.o 28 rfl rfl rfl)) (.k (skp (.o 28 rfl rfl rfl)) (.k (skp (.o 28 rfl rfl rfl)) (.k (skp (.o 28 rfl rfl rfl)) (.k (skp (.o 28 rfl rfl rfl)) (.k (skp (.o 28 rfl rfl rfl)) (.k (skp (.o 28 rfl rfl rfl)) (.k (pickF .k (.g 28 rfl) .c) (.k (asg .k (.g 42 rfl)) .n)))))))))))))))))))))))))))))))))))))))))))) [] [43] rfl rfl ?_
  refine Tr.ret (end_tmp 0 rfl rfl)
 ·
  rw [show decide (in3P P t i)=decide (oP P t.2.2 t.1 i ≠ -1) from decide_eq_decide.2 ⟨fun h=>h.2.2,fun h=>⟨c1,c2,h⟩⟩]
  refine Tr.ds hmx [] (.k (mv .k (.b 0 rfl)) (.k (faddr .k (.b 1 rfl) rfl fTA) (.k (ldc .k (.g 1 rfl) (.b 1 rfl) tyI) (.k (idx_ .k rwP (.g 0 rfl) (.g 2 rfl) ea (gm ha)) (.k (ld_at .k (.g 3 rfl) tyP rfl (show _=ptv _ _ from rfl)) (.k (mv .k (.b 0 rfl)) (.k (faddr .k (.b 1 rfl) rfl fTB) (.k (ldc .k (.g 6 rfl) (.b 1 rfl) tyI) (.k (idx_ .k rwP (.g 5 rfl) (.g 7 rfl) eb (gm hb)) (.k (ld_at .k (.g 8 rfl) tyP rfl (show _=ptv _ _ from rfl)) (.k (ld .k (.b 2 rfl) tyP) (.k (cal .k Tryz.func47 rfl (oP_at ea eb ei ha hb hi ▸ fn_rOrient) (.k (.g 4 rfl) (.k (.g 9 rfl) (.k (.g 10 rfl) .n)))) (.k (ne_ .k (.g 11 rfl) .c (bne_iff_ne.2 c1)) (.k (mv .k (.g 12 rfl)) (.k (mv (.o 13 rfl rfl rfl) (.b 0 rfl)) (.k (faddr (.o 13 rfl rfl rfl) (.b 1 rfl) rfl fTB) (.k (ldc (.o 13 rfl rfl rfl) (.g 15 rfl) (.b 1 rfl) tyI) (.k (idx_ (.o 13 rfl rfl rfl) rwP (.g 14 rfl) (.g 16 rfl) eb (gm hb)) (.k (ld_at (.o 13 rfl rfl rfl) (.g 17 rfl) tyP rfl (show _=ptv _ _ from rfl)) (.k (mv (.o 13 rfl rfl rfl) (.b 0 rfl)) (.k (faddr (.o 13 rfl rfl rfl) (.b 1 rfl) rfl fTC) (.k (ldc (.o 13 rfl rfl rfl) (.g 20 rfl) (.b 1 rfl) tyI) (.k (idx_ (.o 13 rfl rfl rfl) rwP (.g 19 rfl) (.g 21 rfl) ec (gm hc)) (.k (ld_at (.o 13 rfl rfl rfl) (.g 22 rfl) tyP rfl (show _=ptv _ _ from rfl)) (.k (ld (.o 13 rfl rfl rfl) (.b 2 rfl) tyP) (.k (cal (.o 13 rfl rfl rfl) Tryz.func47 rfl (oP_at eb ec ei hb hc hi ▸ fn_rOrient) (.k (.g 18 rfl) (.k (.g 23 rfl) (.k (.g 24 rfl) .n)))) (.k (ne_ (.o 13 rfl rfl rfl) (.g 25 rfl) .c (bne_iff_ne.2 c2)) (.k (pickT .k (.g 13 rfl) (.g 26 rfl)) (.k (mv .k (.g 27 rfl)) (.k (mv (.o 28 rfl rfl rfl) (.b 0 rfl)) (.k (faddr (.o 28 rfl rfl rfl) (.b 1 rfl) rfl fTC) (.k (ldc (.o 28 rfl rfl rfl) (.g 30 rfl) (.b 1 rfl) tyI) (.k (idx_ (.o 28 rfl rfl rfl) rwP (.g 29 rfl) (.g 31 rfl) ec (gm hc)) (.k (ld_at (.o 28 rfl rfl rfl) (.g 32 rfl) tyP rfl (show _=ptv _ _ from rfl)) (.k (mv (.o 28 rfl rfl rfl) (.b 0 rfl)) (.k (faddr (.o 28 rfl rfl rfl) (.b 1 rfl) rfl fTA) (.k (ldc (.o 28 rfl rfl rfl) (.g 35 rfl) (.b 1 rfl) tyI) (.k (idx_ (.o 28 rfl rfl rfl) rwP (.g 34 rfl) (.g 36 rfl) ea (gm ha)) (.k (ld_at (.o 28 rfl rfl rfl) (.g 37 rfl) tyP rfl (show _=ptv _ _ from rfl)) (.k (ld (.o 28 rfl rfl rfl) (.b 2 rfl) tyP) (.k (cal (.o 28 rfl rfl rfl) Tryz.func47 rfl (oP_at ec ea ei hc ha hi ▸ fn_rOrient) (.k (.g 33 rfl) (.k (.g 38 rfl) (.k (.g 39 rfl) .n)))) (.k (ne_ (.o 28 rfl rfl rfl) (.g 40 rfl) .c (bne_dec _)) (.k (pickT .k (.g 28 rfl) (.g 41 rfl)) (.k (asg .k (.g 42 rfl)) .n)))))))))))))))))))))))))))))))))))))))))))) [] [43] rfl rfl ?_
  refine Tr.ret (end_tmp 0 rfl rfl)
end Go.Proofs.YtkgagdjogedoiaaGreat

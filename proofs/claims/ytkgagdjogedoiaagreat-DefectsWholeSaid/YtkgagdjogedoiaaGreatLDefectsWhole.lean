/- DefectsWhole, walked. -/
import Derived.Test.YtkgagdjogedoiaaGreatDg1
import Derived.Test.YtkgagdjogedoiaaGreatMsRow
set_option linter.unusedVariables false
set_option linter.unusedSimpArgs false
namespace Go.Proofs.YtkgagdjogedoiaaGreat
open Go Go.RowKit Go.Proofs.YtkgagdjogedoiaaGreat.Fx Go.Proofs.YtkgagdjogedoiaaGreatW.PrintWords
theorem fn_manyK {P:List (Int × Int)} {T:List (Int × Int × Int)} {S:List (Int × Int)} {r:Bool} (h:manyB P T S=r):FnC Tryz.prog 6 [SP.mesh P T S] (bv r):=h ▸ fn_many
theorem same_ways (P:List (Int × Int)) (T:List (Int × Int × Int)) (S:List (Int × Int)):manyB P T S=true∨(manyB P T S=false∧mC P T S=2)∨(manyB P T S=false∧mC P T S=0):=by
  cases h:manyB P T S with
  | true=>exact .inl rfl
  | false =>
    rcases mC_two (P:=P) (T:=T) (S:=S) with h1|h1
    · exact .inr (.inr ⟨rfl,h1⟩)
    · exact .inr (.inl ⟨rfl,h1⟩)
theorem told_ways {b:Nat→Bool} {i n nx:Nat} (hi:i < n) (hx:nx=(idxs b i).length):(b i=true∧(idxs b n)[nx]?=some (i:Int)∧nx < (idxs b n).length∧nx+1=(idxs b (i+1)).length)∨(b i=false∧(∃ x,(idxs b n)[nx]?=some x∧x≠(i:Int))∧nx < (idxs b n).length∧nx=(idxs b (i+1)).length)∨(b i=false∧¬ nx < (idxs b n).length∧nx=(idxs b (i+1)).length):=by
  subst hx
  cases hb:b i with
  | true =>
    have h:=idxs_at_yes hi hb
    exact .inl ⟨rfl,h,(List.getElem?_eq_some_iff.1 h).1,by rw [idxs_yes hb,List.length_append];rfl⟩
  | false =>
    by_cases hl:(idxs b i).length < (idxs b n).length
    · exact .inr (.inl ⟨rfl,⟨_,List.getElem?_eq_getElem hl,idxs_at_no hi hb (List.getElem?_eq_getElem hl)⟩,hl,by rw [idxs_no hb]⟩)
    · exact .inr (.inr ⟨rfl,hl,by rw [idxs_no hb]⟩)
theorem good_ok {P:List (Int × Int)} {T:List (Int × Int × Int)} {S:List (Int × Int)} (hc:mC P T S=0):(((idxs (crdB P T S) S.length).length:Int)≠0∧goodR P T S=false)∨(((idxs (crdB P T S) S.length).length:Int)=0∧((sknL P T S).length:Int)≠0∧goodR P T S=false)∨(((idxs (crdB P T S) S.length).length:Int)=0∧((sknL P T S).length:Int)=0∧goodR P T S=true):=by
  rw [← crdL_of hc]
  rcases good_ways P T S with ⟨h,_⟩|⟨_,h⟩|⟨_,h⟩|⟨_,h⟩
  · omega
  · exact .inl h
  · exact .inr (.inl h)
  · exact .inr (.inr h)
set_option maxRecDepth 100000 in
set_option maxHeartbeats 8000000 in
theorem lawWhole_any {P:List (Int × Int)} {T:List (Int × Int × Int)} {S:List (Int × Int)} (hw:∀ s∈S,(Lit.int .i64 s.1).wf=true∧(Lit.int .i64 s.2).wf=true):FnC Tryz.prog 5 [SP.mesh P T S] (bv true):=by
 refine FnC.of (N:=148) Tryz.func5 rfl rfl (Nat.le_of_ble_eq_true rfl) (fun w0 ok0=>?_)
 refine Tr.rs [] (.k (bxx .k (.b 0 rfl)) (.k (asg .k .c) .n)) [] [0] rfl rfl ?_
 rcases same_ways P T S with hm|⟨hm,hc⟩|⟨hm,hc⟩
 ·
  refine Tr.seq (Tr.rs [] (.k (ld .k (.b 0 rfl) tyM) (.k (cal .k Tryz.func6 rfl (fn_manyK hm) (.k (.g 0 rfl) .n)) (.k (mv .k (.g 1 rfl)) (.k (skp (.o 2 rfl rfl rfl)) (.k (skp (.o 2 rfl rfl rfl)) (.k (skp (.o 2 rfl rfl rfl)) (.k (pickT .k (.g 2 rfl) .c) .n))))))) [0] [6] rfl rfl ?_)
  refine Tr.cond 1 rfl (fun _=>?_) nofun
  refine Tr.rs [] (.k (cal .k Tryz.func7 rfl fn_known .n) (.k (asg .k (.g 0 rfl)) .n)) [] [1] rfl rfl ?_
  refine Tr.ret (end_tmp 0 rfl rfl)
 ·
  have hl:=many_no hm
  have hP:P.length≤1000000:=by omega
  have hT:T.length≤1000000:=by omega
  have hS:S.length≤1000000:=by omega
  refine Tr.seq (Tr.rs [] (.k (ld .k (.b 0 rfl) tyM) (.k (cal .k Tryz.func6 rfl (fn_manyK hm) (.k (.g 0 rfl) .n)) (.k (mv .k (.g 1 rfl)) (.k (ld (.o 2 rfl rfl rfl) (.b 0 rfl) tyM) (.k (cal (.o 2 rfl rfl rfl) Tryz.func25 rfl (fn_rChk hP hT hS) (.k (.g 3 rfl) .n)) (.k (ne_ (.o 2 rfl rfl rfl) (.g 4 rfl) .c (bne_iff_ne.2 (by rw [hc];decide))) (.k (pickF .k (.g 2 rfl) (.g 5 rfl)) .n))))))) [0] [6] rfl rfl ?_)
  refine Tr.cond 1 rfl (fun _=>?_) nofun
  refine Tr.rs [] (.k (cal .k Tryz.func7 rfl fn_known .n) (.k (asg .k (.g 0 rfl)) .n)) [] [1] rfl rfl ?_
  refine Tr.ret (end_tmp 0 rfl rfl)
 ·
  have hl:=many_no hm
  have hP:P.length≤1000000:=by omega
  have hT:T.length≤1000000:=by omega
  have hS:S.length≤1000000:=by omega
  have hM:=mC_ok hc
  refine Tr.seq (Tr.rs [] (.k (ld .k (.b 0 rfl) tyM) (.k (cal .k Tryz.func6 rfl (fn_manyK hm) (.k (.g 0 rfl) .n)) (.k (mv .k (.g 1 rfl)) (.k (ld (.o 2 rfl rfl rfl) (.b 0 rfl) tyM) (.k (cal (.o 2 rfl rfl rfl) Tryz.func25 rfl (fn_rChk hP hT hS) (.k (.g 3 rfl) .n)) (.k (ne_ (.o 2 rfl rfl rfl) (.g 4 rfl) .c (bne_eq_false_iff_eq.2 hc)) (.k (pickF .k (.g 2 rfl) (.g 5 rfl)) .n))))))) [0] [6] rfl rfl ?_)
  refine Tr.cond 1 rfl nofun (fun _=>?_)
  refine Tr.skip (Nx.go (Tr.rs [] (.k (ld .k (.b 0 rfl) tyM) (.k (cal .k Tryz.func9 rfl (fn_CrowdedL hP hT hS hw (crdL_of hc) hc) (.k (.g 0 rfl) .n)) (.k (mv .k (.g 1 rfl)) (.k (exx .k (.g 2 rfl) rfl) (.k (exx .k (.g 2 rfl) rfl) (.k (asg .k (.g 3 rfl)) (.k (asg .k (.g 4 rfl)) .n))))))) [0] [5,6] rfl rfl ?_))
  refine Tr.seq (Tr.rs [] (.k (mv .k (.b 2 rfl)) (.k (ne_ .k (.g 0 rfl) .c rfl) .n)) [0,1] [1] rfl rfl ?_)
  refine Tr.cond 2 rfl nofun (fun _=>?_)
  refine Tr.skip (Nx.go (Tr.rs [] (.k (asg .k .c) .n) [0,1] [0] rfl rfl ?_))
  refine Tr.seq (Tr.rs [] (.k (asg .k .c) .n) [0,1,2] [0] rfl rfl ?_)
  refine Tr.block (?_)
  refine Tr.loop (fun n_ F_=>∃ i:Nat,∃ nx:Nat,(i≤S.length∧nx=(idxs (crdB P T S) i).length)∧n_=S.length - i∧F_=[.b 1 (SP.mesh P T S) 26 3,.s 3 (ivec (idxs (crdB P T S) S.length)),.s 5 (iv ((nx:Nat):Int)),.s 6 (iv ((i:Nat):Int))]) (S.length - 0) (F0:=[.b 1 (SP.mesh P T S) 26 3,.s 3 (ivec (idxs (crdB P T S) S.length)),.s 5 (iv ((0:Nat):Int)),.s 6 (iv ((0:Nat):Int))]) ⟨0,0,⟨Nat.zero_le _,rfl⟩,rfl,rfl⟩ (Sub.all (.cons 0 rfl (.cons 1 rfl (.cons 2 rfl (.cons 3 rfl .nil))))) (fun n_ F_ hI=>?_)
  obtain ⟨i,nx,hinv,rfl,rfl⟩:=hI
  refine Tr.seq (Tr.rs [] (.k (mv .k (.b 3 rfl)) (.k (faddr .k (.b 0 rfl) rfl fMS) (.k (ldc .k (.g 1 rfl) (.b 0 rfl) tyvS) (.k (len_ .k rwS (.g 2 rfl) (by rw [List.length_map])) (.k (lt_ .k (.g 0 rfl) (.g 3 rfl) rfl) .n))))) [0,1,2,3] [4] rfl rfl ?_)
  refine Tr.cond 4 rfl (fun e32=>?_) (fun e32=>?_)
  ·
   have hi2:i < S.length:=by have:=of_decide_eq_true e32;omega
   refine Tr.skip (Nx.go (Tr.seq (Tr.block (?_))))
   obtain ⟨s,p1⟩:∃ s,S[i]?=some s:=⟨_,List.getElem?_eq_getElem hi2⟩;have hs:=List.mem_of_getElem? p1;have htwo:=(crw_two hM hs).2
   refine Tr.ds hmx [] (.k (ld .k (.b 0 rfl) tyM) (.k (faddr .k (.b 0 rfl) rfl fMS) (.k (ldc .k (.g 1 rfl) (.b 0 rfl) tyvS) (.k (mv .k (.b 3 rfl)) (.k (idx_ .k rwS (.g 2 rfl) (.g 3 rfl) rfl (gm p1)) (.k (ld_at .k (.g 4 rfl) tyS rfl (show _=sgv (_,_) from rfl)) (.k (cal .k Tryz.func15 rfl (fn_CrowdsL hP hT hS hw (crwL_of hc hs)) (.k (.g 0 rfl) (.k (.g 5 rfl) .n))) (.k (asg .k (.g 6 rfl)) .n)))))))) [0,1,2,3] [7] rfl rfl ?_
   have hcd:decide (((crw P T s).length:Int) > 0)=crdB P T S i:=(by unfold crdB;rw [atB_of p1]);have hlen:=idxs_len (crdB P T S) S.length;rcases told_ways hi2 hinv.2 with ⟨hb,pn,hlt,hnx⟩|⟨hb,⟨x,pn,hx⟩,hlt,hnx⟩|⟨hb,hlt,hnx⟩
   ·
    rw [hb] at hcd
    refine Tr.rs [] (.k (mv .k (.b 2 rfl)) (.k (mv .k (.b 1 rfl)) (.k (len_ .k rwI (.g 1 rfl) (by rw [List.length_map])) (.k (lt_ .k (.g 0 rfl) (.g 2 rfl) (dT (by omega))) (.k (mv .k (.g 3 rfl)) (.k (mv (.o 4 rfl rfl rfl) (.b 1 rfl)) (.k (mv (.o 4 rfl rfl rfl) (.b 2 rfl)) (.k (idx_ (.o 4 rfl rfl rfl) rwI (.g 5 rfl) (.g 6 rfl) rfl (gm pn)) (.k (ldc_at (.o 4 rfl rfl rfl) (.g 7 rfl) tyI) (.k (mv (.o 4 rfl rfl rfl) (.b 3 rfl)) (.k (eq_ (.o 4 rfl rfl rfl) (.g 8 rfl) (.g 9 rfl) (beq_self_eq_true _)) (.k (pickT .k (.g 4 rfl) (.g 10 rfl)) (.k (asg .k (.g 11 rfl)) .n))))))))))))) [0,1,2,3,4] [12] rfl rfl ?_
    refine Tr.seq (Tr.rs [] (.k (mv .k (.b 5 rfl)) .n) [0,1,2,3,4,5] [0] rfl rfl ?_)
    refine Tr.cond 6 rfl (fun _=>?_) nofun
    refine Tr.reg [(2,2)] (.k (mv .k (.b 2 rfl)) (.k (add_ .k (.g 0 rfl) .c (wr1 (by omega))) (.k (asg .k (.g 1 rfl)) .n))) [0,1,3,4,5] [2] rfl rfl (Nx.go (Tr.seq (Tr.rs [] (.k (mv .k (.b 4 rfl)) (.k (mv .k (.b 3 rfl)) (.k (len_ .k rwI (.g 1 rfl) (by rw [List.length_map])) (.k (gt_ .k (.g 2 rfl) .c hcd) (.k (neB_ .k Tryz.underlying4 (.g 0 rfl) (.g 3 rfl) rfl) (.k (mv .k (.g 4 rfl)) (.k (mv (.o 5 rfl rfl rfl) (.b 3 rfl)) (.k (len_ (.o 5 rfl rfl rfl) rwI (.g 6 rfl) (by rw [List.length_map])) (.k (gt_ (.o 5 rfl rfl rfl) (.g 7 rfl) .c (dF (by omega))) (.k (pickF .k (.g 5 rfl) (.g 8 rfl)) .n)))))))))) [0,1,2,3,5] [9] rfl rfl ?_)))
    refine Tr.cond 5 rfl nofun (fun _=>?_)
    refine Tr.skip (Nx.go (Tr.rs [] (.k (asg .k .c) .n) [0,1,2,3,4] [0] rfl rfl ?_))
    refine Tr.block (?_)
    refine Tr.loop (fun n_ F_=>∃ k:Nat,(k≤(crw P T s).length)∧n_=(crw P T s).length - k∧F_=[.b 1 (SP.mesh P T S) 26 3,.s 3 (ivec (idxs (crdB P T S) S.length)),.s 5 (iv (((nx+1):Nat):Int)),.s 6 (iv ((i:Nat):Int)),.s 7 (ivec (crw P T s)),.s 9 (iv ((k:Nat):Int))]) ((crw P T s).length - 0) (F0:=[.b 1 (SP.mesh P T S) 26 3,.s 3 (ivec (idxs (crdB P T S) S.length)),.s 5 (iv (((nx+1):Nat):Int)),.s 6 (iv ((i:Nat):Int)),.s 7 (ivec (crw P T s)),.s 9 (iv ((0:Nat):Int))]) ⟨0,(Nat.zero_le _),rfl,rfl⟩ (Sub.all (.cons 0 rfl (.cons 1 rfl (.cons 4 rfl (.cons 2 rfl (.cons 3 rfl (.cons 5 rfl .nil))))))) (fun n_ F_ hI=>?_)
    obtain ⟨k,hk,rfl,rfl⟩:=hI
    refine Tr.seq (Tr.rs [] (.k (mv .k (.b 5 rfl)) (.k (mv .k (.b 4 rfl)) (.k (len_ .k rwI (.g 1 rfl) (by rw [List.length_map])) (.k (lt_ .k (.g 0 rfl) (.g 2 rfl) rfl) .n)))) [0,1,2,3,4,5] [3] rfl rfl ?_)
    refine Tr.cond 6 rfl (fun e70=>?_) (fun e70=>?_)
    ·
     have hk2:k < (crw P T s).length:=by have:=of_decide_eq_true e70;omega
     refine Tr.skip (Nx.go (Tr.seq (Tr.block (?_))))
     obtain ⟨z,p2⟩:∃ z,(crw P T s)[k]?=some z:=⟨_,List.getElem?_eq_getElem hk2⟩
     obtain ⟨u,p,ea,pa⟩:=(seg_in hM hs).1
     obtain ⟨v,q,eb,pb⟩:=(seg_in hM hs).2
     obtain ⟨hz,hd⟩:=crw_mem hM (List.mem_of_getElem? p2)
     have hzl:=inP_lt hz
     obtain ⟨w,r,ec,pc_⟩:=hz
     refine Tr.ds hmx [] (.k (mv .k (.b 4 rfl)) (.k (mv .k (.b 5 rfl)) (.k (idx_ .k rwI (.g 0 rfl) (.g 1 rfl) rfl (gm p2)) (.k (ldc_at .k (.g 2 rfl) tyI) (.k (lt_ .k (.g 3 rfl) .c (dF (by omega))) (.k (mv .k (.g 4 rfl)) (.k (mv (.o 5 rfl rfl rfl) (.b 4 rfl)) (.k (mv (.o 5 rfl rfl rfl) (.b 5 rfl)) (.k (idx_ (.o 5 rfl rfl rfl) rwI (.g 6 rfl) (.g 7 rfl) rfl (gm p2)) (.k (ldc_at (.o 5 rfl rfl rfl) (.g 8 rfl) tyI) (.k (faddr (.o 5 rfl rfl rfl) (.b 0 rfl) rfl fMP) (.k (ldc (.o 5 rfl rfl rfl) (.g 10 rfl) (.b 0 rfl) tyvP) (.k (len_ (.o 5 rfl rfl rfl) rwP (.g 11 rfl) (by rw [List.length_map])) (.k (ge_ (.o 5 rfl rfl rfl) (.g 9 rfl) (.g 12 rfl) (dF (by omega))) (.k (pickF .k (.g 5 rfl) (.g 13 rfl)) (.k (mv .k (.g 14 rfl)) (.k (faddr (.o 15 rfl rfl rfl) (.b 0 rfl) rfl fMP) (.k (ldc (.o 15 rfl rfl rfl) (.g 16 rfl) (.b 0 rfl) tyvP) (.k (faddr (.o 15 rfl rfl rfl) (.b 0 rfl) rfl fMS) (.k (ldc (.o 15 rfl rfl rfl) (.g 18 rfl) (.b 0 rfl) tyvS) (.k (mv (.o 15 rfl rfl rfl) (.b 3 rfl)) (.k (idx_ (.o 15 rfl rfl rfl) rwS (.g 19 rfl) (.g 20 rfl) rfl (gm p1)) (.k (fat (.o 15 rfl rfl rfl) (.g 21 rfl) aSA rfl) (.k (ldc_at (.o 15 rfl rfl rfl) (.g 22 rfl) tyI) (.k (idx_ (.o 15 rfl rfl rfl) rwP (.g 17 rfl) (.g 23 rfl) ea (gm pa)) (.k (ld_at (.o 15 rfl rfl rfl) (.g 24 rfl) tyP rfl (show _=ptv _ _ from rfl)) (.k (faddr (.o 15 rfl rfl rfl) (.b 0 rfl) rfl fMP) (.k (ldc (.o 15 rfl rfl rfl) (.g 26 rfl) (.b 0 rfl) tyvP) (.k (faddr (.o 15 rfl rfl rfl) (.b 0 rfl) rfl fMS) (.k (ldc (.o 15 rfl rfl rfl) (.g 28 rfl) (.b 0 rfl) tyvS) (.k (mv (.o 15 rfl rfl rfl) (.b 3 rfl)) (.k (idx_ (.o 15 rfl rfl rfl) rwS (.g 29 rfl) (.g 30 rfl) rfl (gm p1)) (.k (fat (.o 15 rfl rfl rfl) (.g 31 rfl) aSB rfl) (.k (ldc_at (.o 15 rfl rfl rfl) (.g 32 rfl) tyI) (.k (idx_ (.o 15 rfl rfl rfl) rwP (.g 27 rfl) (.g 33 rfl) eb (gm pb)) (.k (ld_at (.o 15 rfl rfl rfl) (.g 34 rfl) tyP rfl (show _=ptv _ _ from rfl)) (.k (faddr (.o 15 rfl rfl rfl) (.b 0 rfl) rfl fMP) (.k (ldc (.o 15 rfl rfl rfl) (.g 36 rfl) (.b 0 rfl) tyvP) (.k (mv (.o 15 rfl rfl rfl) (.b 4 rfl)) (.k (mv (.o 15 rfl rfl rfl) (.b 5 rfl)) (.k (idx_ (.o 15 rfl rfl rfl) rwI (.g 38 rfl) (.g 39 rfl) rfl (gm p2)) (.k (ldc_at (.o 15 rfl rfl rfl) (.g 40 rfl) tyI) (.k (idx_ (.o 15 rfl rfl rfl) rwP (.g 37 rfl) (.g 41 rfl) ec (gm pc_)) (.k (ld_at (.o 15 rfl rfl rfl) (.g 42 rfl) tyP rfl (show _=ptv _ _ from rfl)) (.k (cal (.o 15 rfl rfl rfl) Tryz.func22 rfl (fn_rdiscK ea eb ec pa pb pc_ hd) (.k (.g 25 rfl) (.k (.g 35 rfl) (.k (.g 43 rfl) .n)))) (.k (not_ (.o 15 rfl rfl rfl) (.g 44 rfl)) (.k (pickF .k (.g 15 rfl) (.g 45 rfl)) .n))))))))))))))))))))))))))))))))))))))))))))))) [0,1,2,3,4,5] [46] rfl rfl ?_
     refine Tr.cond 6 rfl nofun (fun _=>?_)
     refine Tr.skip (Nx.bkN (Nx.go (Tr.reg [(5,2)] (.k (mv .k (.b 5 rfl)) (.k (add_ .k (.g 0 rfl) .c (wr1 (by omega))) (.k (asg .k (.g 1 rfl)) .n))) [0,1,2,3,4] [2] rfl rfl (Nx.again ((crw P T s).length - (k+1)) (by omega) [.b 1 (SP.mesh P T S) 26 3,.s 3 (ivec (idxs (crdB P T S) S.length)),.s 5 (iv (((nx+1):Nat):Int)),.s 6 (iv ((i:Nat):Int)),.s 7 (ivec (crw P T s)),.s 9 (iv (((k+1):Nat):Int))] ⟨(k+1),hk2,rfl,rfl⟩ (Sub.all (.cons 0 rfl (.cons 1 rfl (.cons 2 rfl (.cons 3 rfl (.cons 4 rfl (.cons 5 rfl .nil)))))))))))
    ·
     refine Tr.exit (Nx.thX (Nx.thX (Nx.bkX (Nx.bkN (Nx.go (Tr.reg [(3,2)] (.k (mv .k (.b 3 rfl)) (.k (add_ .k (.g 0 rfl) .c (wr1 (by omega))) (.k (asg .k (.g 1 rfl)) .n))) [0,1,2] [2] rfl rfl (Nx.again (S.length - (i+1)) (by omega) [.b 1 (SP.mesh P T S) 26 3,.s 3 (ivec (idxs (crdB P T S) S.length)),.s 5 (iv (((nx+1):Nat):Int)),.s 6 (iv (((i+1):Nat):Int))] ⟨(i+1),(nx+1),⟨hi2,hnx⟩,rfl,rfl⟩ (Sub.all (.cons 0 rfl (.cons 1 rfl (.cons 2 rfl (.cons 3 rfl .nil))))))))))))
   ·
    rw [hb] at hcd
    refine Tr.rs [] (.k (mv .k (.b 2 rfl)) (.k (mv .k (.b 1 rfl)) (.k (len_ .k rwI (.g 1 rfl) (by rw [List.length_map])) (.k (lt_ .k (.g 0 rfl) (.g 2 rfl) (dT (by omega))) (.k (mv .k (.g 3 rfl)) (.k (mv (.o 4 rfl rfl rfl) (.b 1 rfl)) (.k (mv (.o 4 rfl rfl rfl) (.b 2 rfl)) (.k (idx_ (.o 4 rfl rfl rfl) rwI (.g 5 rfl) (.g 6 rfl) rfl (gm pn)) (.k (ldc_at (.o 4 rfl rfl rfl) (.g 7 rfl) tyI) (.k (mv (.o 4 rfl rfl rfl) (.b 3 rfl)) (.k (eq_ (.o 4 rfl rfl rfl) (.g 8 rfl) (.g 9 rfl) (beq_eq_false_iff_ne.2 hx)) (.k (pickT .k (.g 4 rfl) (.g 10 rfl)) (.k (asg .k (.g 11 rfl)) .n))))))))))))) [0,1,2,3,4] [12] rfl rfl ?_
    refine Tr.seq (Tr.rs [] (.k (mv .k (.b 5 rfl)) .n) [0,1,2,3,4,5] [0] rfl rfl ?_)
    refine Tr.cond 6 rfl nofun (fun _=>?_)
    refine Tr.skip (Nx.go (Tr.seq (Tr.rs [] (.k (mv .k (.b 5 rfl)) (.k (mv .k (.b 4 rfl)) (.k (len_ .k rwI (.g 1 rfl) (by rw [List.length_map])) (.k (gt_ .k (.g 2 rfl) .c hcd) (.k (neB_ .k Tryz.underlying4 (.g 0 rfl) (.g 3 rfl) rfl) (.k (mv .k (.g 4 rfl)) (.k (mv (.o 5 rfl rfl rfl) (.b 4 rfl)) (.k (len_ (.o 5 rfl rfl rfl) rwI (.g 6 rfl) (by rw [List.length_map])) (.k (gt_ (.o 5 rfl rfl rfl) (.g 7 rfl) .c (dF (by omega))) (.k (pickF .k (.g 5 rfl) (.g 8 rfl)) .n)))))))))) [0,1,2,3,4] [9] rfl rfl ?_)))
    refine Tr.cond 5 rfl nofun (fun _=>?_)
    refine Tr.skip (Nx.go (Tr.rs [] (.k (asg .k .c) .n) [0,1,2,3,4] [0] rfl rfl ?_))
    refine Tr.block (?_)
    refine Tr.loop (fun n_ F_=>∃ k:Nat,(k≤(crw P T s).length)∧n_=(crw P T s).length - k∧F_=[.b 1 (SP.mesh P T S) 26 3,.s 3 (ivec (idxs (crdB P T S) S.length)),.s 5 (iv ((nx:Nat):Int)),.s 6 (iv ((i:Nat):Int)),.s 7 (ivec (crw P T s)),.s 9 (iv ((k:Nat):Int))]) ((crw P T s).length - 0) (F0:=[.b 1 (SP.mesh P T S) 26 3,.s 3 (ivec (idxs (crdB P T S) S.length)),.s 5 (iv ((nx:Nat):Int)),.s 6 (iv ((i:Nat):Int)),.s 7 (ivec (crw P T s)),.s 9 (iv ((0:Nat):Int))]) ⟨0,(Nat.zero_le _),rfl,rfl⟩ (Sub.all (.cons 0 rfl (.cons 1 rfl (.cons 2 rfl (.cons 3 rfl (.cons 4 rfl (.cons 5 rfl .nil))))))) (fun n_ F_ hI=>?_)
    obtain ⟨k,hk,rfl,rfl⟩:=hI
    refine Tr.seq (Tr.rs [] (.k (mv .k (.b 5 rfl)) (.k (mv .k (.b 4 rfl)) (.k (len_ .k rwI (.g 1 rfl) (by rw [List.length_map])) (.k (lt_ .k (.g 0 rfl) (.g 2 rfl) rfl) .n)))) [0,1,2,3,4,5] [3] rfl rfl ?_)
    refine Tr.cond 6 rfl (fun e70=>?_) (fun e70=>?_)
    ·
     have hk2:k < (crw P T s).length:=by have:=of_decide_eq_true e70;omega
     refine Tr.skip (Nx.go (Tr.seq (Tr.block (?_))))
     obtain ⟨z,p2⟩:∃ z,(crw P T s)[k]?=some z:=⟨_,List.getElem?_eq_getElem hk2⟩
     obtain ⟨u,p,ea,pa⟩:=(seg_in hM hs).1
     obtain ⟨v,q,eb,pb⟩:=(seg_in hM hs).2
     obtain ⟨hz,hd⟩:=crw_mem hM (List.mem_of_getElem? p2)
     have hzl:=inP_lt hz
     obtain ⟨w,r,ec,pc_⟩:=hz
     refine Tr.ds hmx [] (.k (mv .k (.b 4 rfl)) (.k (mv .k (.b 5 rfl)) (.k (idx_ .k rwI (.g 0 rfl) (.g 1 rfl) rfl (gm p2)) (.k (ldc_at .k (.g 2 rfl) tyI) (.k (lt_ .k (.g 3 rfl) .c (dF (by omega))) (.k (mv .k (.g 4 rfl)) (.k (mv (.o 5 rfl rfl rfl) (.b 4 rfl)) (.k (mv (.o 5 rfl rfl rfl) (.b 5 rfl)) (.k (idx_ (.o 5 rfl rfl rfl) rwI (.g 6 rfl) (.g 7 rfl) rfl (gm p2)) (.k (ldc_at (.o 5 rfl rfl rfl) (.g 8 rfl) tyI) (.k (faddr (.o 5 rfl rfl rfl) (.b 0 rfl) rfl fMP) (.k (ldc (.o 5 rfl rfl rfl) (.g 10 rfl) (.b 0 rfl) tyvP) (.k (len_ (.o 5 rfl rfl rfl) rwP (.g 11 rfl) (by rw [List.length_map])) (.k (ge_ (.o 5 rfl rfl rfl) (.g 9 rfl) (.g 12 rfl) (dF (by omega))) (.k (pickF .k (.g 5 rfl) (.g 13 rfl)) (.k (mv .k (.g 14 rfl)) (.k (faddr (.o 15 rfl rfl rfl) (.b 0 rfl) rfl fMP) (.k (ldc (.o 15 rfl rfl rfl) (.g 16 rfl) (.b 0 rfl) tyvP) (.k (faddr (.o 15 rfl rfl rfl) (.b 0 rfl) rfl fMS) (.k (ldc (.o 15 rfl rfl rfl) (.g 18 rfl) (.b 0 rfl) tyvS) (.k (mv (.o 15 rfl rfl rfl) (.b 3 rfl)) (.k (idx_ (.o 15 rfl rfl rfl) rwS (.g 19 rfl) (.g 20 rfl) rfl (gm p1)) (.k (fat (.o 15 rfl rfl rfl) (.g 21 rfl) aSA rfl) (.k (ldc_at (.o 15 rfl rfl rfl) (.g 22 rfl) tyI) (.k (idx_ (.o 15 rfl rfl rfl) rwP (.g 17 rfl) (.g 23 rfl) ea (gm pa)) (.k (ld_at (.o 15 rfl rfl rfl) (.g 24 rfl) tyP rfl (show _=ptv _ _ from rfl)) (.k (faddr (.o 15 rfl rfl rfl) (.b 0 rfl) rfl fMP) (.k (ldc (.o 15 rfl rfl rfl) (.g 26 rfl) (.b 0 rfl) tyvP) (.k (faddr (.o 15 rfl rfl rfl) (.b 0 rfl) rfl fMS) (.k (ldc (.o 15 rfl rfl rfl) (.g 28 rfl) (.b 0 rfl) tyvS) (.k (mv (.o 15 rfl rfl rfl) (.b 3 rfl)) (.k (idx_ (.o 15 rfl rfl rfl) rwS (.g 29 rfl) (.g 30 rfl) rfl (gm p1)) (.k (fat (.o 15 rfl rfl rfl) (.g 31 rfl) aSB rfl) (.k (ldc_at (.o 15 rfl rfl rfl) (.g 32 rfl) tyI) (.k (idx_ (.o 15 rfl rfl rfl) rwP (.g 27 rfl) (.g 33 rfl) eb (gm pb)) (.k (ld_at (.o 15 rfl rfl rfl) (.g 34 rfl) tyP rfl (show _=ptv _ _ from rfl)) (.k (faddr (.o 15 rfl rfl rfl) (.b 0 rfl) rfl fMP) (.k (ldc (.o 15 rfl rfl rfl) (.g 36 rfl) (.b 0 rfl) tyvP) (.k (mv (.o 15 rfl rfl rfl) (.b 4 rfl)) (.k (mv (.o 15 rfl rfl rfl) (.b 5 rfl)) (.k (idx_ (.o 15 rfl rfl rfl) rwI (.g 38 rfl) (.g 39 rfl) rfl (gm p2)) (.k (ldc_at (.o 15 rfl rfl rfl) (.g 40 rfl) tyI) (.k (idx_ (.o 15 rfl rfl rfl) rwP (.g 37 rfl) (.g 41 rfl) ec (gm pc_)) (.k (ld_at (.o 15 rfl rfl rfl) (.g 42 rfl) tyP rfl (show _=ptv _ _ from rfl)) (.k (cal (.o 15 rfl rfl rfl) Tryz.func22 rfl (fn_rdiscK ea eb ec pa pb pc_ hd) (.k (.g 25 rfl) (.k (.g 35 rfl) (.k (.g 43 rfl) .n)))) (.k (not_ (.o 15 rfl rfl rfl) (.g 44 rfl)) (.k (pickF .k (.g 15 rfl) (.g 45 rfl)) .n))))))))))))))))))))))))))))))))))))))))))))))) [0,1,2,3,4,5] [46] rfl rfl ?_
     refine Tr.cond 6 rfl nofun (fun _=>?_)
     refine Tr.skip (Nx.bkN (Nx.go (Tr.reg [(5,2)] (.k (mv .k (.b 5 rfl)) (.k (add_ .k (.g 0 rfl) .c (wr1 (by omega))) (.k (asg .k (.g 1 rfl)) .n))) [0,1,2,3,4] [2] rfl rfl (Nx.again ((crw P T s).length - (k+1)) (by omega) [.b 1 (SP.mesh P T S) 26 3,.s 3 (ivec (idxs (crdB P T S) S.length)),.s 5 (iv ((nx:Nat):Int)),.s 6 (iv ((i:Nat):Int)),.s 7 (ivec (crw P T s)),.s 9 (iv (((k+1):Nat):Int))] ⟨(k+1),hk2,rfl,rfl⟩ (Sub.all (.cons 0 rfl (.cons 1 rfl (.cons 2 rfl (.cons 3 rfl (.cons 4 rfl (.cons 5 rfl .nil)))))))))))
    ·
     refine Tr.exit (Nx.thX (Nx.thX (Nx.bkX (Nx.bkN (Nx.go (Tr.reg [(3,2)] (.k (mv .k (.b 3 rfl)) (.k (add_ .k (.g 0 rfl) .c (wr1 (by omega))) (.k (asg .k (.g 1 rfl)) .n))) [0,1,2] [2] rfl rfl (Nx.again (S.length - (i+1)) (by omega) [.b 1 (SP.mesh P T S) 26 3,.s 3 (ivec (idxs (crdB P T S) S.length)),.s 5 (iv ((nx:Nat):Int)),.s 6 (iv (((i+1):Nat):Int))] ⟨(i+1),nx,⟨hi2,hnx⟩,rfl,rfl⟩ (Sub.all (.cons 0 rfl (.cons 1 rfl (.cons 2 rfl (.cons 3 rfl .nil))))))))))))
   ·
    rw [hb] at hcd
    refine Tr.rs [] (.k (mv .k (.b 2 rfl)) (.k (mv .k (.b 1 rfl)) (.k (len_ .k rwI (.g 1 rfl) (by rw [List.length_map])) (.k (lt_ .k (.g 0 rfl) (.g 2 rfl) (dF (by omega))) (.k (mv .k (.g 3 rfl)) (.k (skp (.o 4 rfl rfl rfl)) (.k (skp (.o 4 rfl rfl rfl)) (.k (skp (.o 4 rfl rfl rfl)) (.k (skp (.o 4 rfl rfl rfl)) (.k (skp (.o 4 rfl rfl rfl)) (.k (skp (.o 4 rfl rfl rfl)) (.k (pickF .k (.g 4 rfl) .c) (.k (asg .k (.g 11 rfl)) .n))))))))))))) [0,1,2,3,4] [12] rfl rfl ?_
    refine Tr.seq (Tr.rs [] (.k (mv .k (.b 5 rfl)) .n) [0,1,2,3,4,5] [0] rfl rfl ?_)
    refine Tr.cond 6 rfl nofun (fun _=>?_)
    refine Tr.skip (Nx.go (Tr.seq (Tr.rs [] (.k (mv .k (.b 5 rfl)) (.k (mv .k (.b 4 rfl)) (.k (len_ .k rwI (.g 1 rfl) (by rw [List.length_map])) (.k (gt_ .k (.g 2 rfl) .c hcd) (.k (neB_ .k Tryz.underlying4 (.g 0 rfl) (.g 3 rfl) rfl) (.k (mv .k (.g 4 rfl)) (.k (mv (.o 5 rfl rfl rfl) (.b 4 rfl)) (.k (len_ (.o 5 rfl rfl rfl) rwI (.g 6 rfl) (by rw [List.length_map])) (.k (gt_ (.o 5 rfl rfl rfl) (.g 7 rfl) .c (dF (by omega))) (.k (pickF .k (.g 5 rfl) (.g 8 rfl)) .n)))))))))) [0,1,2,3,4] [9] rfl rfl ?_)))
    refine Tr.cond 5 rfl nofun (fun _=>?_)
    refine Tr.skip (Nx.go (Tr.rs [] (.k (asg .k .c) .n) [0,1,2,3,4] [0] rfl rfl ?_))
    refine Tr.block (?_)
    refine Tr.loop (fun n_ F_=>∃ k:Nat,(k≤(crw P T s).length)∧n_=(crw P T s).length - k∧F_=[.b 1 (SP.mesh P T S) 26 3,.s 3 (ivec (idxs (crdB P T S) S.length)),.s 5 (iv ((nx:Nat):Int)),.s 6 (iv ((i:Nat):Int)),.s 7 (ivec (crw P T s)),.s 9 (iv ((k:Nat):Int))]) ((crw P T s).length - 0) (F0:=[.b 1 (SP.mesh P T S) 26 3,.s 3 (ivec (idxs (crdB P T S) S.length)),.s 5 (iv ((nx:Nat):Int)),.s 6 (iv ((i:Nat):Int)),.s 7 (ivec (crw P T s)),.s 9 (iv ((0:Nat):Int))]) ⟨0,(Nat.zero_le _),rfl,rfl⟩ (Sub.all (.cons 0 rfl (.cons 1 rfl (.cons 2 rfl (.cons 3 rfl (.cons 4 rfl (.cons 5 rfl .nil))))))) (fun n_ F_ hI=>?_)
    obtain ⟨k,hk,rfl,rfl⟩:=hI
    refine Tr.seq (Tr.rs [] (.k (mv .k (.b 5 rfl)) (.k (mv .k (.b 4 rfl)) (.k (len_ .k rwI (.g 1 rfl) (by rw [List.length_map])) (.k (lt_ .k (.g 0 rfl) (.g 2 rfl) rfl) .n)))) [0,1,2,3,4,5] [3] rfl rfl ?_)
    refine Tr.cond 6 rfl (fun e70=>?_) (fun e70=>?_)
    ·
     have hk2:k < (crw P T s).length:=by have:=of_decide_eq_true e70;omega
     refine Tr.skip (Nx.go (Tr.seq (Tr.block (?_))))
     obtain ⟨z,p2⟩:∃ z,(crw P T s)[k]?=some z:=⟨_,List.getElem?_eq_getElem hk2⟩
     obtain ⟨u,p,ea,pa⟩:=(seg_in hM hs).1
     obtain ⟨v,q,eb,pb⟩:=(seg_in hM hs).2
     obtain ⟨hz,hd⟩:=crw_mem hM (List.mem_of_getElem? p2)
     have hzl:=inP_lt hz
     obtain ⟨w,r,ec,pc_⟩:=hz
     refine Tr.ds hmx [] (.k (mv .k (.b 4 rfl)) (.k (mv .k (.b 5 rfl)) (.k (idx_ .k rwI (.g 0 rfl) (.g 1 rfl) rfl (gm p2)) (.k (ldc_at .k (.g 2 rfl) tyI) (.k (lt_ .k (.g 3 rfl) .c (dF (by omega))) (.k (mv .k (.g 4 rfl)) (.k (mv (.o 5 rfl rfl rfl) (.b 4 rfl)) (.k (mv (.o 5 rfl rfl rfl) (.b 5 rfl)) (.k (idx_ (.o 5 rfl rfl rfl) rwI (.g 6 rfl) (.g 7 rfl) rfl (gm p2)) (.k (ldc_at (.o 5 rfl rfl rfl) (.g 8 rfl) tyI) (.k (faddr (.o 5 rfl rfl rfl) (.b 0 rfl) rfl fMP) (.k (ldc (.o 5 rfl rfl rfl) (.g 10 rfl) (.b 0 rfl) tyvP) (.k (len_ (.o 5 rfl rfl rfl) rwP (.g 11 rfl) (by rw [List.length_map])) (.k (ge_ (.o 5 rfl rfl rfl) (.g 9 rfl) (.g 12 rfl) (dF (by omega))) (.k (pickF .k (.g 5 rfl) (.g 13 rfl)) (.k (mv .k (.g 14 rfl)) (.k (faddr (.o 15 rfl rfl rfl) (.b 0 rfl) rfl fMP) (.k (ldc (.o 15 rfl rfl rfl) (.g 16 rfl) (.b 0 rfl) tyvP) (.k (faddr (.o 15 rfl rfl rfl) (.b 0 rfl) rfl fMS) (.k (ldc (.o 15 rfl rfl rfl) (.g 18 rfl) (.b 0 rfl) tyvS) (.k (mv (.o 15 rfl rfl rfl) (.b 3 rfl)) (.k (idx_ (.o 15 rfl rfl rfl) rwS (.g 19 rfl) (.g 20 rfl) rfl (gm p1)) (.k (fat (.o 15 rfl rfl rfl) (.g 21 rfl) aSA rfl) (.k (ldc_at (.o 15 rfl rfl rfl) (.g 22 rfl) tyI) (.k (idx_ (.o 15 rfl rfl rfl) rwP (.g 17 rfl) (.g 23 rfl) ea (gm pa)) (.k (ld_at (.o 15 rfl rfl rfl) (.g 24 rfl) tyP rfl (show _=ptv _ _ from rfl)) (.k (faddr (.o 15 rfl rfl rfl) (.b 0 rfl) rfl fMP) (.k (ldc (.o 15 rfl rfl rfl) (.g 26 rfl) (.b 0 rfl) tyvP) (.k (faddr (.o 15 rfl rfl rfl) (.b 0 rfl) rfl fMS) (.k (ldc (.o 15 rfl rfl rfl) (.g 28 rfl) (.b 0 rfl) tyvS) (.k (mv (.o 15 rfl rfl rfl) (.b 3 rfl)) (.k (idx_ (.o 15 rfl rfl rfl) rwS (.g 29 rfl) (.g 30 rfl) rfl (gm p1)) (.k (fat (.o 15 rfl rfl rfl) (.g 31 rfl) aSB rfl) (.k (ldc_at (.o 15 rfl rfl rfl) (.g 32 rfl) tyI) (.k (idx_ (.o 15 rfl rfl rfl) rwP (.g 27 rfl) (.g 33 rfl) eb (gm pb)) (.k (ld_at (.o 15 rfl rfl rfl) (.g 34 rfl) tyP rfl (show _=ptv _ _ from rfl)) (.k (faddr (.o 15 rfl rfl rfl) (.b 0 rfl) rfl fMP) (.k (ldc (.o 15 rfl rfl rfl) (.g 36 rfl) (.b 0 rfl) tyvP) (.k (mv (.o 15 rfl rfl rfl) (.b 4 rfl)) (.k (mv (.o 15 rfl rfl rfl) (.b 5 rfl)) (.k (idx_ (.o 15 rfl rfl rfl) rwI (.g 38 rfl) (.g 39 rfl) rfl (gm p2)) (.k (ldc_at (.o 15 rfl rfl rfl) (.g 40 rfl) tyI) (.k (idx_ (.o 15 rfl rfl rfl) rwP (.g 37 rfl) (.g 41 rfl) ec (gm pc_)) (.k (ld_at (.o 15 rfl rfl rfl) (.g 42 rfl) tyP rfl (show _=ptv _ _ from rfl)) (.k (cal (.o 15 rfl rfl rfl) Tryz.func22 rfl (fn_rdiscK ea eb ec pa pb pc_ hd) (.k (.g 25 rfl) (.k (.g 35 rfl) (.k (.g 43 rfl) .n)))) (.k (not_ (.o 15 rfl rfl rfl) (.g 44 rfl)) (.k (pickF .k (.g 15 rfl) (.g 45 rfl)) .n))))))))))))))))))))))))))))))))))))))))))))))) [0,1,2,3,4,5] [46] rfl rfl ?_
     refine Tr.cond 6 rfl nofun (fun _=>?_)
     refine Tr.skip (Nx.bkN (Nx.go (Tr.reg [(5,2)] (.k (mv .k (.b 5 rfl)) (.k (add_ .k (.g 0 rfl) .c (wr1 (by omega))) (.k (asg .k (.g 1 rfl)) .n))) [0,1,2,3,4] [2] rfl rfl (Nx.again ((crw P T s).length - (k+1)) (by omega) [.b 1 (SP.mesh P T S) 26 3,.s 3 (ivec (idxs (crdB P T S) S.length)),.s 5 (iv ((nx:Nat):Int)),.s 6 (iv ((i:Nat):Int)),.s 7 (ivec (crw P T s)),.s 9 (iv (((k+1):Nat):Int))] ⟨(k+1),hk2,rfl,rfl⟩ (Sub.all (.cons 0 rfl (.cons 1 rfl (.cons 2 rfl (.cons 3 rfl (.cons 4 rfl (.cons 5 rfl .nil)))))))))))
    ·
     refine Tr.exit (Nx.thX (Nx.thX (Nx.bkX (Nx.bkN (Nx.go (Tr.reg [(3,2)] (.k (mv .k (.b 3 rfl)) (.k (add_ .k (.g 0 rfl) .c (wr1 (by omega))) (.k (asg .k (.g 1 rfl)) .n))) [0,1,2] [2] rfl rfl (Nx.again (S.length - (i+1)) (by omega) [.b 1 (SP.mesh P T S) 26 3,.s 3 (ivec (idxs (crdB P T S) S.length)),.s 5 (iv ((nx:Nat):Int)),.s 6 (iv (((i+1):Nat):Int))] ⟨(i+1),nx,⟨hi2,hnx⟩,rfl,rfl⟩ (Sub.all (.cons 0 rfl (.cons 1 rfl (.cons 2 rfl (.cons 3 rfl .nil))))))))))))
  ·
   obtain rfl:i=S.length:=by have:=of_decide_eq_false e32;have:=hinv.1;omega
   refine Tr.exit (Nx.thX (Nx.thX (Nx.bkX (Nx.go (Tr.seq (Tr.rs [] (.k (mv .k (.b 2 rfl)) (.k (mv .k (.b 1 rfl)) (.k (len_ .k rwI (.g 1 rfl) (by rw [List.length_map])) (.k (ne_ .k (.g 0 rfl) (.g 2 rfl) (bne_eq_false_iff_eq.2 (by rw [hinv.2]))) .n)))) [0,1] [3] rfl rfl ?_))))))
   refine Tr.cond 2 rfl nofun (fun _=>?_)
   refine Tr.skip (Nx.go (Tr.rs [] (.k (ld .k (.b 0 rfl) tyM) (.k (cal .k Tryz.func11 rfl (fn_SkinnyL hP hT hS hw rfl hc) (.k (.g 0 rfl) .n)) (.k (mv .k (.g 1 rfl)) (.k (exx .k (.g 2 rfl) rfl) (.k (exx .k (.g 2 rfl) rfl) (.k (asg .k (.g 3 rfl)) (.k (asg .k (.g 4 rfl)) .n))))))) [0,1] [5,6] rfl rfl ?_))
   rcases good_ok hc with ⟨h1,hg⟩|⟨h1,h2,hg⟩|⟨h1,h2,hg⟩
   ·
    refine Tr.rs [] (.k (mv .k (.b 3 rfl)) (.k (eq_ .k (.g 0 rfl) .c (beq_iff_eq.2 rfl)) (.k (mv .k (.g 1 rfl)) (.k (mv (.o 2 rfl rfl rfl) (.b 1 rfl)) (.k (len_ (.o 2 rfl rfl rfl) rwI (.g 3 rfl) (by rw [List.length_map])) (.k (eq_ (.o 2 rfl rfl rfl) (.g 4 rfl) .c (beq_eq_false_iff_ne.2 h1)) (.k (pickT .k (.g 2 rfl) (.g 5 rfl)) (.k (mv .k (.g 6 rfl)) (.k (skp (.o 7 rfl rfl rfl)) (.k (skp (.o 7 rfl rfl rfl)) (.k (skp (.o 7 rfl rfl rfl)) (.k (pickF .k (.g 7 rfl) .c) (.k (asg .k (.g 11 rfl)) .n))))))))))))) [0] [12] rfl rfl ?_
    refine Tr.rs [] (.k (ld .k (.b 0 rfl) tyM) (.k (cal .k Tryz.func18 rfl (fn_GoodL hP hT hS hw hg) (.k (.g 0 rfl) .n)) (.k (mv .k (.b 1 rfl)) (.k (eqB_ .k Tryz.underlying4 (.g 1 rfl) (.g 2 rfl) rfl) (.k (mv .k (.g 3 rfl)) (.k (cal (.o 4 rfl rfl rfl) Tryz.func7 rfl fn_known .n) (.k (pickT .k (.g 4 rfl) (.g 5 rfl)) (.k (asg .k (.g 6 rfl)) .n)))))))) [] [7] rfl rfl ?_
    refine Tr.ret (end_tmp 0 rfl rfl)
   ·
    refine Tr.rs [] (.k (mv .k (.b 3 rfl)) (.k (eq_ .k (.g 0 rfl) .c (beq_iff_eq.2 rfl)) (.k (mv .k (.g 1 rfl)) (.k (mv (.o 2 rfl rfl rfl) (.b 1 rfl)) (.k (len_ (.o 2 rfl rfl rfl) rwI (.g 3 rfl) (by rw [List.length_map])) (.k (eq_ (.o 2 rfl rfl rfl) (.g 4 rfl) .c (beq_iff_eq.2 h1)) (.k (pickT .k (.g 2 rfl) (.g 5 rfl)) (.k (mv .k (.g 6 rfl)) (.k (mv (.o 7 rfl rfl rfl) (.b 2 rfl)) (.k (len_ (.o 7 rfl rfl rfl) rwI (.g 8 rfl) (by rw [List.length_map])) (.k (eq_ (.o 7 rfl rfl rfl) (.g 9 rfl) .c (beq_eq_false_iff_ne.2 h2)) (.k (pickT .k (.g 7 rfl) (.g 10 rfl)) (.k (asg .k (.g 11 rfl)) .n))))))))))))) [0] [12] rfl rfl ?_
    refine Tr.rs [] (.k (ld .k (.b 0 rfl) tyM) (.k (cal .k Tryz.func18 rfl (fn_GoodL hP hT hS hw hg) (.k (.g 0 rfl) .n)) (.k (mv .k (.b 1 rfl)) (.k (eqB_ .k Tryz.underlying4 (.g 1 rfl) (.g 2 rfl) rfl) (.k (mv .k (.g 3 rfl)) (.k (cal (.o 4 rfl rfl rfl) Tryz.func7 rfl fn_known .n) (.k (pickT .k (.g 4 rfl) (.g 5 rfl)) (.k (asg .k (.g 6 rfl)) .n)))))))) [] [7] rfl rfl ?_
    refine Tr.ret (end_tmp 0 rfl rfl)
   ·
    refine Tr.rs [] (.k (mv .k (.b 3 rfl)) (.k (eq_ .k (.g 0 rfl) .c (beq_iff_eq.2 rfl)) (.k (mv .k (.g 1 rfl)) (.k (mv (.o 2 rfl rfl rfl) (.b 1 rfl)) (.k (len_ (.o 2 rfl rfl rfl) rwI (.g 3 rfl) (by rw [List.length_map])) (.k (eq_ (.o 2 rfl rfl rfl) (.g 4 rfl) .c (beq_iff_eq.2 h1)) (.k (pickT .k (.g 2 rfl) (.g 5 rfl)) (.k (mv .k (.g 6 rfl)) (.k (mv (.o 7 rfl rfl rfl) (.b 2 rfl)) (.k (len_ (.o 7 rfl rfl rfl) rwI (.g 8 rfl) (by rw [List.length_map])) (.k (eq_ (.o 7 rfl rfl rfl) (.g 9 rfl) .c (beq_iff_eq.2 h2)) (.k (pickT .k (.g 7 rfl) (.g 10 rfl)) (.k (asg .k (.g 11 rfl)) .n))))))))))))) [0] [12] rfl rfl ?_
    refine Tr.rs [] (.k (ld .k (.b 0 rfl) tyM) (.k (cal .k Tryz.func18 rfl (fn_GoodL hP hT hS hw hg) (.k (.g 0 rfl) .n)) (.k (mv .k (.b 1 rfl)) (.k (eqB_ .k Tryz.underlying4 (.g 1 rfl) (.g 2 rfl) rfl) (.k (mv .k (.g 3 rfl)) (.k (cal (.o 4 rfl rfl rfl) Tryz.func7 rfl fn_known .n) (.k (pickT .k (.g 4 rfl) (.g 5 rfl)) (.k (asg .k (.g 6 rfl)) .n)))))))) [] [7] rfl rfl ?_
    refine Tr.ret (end_tmp 0 rfl rfl)
theorem defectsWhole_any (P:List (Int × Int)) (T:List (Int × Int × Int)) (S:List (Int × Int)) (v:Value) (W:World) (h:(SP.mesh P T S).H (fun _=>True) v W) (hw:∀ s∈S,(Lit.int .i64 s.1).wf=true∧(Lit.int .i64 s.2).wf=true):Calls Tryz.prog 5 #[v] W fun e w'=>e = .returned (.bool true)∧Below W.heap.size W w' :=
  FnC.go (vs:=[v]) (lawWhole_any hw) W ⟨h,trivial⟩
end Go.Proofs.YtkgagdjogedoiaaGreat

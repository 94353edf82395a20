/- The document's answers about defects; meshes against each other: walked. -/
import Derived.Test.YtkgagdjogedoiaaGreatDfc
import Derived.Test.YtkgagdjogedoiaaGreatDpb
set_option linter.unusedVariables false
set_option linter.unusedSimpArgs false
set_option maxRecDepth 100000
set_option maxHeartbeats 8000000
namespace Go.Proofs.YtkgagdjogedoiaaGreat
open Go Go.RowKit Go.Proofs.YtkgagdjogedoiaaGreat.Fx Go.Proofs.YtkgagdjogedoiaaGreatW.PrintWords
theorem fn_rdiscK {P:List (Int × Int)} {a b c:Int} {u v w:Nat} {p q r:Int × Int} {k:Bool} (ha:a=u) (hb:b=v) (hc:c=w) (hp:P[u]?=some p) (hq:P[v]?=some q) (hr:P[w]?=some r) (hd:dP P a b c=k):FnC Tryz.prog 22 [.is (ptv p.1 p.2),.is (ptv q.1 q.2),.is (ptv r.1 r.2)] (bv k):=by
  rw [← hd,← dP_at ha hb hc hp hq hr]
  exact fn_rInDisc
theorem fn_rChk {P:List (Int × Int)} {T:List (Int × Int × Int)} {S:List (Int × Int)} (hP:P.length≤1000000) (hT:T.length≤1000000) (hS:S.length≤1000000):FnC Tryz.prog 25 [SP.mesh P T S] (iv (mC P T S)):=fn_rCheck hP hT hS
theorem sort2_short {l:List Int} (h:l.length≤1):sort2 l=l:=by
  match l,h with
  | [],_=>rfl
  | [x],_=>rfl
theorem sid_short {P:List (Int × Int)} {T:List (Int × Int × Int)} {S:List (Int × Int)} (hM:MeshOK P.length (oP P) T S) (s:Int × Int) (a b:Int):sid P T s a b=[]∨∃ c,sid P T s a b=[c]:=by
  rcases sid_ways hM s a b with ⟨_,h⟩|⟨k,t,c,_,_,_,_,_,⟨_,h⟩|⟨_,h⟩⟩
  · exact .inl h
  · exact .inr ⟨c,h⟩
  · exact .inl h
theorem sid_nil {P:List (Int × Int)} {T:List (Int × Int × Int)} {S:List (Int × Int)} (hM:MeshOK P.length (oP P) T S) {s:Int × Int} (hs:s∈S) (h:sid P T s s.2 s.1=[]):sid P T s s.1 s.2=crw P T s:=by
  rw [crw_sides hM hs,h,List.append_nil,sort2_short]
  rcases sid_short hM s s.1 s.2 with e|⟨c,e⟩<;>rw [e]<;>simp
theorem side_ways {P:List (Int × Int)} {T:List (Int × Int × Int)} {S:List (Int × Int)} (hM:MeshOK P.length (oP P) T S) {s:Int × Int} {k:Nat} {l:List Int} (hk:k < 2) (h:(k=0∧l=[])∨(k=1∧l=sid P T s s.1 s.2)∨(k=2∧l=crw P T s)):(k=0∧l=[])∨(k=1∧l=[]∧[]=sid P T s s.1 s.2)∨∃ c0,k=1∧l=[c0]∧[c0]=sid P T s s.1 s.2:=by
  rcases h with h|⟨h,h'⟩|⟨h,_⟩
  · exact .inl h
  · rcases sid_short hM s s.1 s.2 with e|⟨c0,e⟩
    · exact .inr (.inl ⟨h,h'.trans e,e.symm⟩)
    · exact .inr (.inr ⟨c0,h,h'.trans e,e.symm⟩)
  · omega
theorem fn_rcrowds {P:List (Int × Int)} {T:List (Int × Int × Int)} {S:List (Int × Int)} {s:Int × Int} (hP:P.length≤1000000) (hT:T.length≤1000000) (hM:MeshOK P.length (oP P) T S) (hs:s∈S):FnC Tryz.prog 30 [SP.mesh P T S,.is (sgv s)] (ivec (crw P T s)):=by
 refine FnC.of (N:=96) Tryz.func30 rfl rfl (Nat.le_of_ble_eq_true rfl) (fun w0 ok0=>?_)
 refine Tr.rs [] (.k (bxx .k (.b 0 rfl)) (.k (bxx .k (.b 1 rfl)) (.k (nilv (sz:=1) .k (.inl rfl)) .n))) [] [0,1] rfl rfl ?_
 refine Tr.rs [] (.k (oini (sz:=1) (E:=3) .k (.inl rfl)) .n) [0,1] [0] rfl rfl ?_
 refine Tr.seq (Tr.rs [] (.k (asg .k .c) .n) [0,1,2] [0] rfl rfl ?_)
 refine Tr.block (?_)
 refine Tr.loop (fun n_ F_=>∃ k:Nat,∃ l:List Int,((k=0∧l=[])∨(k=1∧l=sid P T s s.1 s.2)∨(k=2∧l=crw P T s))∧n_=2 - k∧F_=[.b 2 (SP.mesh P T S) 26 3,.b 3 (.is (sgv s)) 28 2,.o 5 1 3 (l.map fun z=>[ic z]),.s 6 (iv ((k:Nat):Int))]) (2 - 0) (F0:=[.b 2 (SP.mesh P T S) 26 3,.b 3 (.is (sgv s)) 28 2,.o 5 1 3 ([].map fun z=>[ic z]),.s 6 (iv ((0:Nat):Int))]) ⟨0,[],(.inl ⟨rfl,rfl⟩),rfl,rfl⟩ (Sub.all (.cons 0 rfl (.cons 1 rfl (.cons 2 rfl (.cons 3 rfl .nil))))) (fun n_ F_ hI=>?_)
 obtain ⟨k,l,hinv,rfl,rfl⟩:=hI
 refine Tr.seq (Tr.rs [] (.k (mv .k (.b 3 rfl)) (.k (lt_ .k (.g 0 rfl) .c rfl) .n)) [0,1,2,3] [1] rfl rfl ?_)
 refine Tr.cond 4 rfl (fun e10=>?_) (fun e10=>?_)
 ·
  have hk2:k < 2:=by have:=of_decide_eq_true e10;omega
  refine Tr.skip (Nx.go (Tr.seq (Tr.block (?_))))
  rcases side_ways hM hk2 hinv with ⟨hk,rfl⟩|⟨hk,rfl,hl1⟩|⟨c0,hk,rfl,hl1⟩
  ·
   refine Tr.rs [] (.k (faddr .k (.b 0 rfl) rfl fMT) (.k (ldc .k (.g 0 rfl) (.b 0 rfl) tyvT) (.k (faddr .k (.b 1 rfl) rfl fSA) (.k (ldc .k (.g 2 rfl) (.b 1 rfl) tyI) (.k (faddr .k (.b 1 rfl) rfl fSB) (.k (ldc .k (.g 4 rfl) (.b 1 rfl) tyI) (.k (cal .k Tryz.func48 rfl (fn_Left hT) (.k (.g 1 rfl) (.k (.g 3 rfl) (.k (.g 5 rfl) .n)))) (.k (asg .k (.g 6 rfl)) .n)))))))) [0,1,2,3] [7] rfl rfl ?_
   refine Tr.seq (Tr.rs [] (.k (mv .k (.b 3 rfl)) (.k (eq_ .k (.g 0 rfl) .c (beq_eq_false_iff_ne.2 (by omega))) .n)) [0,1,2,3,4] [1] rfl rfl ?_)
   refine Tr.cond 5 rfl nofun (fun _=>?_)
   refine Tr.skip (Nx.go (?_))
   rcases sid_ways hM s s.1 s.2 with ⟨h1,h2⟩|⟨j,t,c,e1,p1,ec0,hc,hg,⟨hd,h2⟩|⟨hd,h2⟩⟩
   ·
    refine Tr.seq (Tr.rs [] (.k (mv .k (.b 4 rfl)) (.k (lt_ .k (.g 0 rfl) .c (decide_eq_true h1)) .n)) [0,1,2,3,4] [1] rfl rfl ?_)
    refine Tr.cond 5 rfl (fun _=>?_) nofun
    refine Tr.exit (Nx.thX (Nx.bkX (Nx.go (Tr.reg [(3,2)] (.k (mv .k (.b 3 rfl)) (.k (add_ .k (.g 0 rfl) .c (wr1 (by omega))) (.k (asg .k (.g 1 rfl)) .n))) [0,1,2] [2] rfl rfl (Nx.again (2 - (k+1)) (by omega) [.b 2 (SP.mesh P T S) 26 3,.b 3 (.is (sgv s)) 28 2,.o 5 1 3 ([].map fun z=>[ic z]),.s 6 (iv (((k+1):Nat):Int))] ⟨(k+1),[],(.inr (.inl ⟨by omega,h2.symm⟩)),rfl,rfl⟩ (Sub.all (.cons 0 rfl (.cons 1 rfl (.cons 2 rfl (.cons 3 rfl .nil))))))))))
   ·
    rw [e1]
    have g1:=hg.1
    have g2:=hg.2.1
    have g3:=hg.2.2.1
    have z1:=inP_lt (seg_in hM hs).1
    have z2:=inP_lt (seg_in hM hs).2
    obtain ⟨u,p,ea,pa⟩:=(seg_in hM hs).1
    obtain ⟨v,q,eb,pb⟩:=(seg_in hM hs).2
    obtain ⟨w,r,ec,pc_⟩:=hc
    refine Tr.seq (Tr.rs [] (.k (mv .k (.b 4 rfl)) (.k (lt_ .k (.g 0 rfl) .c (dF (by omega))) .n)) [0,1,2,3,4] [1] rfl rfl ?_)
    refine Tr.cond 5 rfl nofun (fun _=>?_)
    refine Tr.skip (Nx.go (Tr.ds hmx [] (.k (faddr .k (.b 0 rfl) rfl fMT) (.k (ldc .k (.g 0 rfl) (.b 0 rfl) tyvT) (.k (mv .k (.b 4 rfl)) (.k (idx_ .k rwT (.g 1 rfl) (.g 2 rfl) rfl (gm p1)) (.k (fat .k (.g 3 rfl) aTA rfl) (.k (ldc_at .k (.g 4 rfl) tyI) (.k (faddr .k (.b 0 rfl) rfl fMT) (.k (ldc .k (.g 6 rfl) (.b 0 rfl) tyvT) (.k (mv .k (.b 4 rfl)) (.k (idx_ .k rwT (.g 7 rfl) (.g 8 rfl) rfl (gm p1)) (.k (fat .k (.g 9 rfl) aTB rfl) (.k (ldc_at .k (.g 10 rfl) tyI) (.k (add_ .k (.g 5 rfl) (.g 11 rfl) (show IntKind.i64.wrap (t.1+t.2.1)=t.1+t.2.1 by rw [IntWalk.i64_in _ (by omega)])) (.k (faddr .k (.b 0 rfl) rfl fMT) (.k (ldc .k (.g 13 rfl) (.b 0 rfl) tyvT) (.k (mv .k (.b 4 rfl)) (.k (idx_ .k rwT (.g 14 rfl) (.g 15 rfl) rfl (gm p1)) (.k (fat .k (.g 16 rfl) aTC rfl) (.k (ldc_at .k (.g 17 rfl) tyI) (.k (add_ .k (.g 12 rfl) (.g 18 rfl) (show IntKind.i64.wrap (t.1+t.2.1+t.2.2)=t.1+t.2.1+t.2.2 by rw [IntWalk.i64_in _ (by omega)])) (.k (faddr .k (.b 1 rfl) rfl fSA) (.k (ldc .k (.g 20 rfl) (.b 1 rfl) tyI) (.k (sub_ .k (.g 19 rfl) (.g 21 rfl) (show IntKind.i64.wrap (t.1+t.2.1+t.2.2 - s.1)=t.1+t.2.1+t.2.2 - s.1 by rw [IntWalk.i64_in _ (by omega)])) (.k (faddr .k (.b 1 rfl) rfl fSB) (.k (ldc .k (.g 23 rfl) (.b 1 rfl) tyI) (.k (sub_ .k (.g 22 rfl) (.g 24 rfl) (show IntKind.i64.wrap (t.1+t.2.1+t.2.2 - s.1 - s.2)=c by rw [IntWalk.i64_in _ (by omega)];omega)) (.k (asg .k (.g 25 rfl)) .n))))))))))))))))))))))))))) [0,1,2,3] [26] rfl rfl ?_))
    refine Tr.seq (Tr.ds hmx [] (.k (faddr .k (.b 0 rfl) rfl fMP) (.k (ldc .k (.g 0 rfl) (.b 0 rfl) tyvP) (.k (faddr .k (.b 1 rfl) rfl fSA) (.k (ldc .k (.g 2 rfl) (.b 1 rfl) tyI) (.k (idx_ .k rwP (.g 1 rfl) (.g 3 rfl) ea (gm pa)) (.k (ld_at .k (.g 4 rfl) tyP rfl (show _=ptv _ _ from rfl)) (.k (faddr .k (.b 0 rfl) rfl fMP) (.k (ldc .k (.g 6 rfl) (.b 0 rfl) tyvP) (.k (faddr .k (.b 1 rfl) rfl fSB) (.k (ldc .k (.g 8 rfl) (.b 1 rfl) tyI) (.k (idx_ .k rwP (.g 7 rfl) (.g 9 rfl) eb (gm pb)) (.k (ld_at .k (.g 10 rfl) tyP rfl (show _=ptv _ _ from rfl)) (.k (faddr .k (.b 0 rfl) rfl fMP) (.k (ldc .k (.g 12 rfl) (.b 0 rfl) tyvP) (.k (mv .k (.b 4 rfl)) (.k (idx_ .k rwP (.g 13 rfl) (.g 14 rfl) ec (gm pc_)) (.k (ld_at .k (.g 15 rfl) tyP rfl (show _=ptv _ _ from rfl)) (.k (cal .k Tryz.func22 rfl (fn_rdiscK ea eb ec pa pb pc_ hd) (.k (.g 5 rfl) (.k (.g 11 rfl) (.k (.g 16 rfl) .n)))) (.k (not_ .k (.g 17 rfl)) .n))))))))))))))))))) [0,1,2,3,4] [18] rfl rfl ?_)
    refine Tr.cond 5 rfl nofun (fun _=>?_)
    refine Tr.skip (Nx.go (Tr.rs [] (.k (pk .k (.inr rfl) (.b 2 rfl) rfl) (.k (lenA .k rwI (.g 0 rfl) (.b 2 rfl) rfl) (.k (eq_ .k (.g 1 rfl) .c (beq_eq_false_iff_ne.2 (by decide))) (.k (mv .k (.g 2 rfl)) (.k (skp (.o 3 rfl rfl rfl)) (.k (skpv (.o 3 rfl rfl rfl)) (.k (skp (.o 3 rfl rfl rfl)) (.k (skp (.o 3 rfl rfl rfl)) (.k (skp (.o 3 rfl rfl rfl)) (.k (pickF .k (.g 3 rfl) .c) .n)))))))))) [0,1,2,3,4] [9] rfl rfl ?_))
    refine Tr.cond 5 rfl nofun (fun _=>?_)
    refine Tr.reg [(2,0),(1000,3),(1003,4)] (.k (omv .k (.inr rfl) (.b 2 rfl)) (.k (mv .k (.b 4 rfl)) (.k (mkrow .k rwI (.k (.g 1 rfl) .n) rfl rfl (by kernel_rfl)) (.k (oapp_ .k apI (.g 0 rfl) (.g 2 rfl) (by decide) ⟨(show List.map (fun z=>[ic z]) []++[[ic c]]=List.map (fun z=>[ic z]) ([]++[c]) by simp),⟨rfl,rfl⟩,by rw [List.length_map];decide⟩) (.k (omv .k (.inl rfl) (.g 3 rfl)) .n))))) [0,1,3] [4] rfl rfl (Nx.bkN (Nx.go (Tr.reg [(2,2)] (.k (mv .k (.b 2 rfl)) (.k (add_ .k (.g 0 rfl) .c (wr1 (by omega))) (.k (asg .k (.g 1 rfl)) .n))) [0,1,3] [2] rfl rfl (Nx.again (2 - (k+1)) (by omega) [.b 2 (SP.mesh P T S) 26 3,.b 3 (.is (sgv s)) 28 2,.o 5 1 3 (([]++[c]).map fun z=>[ic z]),.s 6 (iv (((k+1):Nat):Int))] ⟨(k+1),([]++[c]),(.inr (.inl ⟨by omega,h2.symm⟩)),rfl,rfl⟩ (Sub.all (.cons 0 rfl (.cons 1 rfl (.cons 2 rfl (.cons 3 rfl .nil)))))))))
   ·
    rw [e1]
    have g1:=hg.1
    have g2:=hg.2.1
    have g3:=hg.2.2.1
    have z1:=inP_lt (seg_in hM hs).1
    have z2:=inP_lt (seg_in hM hs).2
    obtain ⟨u,p,ea,pa⟩:=(seg_in hM hs).1
    obtain ⟨v,q,eb,pb⟩:=(seg_in hM hs).2
    obtain ⟨w,r,ec,pc_⟩:=hc
    refine Tr.seq (Tr.rs [] (.k (mv .k (.b 4 rfl)) (.k (lt_ .k (.g 0 rfl) .c (dF (by omega))) .n)) [0,1,2,3,4] [1] rfl rfl ?_)
    refine Tr.cond 5 rfl nofun (fun _=>?_)
    refine Tr.skip (Nx.go (Tr.ds hmx [] (.k (faddr .k (.b 0 rfl) rfl fMT) (.k (ldc .k (.g 0 rfl) (.b 0 rfl) tyvT) (.k (mv .k (.b 4 rfl)) (.k (idx_ .k rwT (.g 1 rfl) (.g 2 rfl) rfl (gm p1)) (.k (fat .k (.g 3 rfl) aTA rfl) (.k (ldc_at .k (.g 4 rfl) tyI) (.k (faddr .k (.b 0 rfl) rfl fMT) (.k (ldc .k (.g 6 rfl) (.b 0 rfl) tyvT) (.k (mv .k (.b 4 rfl)) (.k (idx_ .k rwT (.g 7 rfl) (.g 8 rfl) rfl (gm p1)) (.k (fat .k (.g 9 rfl) aTB rfl) (.k (ldc_at .k (.g 10 rfl) tyI) (.k (add_ .k (.g 5 rfl) (.g 11 rfl) (show IntKind.i64.wrap (t.1+t.2.1)=t.1+t.2.1 by rw [IntWalk.i64_in _ (by omega)])) (.k (faddr .k (.b 0 rfl) rfl fMT) (.k (ldc .k (.g 13 rfl) (.b 0 rfl) tyvT) (.k (mv .k (.b 4 rfl)) (.k (idx_ .k rwT (.g 14 rfl) (.g 15 rfl) rfl (gm p1)) (.k (fat .k (.g 16 rfl) aTC rfl) (.k (ldc_at .k (.g 17 rfl) tyI) (.k (add_ .k (.g 12 rfl) (.g 18 rfl) (show IntKind.i64.wrap (t.1+t.2.1+t.2.2)=t.1+t.2.1+t.2.2 by rw [IntWalk.i64_in _ (by omega)])) (.k (faddr .k (.b 1 rfl) rfl fSA) (.k (ldc .k (.g 20 rfl) (.b 1 rfl) tyI) (.k (sub_ .k (.g 19 rfl) (.g 21 rfl) (show IntKind.i64.wrap (t.1+t.2.1+t.2.2 - s.1)=t.1+t.2.1+t.2.2 - s.1 by rw [IntWalk.i64_in _ (by omega)])) (.k (faddr .k (.b 1 rfl) rfl fSB) (.k (ldc .k (.g 23 rfl) (.b 1 rfl) tyI) (.k (sub_ .k (.g 22 rfl) (.g 24 rfl) (show IntKind.i64.wrap (t.1+t.2.1+t.2.2 - s.1 - s.2)=c by rw [IntWalk.i64_in _ (by omega)];omega)) (.k (asg .k (.g 25 rfl)) .n))))))))))))))))))))))))))) [0,1,2,3] [26] rfl rfl ?_))
    refine Tr.seq (Tr.ds hmx [] (.k (faddr .k (.b 0 rfl) rfl fMP) (.k (ldc .k (.g 0 rfl) (.b 0 rfl) tyvP) (.k (faddr .k (.b 1 rfl) rfl fSA) (.k (ldc .k (.g 2 rfl) (.b 1 rfl) tyI) (.k (idx_ .k rwP (.g 1 rfl) (.g 3 rfl) ea (gm pa)) (.k (ld_at .k (.g 4 rfl) tyP rfl (show _=ptv _ _ from rfl)) (.k (faddr .k (.b 0 rfl) rfl fMP) (.k (ldc .k (.g 6 rfl) (.b 0 rfl) tyvP) (.k (faddr .k (.b 1 rfl) rfl fSB) (.k (ldc .k (.g 8 rfl) (.b 1 rfl) tyI) (.k (idx_ .k rwP (.g 7 rfl) (.g 9 rfl) eb (gm pb)) (.k (ld_at .k (.g 10 rfl) tyP rfl (show _=ptv _ _ from rfl)) (.k (faddr .k (.b 0 rfl) rfl fMP) (.k (ldc .k (.g 12 rfl) (.b 0 rfl) tyvP) (.k (mv .k (.b 4 rfl)) (.k (idx_ .k rwP (.g 13 rfl) (.g 14 rfl) ec (gm pc_)) (.k (ld_at .k (.g 15 rfl) tyP rfl (show _=ptv _ _ from rfl)) (.k (cal .k Tryz.func22 rfl (fn_rdiscK ea eb ec pa pb pc_ hd) (.k (.g 5 rfl) (.k (.g 11 rfl) (.k (.g 16 rfl) .n)))) (.k (not_ .k (.g 17 rfl)) .n))))))))))))))))))) [0,1,2,3,4] [18] rfl rfl ?_)
    refine Tr.cond 5 rfl (fun _=>?_) nofun
    refine Tr.exit (Nx.thX (Nx.bkX (Nx.go (Tr.reg [(3,2)] (.k (mv .k (.b 3 rfl)) (.k (add_ .k (.g 0 rfl) .c (wr1 (by omega))) (.k (asg .k (.g 1 rfl)) .n))) [0,1,2] [2] rfl rfl (Nx.again (2 - (k+1)) (by omega) [.b 2 (SP.mesh P T S) 26 3,.b 3 (.is (sgv s)) 28 2,.o 5 1 3 ([].map fun z=>[ic z]),.s 6 (iv (((k+1):Nat):Int))] ⟨(k+1),[],(.inr (.inl ⟨by omega,h2.symm⟩)),rfl,rfl⟩ (Sub.all (.cons 0 rfl (.cons 1 rfl (.cons 2 rfl (.cons 3 rfl .nil))))))))))
  ·
   refine Tr.rs [] (.k (faddr .k (.b 0 rfl) rfl fMT) (.k (ldc .k (.g 0 rfl) (.b 0 rfl) tyvT) (.k (faddr .k (.b 1 rfl) rfl fSA) (.k (ldc .k (.g 2 rfl) (.b 1 rfl) tyI) (.k (faddr .k (.b 1 rfl) rfl fSB) (.k (ldc .k (.g 4 rfl) (.b 1 rfl) tyI) (.k (cal .k Tryz.func48 rfl (fn_Left hT) (.k (.g 1 rfl) (.k (.g 3 rfl) (.k (.g 5 rfl) .n)))) (.k (asg .k (.g 6 rfl)) .n)))))))) [0,1,2,3] [7] rfl rfl ?_
   refine Tr.seq (Tr.rs [] (.k (mv .k (.b 3 rfl)) (.k (eq_ .k (.g 0 rfl) .c (beq_iff_eq.2 (by omega))) .n)) [0,1,2,3,4] [1] rfl rfl ?_)
   refine Tr.cond 5 rfl (fun _=>?_) nofun
   refine Tr.reg [(4,7)] (.k (faddr .k (.b 0 rfl) rfl fMT) (.k (ldc .k (.g 0 rfl) (.b 0 rfl) tyvT) (.k (faddr .k (.b 1 rfl) rfl fSB) (.k (ldc .k (.g 2 rfl) (.b 1 rfl) tyI) (.k (faddr .k (.b 1 rfl) rfl fSA) (.k (ldc .k (.g 4 rfl) (.b 1 rfl) tyI) (.k (cal .k Tryz.func48 rfl (fn_Left hT) (.k (.g 1 rfl) (.k (.g 3 rfl) (.k (.g 5 rfl) .n)))) (.k (asg .k (.g 6 rfl)) .n)))))))) [0,1,2,3] [7] rfl rfl (Nx.go (?_))
   rcases sid_ways hM s s.2 s.1 with ⟨h1,h2⟩|⟨j,t,c,e1,p1,ec0,hc,hg,⟨hd,h2⟩|⟨hd,h2⟩⟩
   ·
    refine Tr.seq (Tr.rs [] (.k (mv .k (.b 4 rfl)) (.k (lt_ .k (.g 0 rfl) .c (decide_eq_true h1)) .n)) [0,1,2,3,4] [1] rfl rfl ?_)
    refine Tr.cond 5 rfl (fun _=>?_) nofun
    refine Tr.exit (Nx.thX (Nx.bkX (Nx.go (Tr.reg [(3,2)] (.k (mv .k (.b 3 rfl)) (.k (add_ .k (.g 0 rfl) .c (wr1 (by omega))) (.k (asg .k (.g 1 rfl)) .n))) [0,1,2] [2] rfl rfl (Nx.again (2 - (k+1)) (by omega) [.b 2 (SP.mesh P T S) 26 3,.b 3 (.is (sgv s)) 28 2,.o 5 1 3 ([].map fun z=>[ic z]),.s 6 (iv (((k+1):Nat):Int))] ⟨(k+1),[],(.inr (.inr ⟨by omega,hl1.trans (sid_nil hM hs h2)⟩)),rfl,rfl⟩ (Sub.all (.cons 0 rfl (.cons 1 rfl (.cons 2 rfl (.cons 3 rfl .nil))))))))))
   ·
    rw [e1]
    have g1:=hg.1
    have g2:=hg.2.1
    have g3:=hg.2.2.1
    have z1:=inP_lt (seg_in hM hs).1
    have z2:=inP_lt (seg_in hM hs).2
    obtain ⟨u,p,ea,pa⟩:=(seg_in hM hs).1
    obtain ⟨v,q,eb,pb⟩:=(seg_in hM hs).2
    obtain ⟨w,r,ec,pc_⟩:=hc
    have hw:=crw_sides hM hs
    rw [hl1.symm,h2] at hw
    refine Tr.seq (Tr.rs [] (.k (mv .k (.b 4 rfl)) (.k (lt_ .k (.g 0 rfl) .c (dF (by omega))) .n)) [0,1,2,3,4] [1] rfl rfl ?_)
    refine Tr.cond 5 rfl nofun (fun _=>?_)
    refine Tr.skip (Nx.go (Tr.ds hmx [] (.k (faddr .k (.b 0 rfl) rfl fMT) (.k (ldc .k (.g 0 rfl) (.b 0 rfl) tyvT) (.k (mv .k (.b 4 rfl)) (.k (idx_ .k rwT (.g 1 rfl) (.g 2 rfl) rfl (gm p1)) (.k (fat .k (.g 3 rfl) aTA rfl) (.k (ldc_at .k (.g 4 rfl) tyI) (.k (faddr .k (.b 0 rfl) rfl fMT) (.k (ldc .k (.g 6 rfl) (.b 0 rfl) tyvT) (.k (mv .k (.b 4 rfl)) (.k (idx_ .k rwT (.g 7 rfl) (.g 8 rfl) rfl (gm p1)) (.k (fat .k (.g 9 rfl) aTB rfl) (.k (ldc_at .k (.g 10 rfl) tyI) (.k (add_ .k (.g 5 rfl) (.g 11 rfl) (show IntKind.i64.wrap (t.1+t.2.1)=t.1+t.2.1 by rw [IntWalk.i64_in _ (by omega)])) (.k (faddr .k (.b 0 rfl) rfl fMT) (.k (ldc .k (.g 13 rfl) (.b 0 rfl) tyvT) (.k (mv .k (.b 4 rfl)) (.k (idx_ .k rwT (.g 14 rfl) (.g 15 rfl) rfl (gm p1)) (.k (fat .k (.g 16 rfl) aTC rfl) (.k (ldc_at .k (.g 17 rfl) tyI) (.k (add_ .k (.g 12 rfl) (.g 18 rfl) (show IntKind.i64.wrap (t.1+t.2.1+t.2.2)=t.1+t.2.1+t.2.2 by rw [IntWalk.i64_in _ (by omega)])) (.k (faddr .k (.b 1 rfl) rfl fSA) (.k (ldc .k (.g 20 rfl) (.b 1 rfl) tyI) (.k (sub_ .k (.g 19 rfl) (.g 21 rfl) (show IntKind.i64.wrap (t.1+t.2.1+t.2.2 - s.1)=t.1+t.2.1+t.2.2 - s.1 by rw [IntWalk.i64_in _ (by omega)])) (.k (faddr .k (.b 1 rfl) rfl fSB) (.k (ldc .k (.g 23 rfl) (.b 1 rfl) tyI) (.k (sub_ .k (.g 22 rfl) (.g 24 rfl) (show IntKind.i64.wrap (t.1+t.2.1+t.2.2 - s.1 - s.2)=c by rw [IntWalk.i64_in _ (by omega)];omega)) (.k (asg .k (.g 25 rfl)) .n))))))))))))))))))))))))))) [0,1,2,3] [26] rfl rfl ?_))
    refine Tr.seq (Tr.ds hmx [] (.k (faddr .k (.b 0 rfl) rfl fMP) (.k (ldc .k (.g 0 rfl) (.b 0 rfl) tyvP) (.k (faddr .k (.b 1 rfl) rfl fSA) (.k (ldc .k (.g 2 rfl) (.b 1 rfl) tyI) (.k (idx_ .k rwP (.g 1 rfl) (.g 3 rfl) ea (gm pa)) (.k (ld_at .k (.g 4 rfl) tyP rfl (show _=ptv _ _ from rfl)) (.k (faddr .k (.b 0 rfl) rfl fMP) (.k (ldc .k (.g 6 rfl) (.b 0 rfl) tyvP) (.k (faddr .k (.b 1 rfl) rfl fSB) (.k (ldc .k (.g 8 rfl) (.b 1 rfl) tyI) (.k (idx_ .k rwP (.g 7 rfl) (.g 9 rfl) eb (gm pb)) (.k (ld_at .k (.g 10 rfl) tyP rfl (show _=ptv _ _ from rfl)) (.k (faddr .k (.b 0 rfl) rfl fMP) (.k (ldc .k (.g 12 rfl) (.b 0 rfl) tyvP) (.k (mv .k (.b 4 rfl)) (.k (idx_ .k rwP (.g 13 rfl) (.g 14 rfl) ec (gm pc_)) (.k (ld_at .k (.g 15 rfl) tyP rfl (show _=ptv _ _ from rfl)) (.k (cal .k Tryz.func22 rfl (fn_rdiscK ea eb ec pa pb pc_ hd) (.k (.g 5 rfl) (.k (.g 11 rfl) (.k (.g 16 rfl) .n)))) (.k (not_ .k (.g 17 rfl)) .n))))))))))))))))))) [0,1,2,3,4] [18] rfl rfl ?_)
    refine Tr.cond 5 rfl nofun (fun _=>?_)
    refine Tr.skip (Nx.go (Tr.rs [] (.k (pk .k (.inr rfl) (.b 2 rfl) rfl) (.k (lenA .k rwI (.g 0 rfl) (.b 2 rfl) rfl) (.k (eq_ .k (.g 1 rfl) .c (beq_eq_false_iff_ne.2 (by decide))) (.k (mv .k (.g 2 rfl)) (.k (skp (.o 3 rfl rfl rfl)) (.k (skpv (.o 3 rfl rfl rfl)) (.k (skp (.o 3 rfl rfl rfl)) (.k (skp (.o 3 rfl rfl rfl)) (.k (skp (.o 3 rfl rfl rfl)) (.k (pickF .k (.g 3 rfl) .c) .n)))))))))) [0,1,2,3,4] [9] rfl rfl ?_))
    refine Tr.cond 5 rfl nofun (fun _=>?_)
    refine Tr.reg [(2,0),(1000,3),(1003,4)] (.k (omv .k (.inr rfl) (.b 2 rfl)) (.k (mv .k (.b 4 rfl)) (.k (mkrow .k rwI (.k (.g 1 rfl) .n) rfl rfl (by kernel_rfl)) (.k (oapp_ .k apI (.g 0 rfl) (.g 2 rfl) (by decide) ⟨(show List.map (fun z=>[ic z]) []++[[ic c]]=List.map (fun z=>[ic z]) ([]++[c]) by simp),⟨rfl,rfl⟩,by rw [List.length_map];decide⟩) (.k (omv .k (.inl rfl) (.g 3 rfl)) .n))))) [0,1,3] [4] rfl rfl (Nx.bkN (Nx.go (Tr.reg [(2,2)] (.k (mv .k (.b 2 rfl)) (.k (add_ .k (.g 0 rfl) .c (wr1 (by omega))) (.k (asg .k (.g 1 rfl)) .n))) [0,1,3] [2] rfl rfl (Nx.again (2 - (k+1)) (by omega) [.b 2 (SP.mesh P T S) 26 3,.b 3 (.is (sgv s)) 28 2,.o 5 1 3 (([]++[c]).map fun z=>[ic z]),.s 6 (iv (((k+1):Nat):Int))] ⟨(k+1),([]++[c]),(.inr (.inr ⟨by omega,hw.symm⟩)),rfl,rfl⟩ (Sub.all (.cons 0 rfl (.cons 1 rfl (.cons 2 rfl (.cons 3 rfl .nil)))))))))
   ·
    rw [e1]
    have g1:=hg.1
    have g2:=hg.2.1
    have g3:=hg.2.2.1
    have z1:=inP_lt (seg_in hM hs).1
    have z2:=inP_lt (seg_in hM hs).2
    obtain ⟨u,p,ea,pa⟩:=(seg_in hM hs).1
    obtain ⟨v,q,eb,pb⟩:=(seg_in hM hs).2
    obtain ⟨w,r,ec,pc_⟩:=hc
    refine Tr.seq (Tr.rs [] (.k (mv .k (.b 4 rfl)) (.k (lt_ .k (.g 0 rfl) .c (dF (by omega))) .n)) [0,1,2,3,4] [1] rfl rfl ?_)
    refine Tr.cond 5 rfl nofun (fun _=>?_)
    refine Tr.skip (Nx.go (Tr.ds hmx [] (.k (faddr .k (.b 0 rfl) rfl fMT) (.k (ldc .k (.g 0 rfl) (.b 0 rfl) tyvT) (.k (mv .k (.b 4 rfl)) (.k (idx_ .k rwT (.g 1 rfl) (.g 2 rfl) rfl (gm p1)) (.k (fat .k (.g 3 rfl) aTA rfl) (.k (ldc_at .k (.g 4 rfl) tyI) (.k (faddr .k (.b 0 rfl) rfl fMT) (.k (ldc .k (.g 6 rfl) (.b 0 rfl) tyvT) (.k (mv .k (.b 4 rfl)) (.k (idx_ .k rwT (.g 7 rfl) (.g 8 rfl) rfl (gm p1)) (.k (fat .k (.g 9 rfl) aTB rfl) (.k (ldc_at .k (.g 10 rfl) tyI) (.k (add_ .k (.g 5 rfl) (.g 11 rfl) (show IntKind.i64.wrap (t.1+t.2.1)=t.1+t.2.1 by rw [IntWalk.i64_in _ (by omega)])) (.k (faddr .k (.b 0 rfl) rfl fMT) (.k (ldc .k (.g 13 rfl) (.b 0 rfl) tyvT) (.k (mv .k (.b 4 rfl)) (.k (idx_ .k rwT (.g 14 rfl) (.g 15 rfl) rfl (gm p1)) (.k (fat .k (.g 16 rfl) aTC rfl) (.k (ldc_at .k (.g 17 rfl) tyI) (.k (add_ .k (.g 12 rfl) (.g 18 rfl) (show IntKind.i64.wrap (t.1+t.2.1+t.2.2)=t.1+t.2.1+t.2.2 by rw [IntWalk.i64_in _ (by omega)])) (.k (faddr .k (.b 1 rfl) rfl fSA) (.k (ldc .k (.g 20 rfl) (.b 1 rfl) tyI) (.k (sub_ .k (.g 19 rfl) (.g 21 rfl) (show IntKind.i64.wrap (t.1+t.2.1+t.2.2 - s.1)=t.1+t.2.1+t.2.2 - s.1 by rw [IntWalk.i64_in _ (by omega)])) (.k (faddr .k (.b 1 rfl) rfl fSB) (.k (ldc .k (.g 23 rfl) (.b 1 rfl) tyI) (.k (sub_ .k (.g 22 rfl) (.g 24 rfl) (show IntKind.i64.wrap (t.1+t.2.1+t.2.2 - s.1 - s.2)=c by rw [IntWalk.i64_in _ (by omega)];omega)) (.k (asg .k (.g 25 rfl)) .n))))))))))))))))))))))))))) [0,1,2,3] [26] rfl rfl ?_))
    refine Tr.seq (Tr.ds hmx [] (.k (faddr .k (.b 0 rfl) rfl fMP) (.k (ldc .k (.g 0 rfl) (.b 0 rfl) tyvP) (.k (faddr .k (.b 1 rfl) rfl fSA) (.k (ldc .k (.g 2 rfl) (.b 1 rfl) tyI) (.k (idx_ .k rwP (.g 1 rfl) (.g 3 rfl) ea (gm pa)) (.k (ld_at .k (.g 4 rfl) tyP rfl (show _=ptv _ _ from rfl)) (.k (faddr .k (.b 0 rfl) rfl fMP) (.k (ldc .k (.g 6 rfl) (.b 0 rfl) tyvP) (.k (faddr .k (.b 1 rfl) rfl fSB) (.k (ldc .k (.g 8 rfl) (.b 1 rfl) tyI) (.k (idx_ .k rwP (.g 7 rfl) (.g 9 rfl) eb (gm pb)) (.k (ld_at .k (.g 10 rfl) tyP rfl (show _=ptv _ _ from rfl)) (.k (faddr .k (.b 0 rfl) rfl fMP) (.k (ldc .k (.g 12 rfl) (.b 0 rfl) tyvP) (.k (mv .k (.b 4 rfl)) (.k (idx_ .k rwP (.g 13 rfl) (.g 14 rfl) ec (gm pc_)) (.k (ld_at .k (.g 15 rfl) tyP rfl (show _=ptv _ _ from rfl)) (.k (cal .k Tryz.func22 rfl (fn_rdiscK ea eb ec pa pb pc_ hd) (.k (.g 5 rfl) (.k (.g 11 rfl) (.k (.g 16 rfl) .n)))) (.k (not_ .k (.g 17 rfl)) .n))))))))))))))))))) [0,1,2,3,4] [18] rfl rfl ?_)
    refine Tr.cond 5 rfl (fun _=>?_) nofun
    refine Tr.exit (Nx.thX (Nx.bkX (Nx.go (Tr.reg [(3,2)] (.k (mv .k (.b 3 rfl)) (.k (add_ .k (.g 0 rfl) .c (wr1 (by omega))) (.k (asg .k (.g 1 rfl)) .n))) [0,1,2] [2] rfl rfl (Nx.again (2 - (k+1)) (by omega) [.b 2 (SP.mesh P T S) 26 3,.b 3 (.is (sgv s)) 28 2,.o 5 1 3 ([].map fun z=>[ic z]),.s 6 (iv (((k+1):Nat):Int))] ⟨(k+1),[],(.inr (.inr ⟨by omega,hl1.trans (sid_nil hM hs h2)⟩)),rfl,rfl⟩ (Sub.all (.cons 0 rfl (.cons 1 rfl (.cons 2 rfl (.cons 3 rfl .nil))))))))))
  ·
   refine Tr.rs [] (.k (faddr .k (.b 0 rfl) rfl fMT) (.k (ldc .k (.g 0 rfl) (.b 0 rfl) tyvT) (.k (faddr .k (.b 1 rfl) rfl fSA) (.k (ldc .k (.g 2 rfl) (.b 1 rfl) tyI) (.k (faddr .k (.b 1 rfl) rfl fSB) (.k (ldc .k (.g 4 rfl) (.b 1 rfl) tyI) (.k (cal .k Tryz.func48 rfl (fn_Left hT) (.k (.g 1 rfl) (.k (.g 3 rfl) (.k (.g 5 rfl) .n)))) (.k (asg .k (.g 6 rfl)) .n)))))))) [0,1,2,3] [7] rfl rfl ?_
   refine Tr.seq (Tr.rs [] (.k (mv .k (.b 3 rfl)) (.k (eq_ .k (.g 0 rfl) .c (beq_iff_eq.2 (by omega))) .n)) [0,1,2,3,4] [1] rfl rfl ?_)
   refine Tr.cond 5 rfl (fun _=>?_) nofun
   refine Tr.reg [(4,7)] (.k (faddr .k (.b 0 rfl) rfl fMT) (.k (ldc .k (.g 0 rfl) (.b 0 rfl) tyvT) (.k (faddr .k (.b 1 rfl) rfl fSB) (.k (ldc .k (.g 2 rfl) (.b 1 rfl) tyI) (.k (faddr .k (.b 1 rfl) rfl fSA) (.k (ldc .k (.g 4 rfl) (.b 1 rfl) tyI) (.k (cal .k Tryz.func48 rfl (fn_Left hT) (.k (.g 1 rfl) (.k (.g 3 rfl) (.k (.g 5 rfl) .n)))) (.k (asg .k (.g 6 rfl)) .n)))))))) [0,1,2,3] [7] rfl rfl (Nx.go (?_))
   rcases sid_ways hM s s.2 s.1 with ⟨h1,h2⟩|⟨j,t,c,e1,p1,ec0,hc,hg,⟨hd,h2⟩|⟨hd,h2⟩⟩
   ·
    refine Tr.seq (Tr.rs [] (.k (mv .k (.b 4 rfl)) (.k (lt_ .k (.g 0 rfl) .c (decide_eq_true h1)) .n)) [0,1,2,3,4] [1] rfl rfl ?_)
    refine Tr.cond 5 rfl (fun _=>?_) nofun
    refine Tr.exit (Nx.thX (Nx.bkX (Nx.go (Tr.reg [(3,2)] (.k (mv .k (.b 3 rfl)) (.k (add_ .k (.g 0 rfl) .c (wr1 (by omega))) (.k (asg .k (.g 1 rfl)) .n))) [0,1,2] [2] rfl rfl (Nx.again (2 - (k+1)) (by omega) [.b 2 (SP.mesh P T S) 26 3,.b 3 (.is (sgv s)) 28 2,.o 5 1 3 ([c0].map fun z=>[ic z]),.s 6 (iv (((k+1):Nat):Int))] ⟨(k+1),[c0],(.inr (.inr ⟨by omega,hl1.trans (sid_nil hM hs h2)⟩)),rfl,rfl⟩ (Sub.all (.cons 0 rfl (.cons 1 rfl (.cons 2 rfl (.cons 3 rfl .nil))))))))))
   ·
    rw [e1]
    have g1:=hg.1
    have g2:=hg.2.1
    have g3:=hg.2.2.1
    have z1:=inP_lt (seg_in hM hs).1
    have z2:=inP_lt (seg_in hM hs).2
    obtain ⟨u,p,ea,pa⟩:=(seg_in hM hs).1
    obtain ⟨v,q,eb,pb⟩:=(seg_in hM hs).2
    obtain ⟨w,r,ec,pc_⟩:=hc
    have hw:=crw_sides hM hs
    rw [hl1.symm,h2] at hw
    refine Tr.seq (Tr.rs [] (.k (mv .k (.b 4 rfl)) (.k (lt_ .k (.g 0 rfl) .c (dF (by omega))) .n)) [0,1,2,3,4] [1] rfl rfl ?_)
    refine Tr.cond 5 rfl nofun (fun _=>?_)
    refine Tr.skip (Nx.go (Tr.ds hmx [] (.k (faddr .k (.b 0 rfl) rfl fMT) (.k (ldc .k (.g 0 rfl) (.b 0 rfl) tyvT) (.k (mv .k (.b 4 rfl)) (.k (idx_ .k rwT (.g 1 rfl) (.g 2 rfl) rfl (gm p1)) (.k (fat .k (.g 3 rfl) aTA rfl) (.k (ldc_at .k (.g 4 rfl) tyI) (.k (faddr .k (.b 0 rfl) rfl fMT) (.k (ldc .k (.g 6 rfl) (.b 0 rfl) tyvT) (.k (mv .k (.b 4 rfl)) (.k (idx_ .k rwT (.g 7 rfl) (.g 8 rfl) rfl (gm p1)) (.k (fat .k (.g 9 rfl) aTB rfl) (.k (ldc_at .k (.g 10 rfl) tyI) (.k (add_ .k (.g 5 rfl) (.g 11 rfl) (show IntKind.i64.wrap (t.1+t.2.1)=t.1+t.2.1 by rw [IntWalk.i64_in _ (by omega)])) (.k (faddr .k (.b 0 rfl) rfl fMT) (.k (ldc .k (.g 13 rfl) (.b 0 rfl) tyvT) (.k (mv .k (.b 4 rfl)) (.k (idx_ .k rwT (.g 14 rfl) (.g 15 rfl) rfl (gm p1)) (.k (fat .k (.g 16 rfl) aTC rfl) (.k (ldc_at .k (.g 17 rfl) tyI) (.k (add_ .k (.g 12 rfl) (.g 18 rfl) (show IntKind.i64.wrap (t.1+t.2.1+t.2.2)=t.1+t.2.1+t.2.2 by rw [IntWalk.i64_in _ (by omega)])) (.k (faddr .k (.b 1 rfl) rfl fSA) (.k (ldc .k (.g 20 rfl) (.b 1 rfl) tyI) (.k (sub_ .k (.g 19 rfl) (.g 21 rfl) (show IntKind.i64.wrap (t.1+t.2.1+t.2.2 - s.1)=t.1+t.2.1+t.2.2 - s.1 by rw [IntWalk.i64_in _ (by omega)])) (.k (faddr .k (.b 1 rfl) rfl fSB) (.k (ldc .k (.g 23 rfl) (.b 1 rfl) tyI) (.k (sub_ .k (.g 22 rfl) (.g 24 rfl) (show IntKind.i64.wrap (t.1+t.2.1+t.2.2 - s.1 - s.2)=c by rw [IntWalk.i64_in _ (by omega)];omega)) (.k (asg .k (.g 25 rfl)) .n))))))))))))))))))))))))))) [0,1,2,3] [26] rfl rfl ?_))
    refine Tr.seq (Tr.ds hmx [] (.k (faddr .k (.b 0 rfl) rfl fMP) (.k (ldc .k (.g 0 rfl) (.b 0 rfl) tyvP) (.k (faddr .k (.b 1 rfl) rfl fSA) (.k (ldc .k (.g 2 rfl) (.b 1 rfl) tyI) (.k (idx_ .k rwP (.g 1 rfl) (.g 3 rfl) ea (gm pa)) (.k (ld_at .k (.g 4 rfl) tyP rfl (show _=ptv _ _ from rfl)) (.k (faddr .k (.b 0 rfl) rfl fMP) (.k (ldc .k (.g 6 rfl) (.b 0 rfl) tyvP) (.k (faddr .k (.b 1 rfl) rfl fSB) (.k (ldc .k (.g 8 rfl) (.b 1 rfl) tyI) (.k (idx_ .k rwP (.g 7 rfl) (.g 9 rfl) eb (gm pb)) (.k (ld_at .k (.g 10 rfl) tyP rfl (show _=ptv _ _ from rfl)) (.k (faddr .k (.b 0 rfl) rfl fMP) (.k (ldc .k (.g 12 rfl) (.b 0 rfl) tyvP) (.k (mv .k (.b 4 rfl)) (.k (idx_ .k rwP (.g 13 rfl) (.g 14 rfl) ec (gm pc_)) (.k (ld_at .k (.g 15 rfl) tyP rfl (show _=ptv _ _ from rfl)) (.k (cal .k Tryz.func22 rfl (fn_rdiscK ea eb ec pa pb pc_ hd) (.k (.g 5 rfl) (.k (.g 11 rfl) (.k (.g 16 rfl) .n)))) (.k (not_ .k (.g 17 rfl)) .n))))))))))))))))))) [0,1,2,3,4] [18] rfl rfl ?_)
    refine Tr.cond 5 rfl nofun (fun _=>?_)
    refine Tr.skip (Nx.go (?_))
    by_cases hlt:c < c0
    ·
     refine Tr.rs [] (.k (pk .k (.inr rfl) (.b 2 rfl) rfl) (.k (lenA .k rwI (.g 0 rfl) (.b 2 rfl) rfl) (.k (eq_ .k (.g 1 rfl) .c (beq_iff_eq.2 rfl)) (.k (mv .k (.g 2 rfl)) (.k (mv (.o 3 rfl rfl rfl) (.b 4 rfl)) (.k (pk (.o 3 rfl rfl rfl) (.inr rfl) (.b 2 rfl) rfl) (.k (idxA (.o 3 rfl rfl rfl) rwI (.g 5 rfl) (.b 2 rfl) rfl .c rfl rfl rfl) (.k (ldA (.o 3 rfl rfl rfl) (.g 6 rfl) (.b 2 rfl) tyI rfl) (.k (lt_ (.o 3 rfl rfl rfl) (.g 4 rfl) (.g 7 rfl) (decide_eq_true hlt)) (.k (pickT .k (.g 3 rfl) (.g 8 rfl)) .n)))))))))) [0,1,2,3,4] [9] rfl rfl ?_
     refine Tr.cond 5 rfl (fun _=>?_) nofun
     refine Tr.reg [(2,5),(1001,5),(1002,5),(1004,5)] (.k (mv .k (.b 4 rfl)) (.k (pk .k (.inr rfl) (.b 2 rfl) rfl) (.k (idxA .k rwI (.g 1 rfl) (.b 2 rfl) rfl .c rfl rfl rfl) (.k (ldA .k (.g 2 rfl) (.b 2 rfl) tyI rfl) (.k (mkown .k rwI (.k (.g 0 rfl) (.k (.g 3 rfl) .n)) rfl rfl (by kernel_rfl) (by decide) (show _=([c,c0].map fun z=>[ic z]) from rfl)) (.k (omv .k (.inl rfl) (.g 4 rfl)) .n)))))) [0,1,3] [5] rfl rfl (Nx.bkN (Nx.go (Tr.reg [(2,2)] (.k (mv .k (.b 2 rfl)) (.k (add_ .k (.g 0 rfl) .c (wr1 (by omega))) (.k (asg .k (.g 1 rfl)) .n))) [0,1,3] [2] rfl rfl (Nx.again (2 - (k+1)) (by omega) [.b 2 (SP.mesh P T S) 26 3,.b 3 (.is (sgv s)) 28 2,.o 5 1 3 ([c,c0].map fun z=>[ic z]),.s 6 (iv (((k+1):Nat):Int))] ⟨(k+1),[c,c0],(.inr (.inr ⟨by omega,(hw.trans (if_pos hlt)).symm⟩)),rfl,rfl⟩ (Sub.all (.cons 0 rfl (.cons 1 rfl (.cons 2 rfl (.cons 3 rfl .nil)))))))))
    ·
     refine Tr.rs [] (.k (pk .k (.inr rfl) (.b 2 rfl) rfl) (.k (lenA .k rwI (.g 0 rfl) (.b 2 rfl) rfl) (.k (eq_ .k (.g 1 rfl) .c (beq_iff_eq.2 rfl)) (.k (mv .k (.g 2 rfl)) (.k (mv (.o 3 rfl rfl rfl) (.b 4 rfl)) (.k (pk (.o 3 rfl rfl rfl) (.inr rfl) (.b 2 rfl) rfl) (.k (idxA (.o 3 rfl rfl rfl) rwI (.g 5 rfl) (.b 2 rfl) rfl .c rfl rfl rfl) (.k (ldA (.o 3 rfl rfl rfl) (.g 6 rfl) (.b 2 rfl) tyI rfl) (.k (lt_ (.o 3 rfl rfl rfl) (.g 4 rfl) (.g 7 rfl) (decide_eq_false hlt)) (.k (pickT .k (.g 3 rfl) (.g 8 rfl)) .n)))))))))) [0,1,2,3,4] [9] rfl rfl ?_
     refine Tr.cond 5 rfl nofun (fun _=>?_)
     refine Tr.reg [(2,0),(1000,3),(1003,4)] (.k (omv .k (.inr rfl) (.b 2 rfl)) (.k (mv .k (.b 4 rfl)) (.k (mkrow .k rwI (.k (.g 1 rfl) .n) rfl rfl (by kernel_rfl)) (.k (oapp_ .k apI (.g 0 rfl) (.g 2 rfl) (by decide) ⟨(show List.map (fun z=>[ic z]) [c0]++[[ic c]]=List.map (fun z=>[ic z]) ([c0]++[c]) by simp),⟨rfl,rfl⟩,by rw [List.length_map];exact Nat.le_of_ble_eq_true rfl⟩) (.k (omv .k (.inl rfl) (.g 3 rfl)) .n))))) [0,1,3] [4] rfl rfl (Nx.bkN (Nx.go (Tr.reg [(2,2)] (.k (mv .k (.b 2 rfl)) (.k (add_ .k (.g 0 rfl) .c (wr1 (by omega))) (.k (asg .k (.g 1 rfl)) .n))) [0,1,3] [2] rfl rfl (Nx.again (2 - (k+1)) (by omega) [.b 2 (SP.mesh P T S) 26 3,.b 3 (.is (sgv s)) 28 2,.o 5 1 3 (([c0]++[c]).map fun z=>[ic z]),.s 6 (iv (((k+1):Nat):Int))] ⟨(k+1),([c0]++[c]),(.inr (.inr ⟨by omega,(hw.trans (if_neg hlt)).symm⟩)),rfl,rfl⟩ (Sub.all (.cons 0 rfl (.cons 1 rfl (.cons 2 rfl (.cons 3 rfl .nil)))))))))
   ·
    rw [e1]
    have g1:=hg.1
    have g2:=hg.2.1
    have g3:=hg.2.2.1
    have z1:=inP_lt (seg_in hM hs).1
    have z2:=inP_lt (seg_in hM hs).2
    obtain ⟨u,p,ea,pa⟩:=(seg_in hM hs).1
    obtain ⟨v,q,eb,pb⟩:=(seg_in hM hs).2
    obtain ⟨w,r,ec,pc_⟩:=hc
    refine Tr.seq (Tr.rs [] (.k (mv .k (.b 4 rfl)) (.k (lt_ .k (.g 0 rfl) .c (dF (by omega))) .n)) [0,1,2,3,4] [1] rfl rfl ?_)
    refine Tr.cond 5 rfl nofun (fun _=>?_)
    refine Tr.skip (Nx.go (Tr.ds hmx [] (.k (faddr .k (.b 0 rfl) rfl fMT) (.k (ldc .k (.g 0 rfl) (.b 0 rfl) tyvT) (.k (mv .k (.b 4 rfl)) (.k (idx_ .k rwT (.g 1 rfl) (.g 2 rfl) rfl (gm p1)) (.k (fat .k (.g 3 rfl) aTA rfl) (.k (ldc_at .k (.g 4 rfl) tyI) (.k (faddr .k (.b 0 rfl) rfl fMT) (.k (ldc .k (.g 6 rfl) (.b 0 rfl) tyvT) (.k (mv .k (.b 4 rfl)) (.k (idx_ .k rwT (.g 7 rfl) (.g 8 rfl) rfl (gm p1)) (.k (fat .k (.g 9 rfl) aTB rfl) (.k (ldc_at .k (.g 10 rfl) tyI) (.k (add_ .k (.g 5 rfl) (.g 11 rfl) (show IntKind.i64.wrap (t.1+t.2.1)=t.1+t.2.1 by rw [IntWalk.i64_in _ (by omega)])) (.k (faddr .k (.b 0 rfl) rfl fMT) (.k (ldc .k (.g 13 rfl) (.b 0 rfl) tyvT) (.k (mv .k (.b 4 rfl)) (.k (idx_ .k rwT (.g 14 rfl) (.g 15 rfl) rfl (gm p1)) (.k (fat .k (.g 16 rfl) aTC rfl) (.k (ldc_at .k (.g 17 rfl) tyI) (.k (add_ .k (.g 12 rfl) (.g 18 rfl) (show IntKind.i64.wrap (t.1+t.2.1+t.2.2)=t.1+t.2.1+t.2.2 by rw [IntWalk.i64_in _ (by omega)])) (.k (faddr .k (.b 1 rfl) rfl fSA) (.k (ldc .k (.g 20 rfl) (.b 1 rfl) tyI) (.k (sub_ .k (.g 19 rfl) (.g 21 rfl) (show IntKind.i64.wrap (t.1+t.2.1+t.2.2 - s.1)=t.1+t.2.1+t.2.2 - s.1 by rw [IntWalk.i64_in _ (by omega)])) (.k (faddr .k (.b 1 rfl) rfl fSB) (.k (ldc .k (.g 23 rfl) (.b 1 rfl) tyI) (.k (sub_ .k (.g 22 rfl) (.g 24 rfl) (show IntKind.i64.wrap (t.1+t.2.1+t.2.2 - s.1 - s.2)=c by rw [IntWalk.i64_in _ (by omega)];omega)) (.k (asg .k (.g 25 rfl)) .n))))))))))))))))))))))))))) [0,1,2,3] [26] rfl rfl ?_))
    refine Tr.seq (Tr.ds hmx [] (.k (faddr .k (.b 0 rfl) rfl fMP) (.k (ldc .k (.g 0 rfl) (.b 0 rfl) tyvP) (.k (faddr .k (.b 1 rfl) rfl fSA) (.k (ldc .k (.g 2 rfl) (.b 1 rfl) tyI) (.k (idx_ .k rwP (.g 1 rfl) (.g 3 rfl) ea (gm pa)) (.k (ld_at .k (.g 4 rfl) tyP rfl (show _=ptv _ _ from rfl)) (.k (faddr .k (.b 0 rfl) rfl fMP) (.k (ldc .k (.g 6 rfl) (.b 0 rfl) tyvP) (.k (faddr .k (.b 1 rfl) rfl fSB) (.k (ldc .k (.g 8 rfl) (.b 1 rfl) tyI) (.k (idx_ .k rwP (.g 7 rfl) (.g 9 rfl) eb (gm pb)) (.k (ld_at .k (.g 10 rfl) tyP rfl (show _=ptv _ _ from rfl)) (.k (faddr .k (.b 0 rfl) rfl fMP) (.k (ldc .k (.g 12 rfl) (.b 0 rfl) tyvP) (.k (mv .k (.b 4 rfl)) (.k (idx_ .k rwP (.g 13 rfl) (.g 14 rfl) ec (gm pc_)) (.k (ld_at .k (.g 15 rfl) tyP rfl (show _=ptv _ _ from rfl)) (.k (cal .k Tryz.func22 rfl (fn_rdiscK ea eb ec pa pb pc_ hd) (.k (.g 5 rfl) (.k (.g 11 rfl) (.k (.g 16 rfl) .n)))) (.k (not_ .k (.g 17 rfl)) .n))))))))))))))))))) [0,1,2,3,4] [18] rfl rfl ?_)
    refine Tr.cond 5 rfl (fun _=>?_) nofun
    refine Tr.exit (Nx.thX (Nx.bkX (Nx.go (Tr.reg [(3,2)] (.k (mv .k (.b 3 rfl)) (.k (add_ .k (.g 0 rfl) .c (wr1 (by omega))) (.k (asg .k (.g 1 rfl)) .n))) [0,1,2] [2] rfl rfl (Nx.again (2 - (k+1)) (by omega) [.b 2 (SP.mesh P T S) 26 3,.b 3 (.is (sgv s)) 28 2,.o 5 1 3 ([c0].map fun z=>[ic z]),.s 6 (iv (((k+1):Nat):Int))] ⟨(k+1),[c0],(.inr (.inr ⟨by omega,hl1.trans (sid_nil hM hs h2)⟩)),rfl,rfl⟩ (Sub.all (.cons 0 rfl (.cons 1 rfl (.cons 2 rfl (.cons 3 rfl .nil))))))))))
 ·
  obtain rfl:l=crw P T s:=by have e:=of_decide_eq_false e10;rcases hinv with ⟨h,_⟩|⟨h,_⟩|h<;>first|exact h.2|(exfalso;omega)
  refine Tr.exit (Nx.thX (Nx.thX (Nx.bkX (Nx.go (Tr.rs [(2,0)] (.k (frz .k (.inr rfl) (.b 2 rfl)) (.k (asg .k (.g 0 rfl)) .n)) [] [1] rfl rfl ?_)))))
  refine Tr.ret (end_tmp 0 rfl rfl)
theorem loop_ways {P:List (Int × Int)} {T:List (Int × Int × Int)} {S:List (Int × Int)} {k n:Nat} (h:k≤n):(k < n∧mC P T S=0)∨(k < n∧mC P T S=2)∨k=n:=by
  rcases Nat.lt_or_ge k n with h1|h1
  · rcases mC_two (P:=P) (T:=T) (S:=S) with h2|h2
    · exact .inl ⟨h1,h2⟩
    · exact .inr (.inl ⟨h1,h2⟩)
  · exact .inr (.inr (by omega))
theorem crdL_end {P:List (Int × Int)} {T:List (Int × Int × Int)} {S:List (Int × Int)} {l:List Int} (h0:mC P T S=0→l=idxs (crdB P T S) S.length) (h2:mC P T S=2→l=[]):crdL P T S=l:=by
  rcases mC_two (P:=P) (T:=T) (S:=S) with h|h
  · rw [crdL_of h,h0 h]
  · rw [crdL_no h,h2 h]
theorem sknL_end {P:List (Int × Int)} {T:List (Int × Int × Int)} {S:List (Int × Int)} {l:List Int} (h0:mC P T S=0→l=idxs (atB T (sP P)) T.length) (h2:mC P T S=2→l=[]):sknL P T S=l:=by
  rcases mC_two (P:=P) (T:=T) (S:=S) with h|h
  · rw [sknL_of h,h0 h]
  · rw [sknL_no h,h2 h]
theorem no_two {P:List (Int × Int)} {T:List (Int × Int × Int)} {S:List (Int × Int)} {q:Prop} (h:mC P T S=0):mC P T S=2→q:=fun h'=>by omega
theorem fn_rCrowded {P:List (Int × Int)} {T:List (Int × Int × Int)} {S:List (Int × Int)} (hP:P.length≤1000000) (hT:T.length≤1000000) (hS:S.length≤1000000):FnC Tryz.prog 10 [SP.mesh P T S] (.tup [ivec (crdL P T S),iv (mC P T S)]):=by
 refine FnC.of (N:=37) Tryz.func10 rfl rfl (Nat.le_of_ble_eq_true rfl) (fun w0 ok0=>?_)
 refine Tr.rs [] (.k (bxx .k (.b 0 rfl)) (.k (nilv (sz:=1) .k (.inl rfl)) (.k (asg .k .c) .n))) [] [0] rfl rfl ?_
 refine Tr.rs [] (.k (ld .k (.b 0 rfl) tyM) (.k (cal .k Tryz.func25 rfl (fn_rChk hP hT hS) (.k (.g 0 rfl) .n)) (.k (asg .k (.g 1 rfl)) .n))) [0] [2] rfl rfl ?_
 refine Tr.rs [] (.k (oini (sz:=1) (E:=3) .k (.inl rfl)) .n) [0,1] [0] rfl rfl ?_
 refine Tr.seq (Tr.rs [] (.k (asg .k .c) .n) [0,1,2] [0] rfl rfl ?_)
 refine Tr.block (?_)
 refine Tr.loop (fun n_ F_=>∃ k:Nat,∃ l:List Int,(k≤S.length∧(mC P T S=0→l=idxs (crdB P T S) k)∧(mC P T S=2→l=[]))∧n_=S.length - k∧F_=[.b 1 (SP.mesh P T S) 26 3,.s 4 (iv (mC P T S)),.o 5 1 3 (l.map fun z=>[ic z]),.s 6 (iv ((k:Nat):Int))]) (S.length - 0) (F0:=[.b 1 (SP.mesh P T S) 26 3,.s 4 (iv (mC P T S)),.o 5 1 3 ([].map fun z=>[ic z]),.s 6 (iv ((0:Nat):Int))]) ⟨0,[],⟨Nat.zero_le _,fun _=>rfl,fun _=>rfl⟩,rfl,rfl⟩ (Sub.all (.cons 0 rfl (.cons 1 rfl (.cons 2 rfl (.cons 3 rfl .nil))))) (fun n_ F_ hI=>?_)
 obtain ⟨k,l,hinv,rfl,rfl⟩:=hI
 rcases loop_ways (P:=P) (T:=T) (S:=S) hinv.1 with ⟨hk2,hc⟩|⟨hk2,hc⟩|hk2
 ·
  have hM:=mC_ok hc
  obtain ⟨s,p1⟩:∃ s,S[k]?=some s:=⟨_,List.getElem?_eq_getElem hk2⟩
  have hs:=List.mem_of_getElem? p1
  refine Tr.seq (Tr.rs [] (.k (mv .k (.b 3 rfl)) (.k (faddr .k (.b 0 rfl) rfl fMS) (.k (ldc .k (.g 1 rfl) (.b 0 rfl) tyvS) (.k (len_ .k rwS (.g 2 rfl) (by rw [List.length_map])) (.k (lt_ .k (.g 0 rfl) (.g 3 rfl) (dT (by omega))) (.k (mv .k (.g 4 rfl)) (.k (mv (.o 5 rfl rfl rfl) (.b 1 rfl)) (.k (eq_ (.o 5 rfl rfl rfl) (.g 6 rfl) .c (beq_iff_eq.2 hc)) (.k (pickT .k (.g 5 rfl) (.g 7 rfl)) .n))))))))) [0,1,2,3] [8] rfl rfl ?_)
  refine Tr.cond 4 rfl (fun _=>?_) nofun
  refine Tr.skip (Nx.go (Tr.seq (Tr.block (Tr.ds hmx [] (.k (ld .k (.b 0 rfl) tyM) (.k (faddr .k (.b 0 rfl) rfl fMS) (.k (ldc .k (.g 1 rfl) (.b 0 rfl) tyvS) (.k (mv .k (.b 3 rfl)) (.k (idx_ .k rwS (.g 2 rfl) (.g 3 rfl) rfl (gm p1)) (.k (ld_at .k (.g 4 rfl) tyS rfl (show _=sgv (_,_) from rfl)) (.k (cal .k Tryz.func30 rfl (fn_rcrowds hP hT hM hs) (.k (.g 0 rfl) (.k (.g 5 rfl) .n))) (.k (asg .k (.g 6 rfl)) .n)))))))) [0,1,2,3] [7] rfl rfl ?_))))
  cases hb:decide (((crw P T s).length:Int) > 0)
  ·
   refine Tr.rs [] (.k (mv .k (.b 4 rfl)) (.k (len_ .k rwI (.g 0 rfl) (by rw [List.length_map])) (.k (gt_ .k (.g 1 rfl) .c hb) .n))) [0,1,2,3] [2] rfl rfl ?_
   refine Tr.cond 4 rfl nofun (fun _=>?_)
   refine Tr.skip (Nx.bkN (Nx.go (Tr.reg [(3,2)] (.k (mv .k (.b 3 rfl)) (.k (add_ .k (.g 0 rfl) .c (wr1 (by omega))) (.k (asg .k (.g 1 rfl)) .n))) [0,1,2] [2] rfl rfl (Nx.again (S.length - (k+1)) (by omega) [.b 1 (SP.mesh P T S) 26 3,.s 4 (iv (mC P T S)),.o 5 1 3 (l.map fun z=>[ic z]),.s 6 (iv (((k+1):Nat):Int))] ⟨(k+1),l,⟨hk2,fun h=>(hinv.2.1 h).trans (idxs_no ((atB_of p1).trans hb)).symm,no_two hc⟩,rfl,rfl⟩ (Sub.all (.cons 0 rfl (.cons 1 rfl (.cons 2 rfl (.cons 3 rfl .nil)))))))))
  ·
   refine Tr.rs [] (.k (mv .k (.b 4 rfl)) (.k (len_ .k rwI (.g 0 rfl) (by rw [List.length_map])) (.k (gt_ .k (.g 1 rfl) .c hb) .n))) [0,1,2,3] [2] rfl rfl ?_
   refine Tr.cond 4 rfl (fun _=>?_) nofun
   refine Tr.reg [(2,0),(1000,3),(1003,4)] (.k (omv .k (.inr rfl) (.b 2 rfl)) (.k (mv .k (.b 3 rfl)) (.k (mkrow .k rwI (.k (.g 1 rfl) .n) rfl rfl (by kernel_rfl)) (.k (oapp_ .k apI (.g 0 rfl) (.g 2 rfl) (by decide) ⟨(show List.map (fun z=>[ic z]) l++[[ic (k:Int)]]=List.map (fun z=>[ic z]) (l++[(k:Int)]) by simp),⟨rfl,rfl⟩,by rw [List.length_map];rw [hinv.2.1 hc];have:=idxs_len (crdB P T S) k;omega⟩) (.k (omv .k (.inl rfl) (.g 3 rfl)) .n))))) [0,1,3] [4] rfl rfl (Nx.bkN (Nx.go (Tr.reg [(2,2)] (.k (mv .k (.b 2 rfl)) (.k (add_ .k (.g 0 rfl) .c (wr1 (by omega))) (.k (asg .k (.g 1 rfl)) .n))) [0,1,3] [2] rfl rfl (Nx.again (S.length - (k+1)) (by omega) [.b 1 (SP.mesh P T S) 26 3,.s 4 (iv (mC P T S)),.o 5 1 3 ((l++[(k:Int)]).map fun z=>[ic z]),.s 6 (iv (((k+1):Nat):Int))] ⟨(k+1),(l++[(k:Int)]),⟨hk2,fun h=>by rw [hinv.2.1 h,idxs_yes (b:=crdB P T S) ((atB_of p1).trans hb)],no_two hc⟩,rfl,rfl⟩ (Sub.all (.cons 0 rfl (.cons 1 rfl (.cons 2 rfl (.cons 3 rfl .nil)))))))))
 ·
  rw [show crdL P T S=l from (crdL_no hc).trans (hinv.2.2 hc).symm]
  refine Tr.seq (Tr.rs [] (.k (mv .k (.b 3 rfl)) (.k (faddr .k (.b 0 rfl) rfl fMS) (.k (ldc .k (.g 1 rfl) (.b 0 rfl) tyvS) (.k (len_ .k rwS (.g 2 rfl) (by rw [List.length_map])) (.k (lt_ .k (.g 0 rfl) (.g 3 rfl) (dT (by omega))) (.k (mv .k (.g 4 rfl)) (.k (mv (.o 5 rfl rfl rfl) (.b 1 rfl)) (.k (eq_ (.o 5 rfl rfl rfl) (.g 6 rfl) .c (beq_eq_false_iff_ne.2 (by rw [hc];decide))) (.k (pickT .k (.g 5 rfl) (.g 7 rfl)) .n))))))))) [0,1,2,3] [8] rfl rfl ?_)
  refine Tr.cond 4 rfl nofun (fun _=>?_)
  refine Tr.exit (Nx.thX (Nx.thX (Nx.bkX (Nx.go (Tr.rs [(2,0)] (.k (frz .k (.inr rfl) (.b 2 rfl)) (.k (mv .k (.b 1 rfl)) (.k (asg .k (.g 0 rfl)) (.k (asg .k (.g 1 rfl)) .n)))) [] [2,3] rfl rfl ?_)))))
  refine Tr.ret (end_tmp2 0 1 rfl rfl rfl)
 ·
  subst hk2
  rw [crdL_end hinv.2.1 hinv.2.2]
  refine Tr.seq (Tr.rs [] (.k (mv .k (.b 3 rfl)) (.k (faddr .k (.b 0 rfl) rfl fMS) (.k (ldc .k (.g 1 rfl) (.b 0 rfl) tyvS) (.k (len_ .k rwS (.g 2 rfl) (by rw [List.length_map])) (.k (lt_ .k (.g 0 rfl) (.g 3 rfl) (dF (by omega))) (.k (mv .k (.g 4 rfl)) (.k (skp (.o 5 rfl rfl rfl)) (.k (skp (.o 5 rfl rfl rfl)) (.k (pickF .k (.g 5 rfl) .c) .n))))))))) [0,1,2,3] [8] rfl rfl ?_)
  refine Tr.cond 4 rfl nofun (fun _=>?_)
  refine Tr.exit (Nx.thX (Nx.thX (Nx.bkX (Nx.go (Tr.rs [(2,0)] (.k (frz .k (.inr rfl) (.b 2 rfl)) (.k (mv .k (.b 1 rfl)) (.k (asg .k (.g 0 rfl)) (.k (asg .k (.g 1 rfl)) .n)))) [] [2,3] rfl rfl ?_)))))
  refine Tr.ret (end_tmp2 0 1 rfl rfl rfl)
theorem fn_rSkinnyM {P:List (Int × Int)} {T:List (Int × Int × Int)} {S:List (Int × Int)} (hP:P.length≤1000000) (hT:T.length≤1000000) (hS:S.length≤1000000):FnC Tryz.prog 12 [SP.mesh P T S] (.tup [ivec (sknL P T S),iv (mC P T S)]):=by
 refine FnC.of (N:=57) Tryz.func12 rfl rfl (Nat.le_of_ble_eq_true rfl) (fun w0 ok0=>?_)
 refine Tr.rs [] (.k (bxx .k (.b 0 rfl)) (.k (nilv (sz:=1) .k (.inl rfl)) (.k (asg .k .c) .n))) [] [0] rfl rfl ?_
 refine Tr.rs [] (.k (ld .k (.b 0 rfl) tyM) (.k (cal .k Tryz.func25 rfl (fn_rChk hP hT hS) (.k (.g 0 rfl) .n)) (.k (asg .k (.g 1 rfl)) .n))) [0] [2] rfl rfl ?_
 refine Tr.rs [] (.k (oini (sz:=1) (E:=3) .k (.inl rfl)) .n) [0,1] [0] rfl rfl ?_
 refine Tr.seq (Tr.rs [] (.k (asg .k .c) .n) [0,1,2] [0] rfl rfl ?_)
 refine Tr.block (?_)
 refine Tr.loop (fun n_ F_=>∃ k:Nat,∃ l:List Int,(k≤T.length∧(mC P T S=0→l=idxs (atB T (sP P)) k)∧(mC P T S=2→l=[]))∧n_=T.length - k∧F_=[.b 1 (SP.mesh P T S) 26 3,.s 4 (iv (mC P T S)),.o 5 1 3 (l.map fun z=>[ic z]),.s 6 (iv ((k:Nat):Int))]) (T.length - 0) (F0:=[.b 1 (SP.mesh P T S) 26 3,.s 4 (iv (mC P T S)),.o 5 1 3 ([].map fun z=>[ic z]),.s 6 (iv ((0:Nat):Int))]) ⟨0,[],⟨Nat.zero_le _,fun _=>rfl,fun _=>rfl⟩,rfl,rfl⟩ (Sub.all (.cons 0 rfl (.cons 1 rfl (.cons 2 rfl (.cons 3 rfl .nil))))) (fun n_ F_ hI=>?_)
 obtain ⟨k,l,hinv,rfl,rfl⟩:=hI
 rcases loop_ways (P:=P) (T:=T) (S:=S) hinv.1 with ⟨hk2,hc⟩|⟨hk2,hc⟩|hk2
 ·
  have hM:=mC_ok hc
  obtain ⟨t,p1⟩:∃ t,T[k]?=some t:=⟨_,List.getElem?_eq_getElem hk2⟩
  have ht:=List.mem_of_getElem? p1
  obtain ⟨⟨u,p,ea,pa⟩,⟨v,q,eb,pb⟩,⟨w,r,ec,pc_⟩⟩:=good_in (hM.tri t ht)
  refine Tr.seq (Tr.rs [] (.k (mv .k (.b 3 rfl)) (.k (faddr .k (.b 0 rfl) rfl fMT) (.k (ldc .k (.g 1 rfl) (.b 0 rfl) tyvT) (.k (len_ .k rwT (.g 2 rfl) (by rw [List.length_map])) (.k (lt_ .k (.g 0 rfl) (.g 3 rfl) (dT (by omega))) (.k (mv .k (.g 4 rfl)) (.k (mv (.o 5 rfl rfl rfl) (.b 1 rfl)) (.k (eq_ (.o 5 rfl rfl rfl) (.g 6 rfl) .c (beq_iff_eq.2 hc)) (.k (pickT .k (.g 5 rfl) (.g 7 rfl)) .n))))))))) [0,1,2,3] [8] rfl rfl ?_)
  refine Tr.cond 4 rfl (fun _=>?_) nofun
  refine Tr.skip (Nx.go (Tr.seq (Tr.block (?_))))
  cases hb:sP P t
  ·
   refine Tr.ds hmx [] (.k (faddr .k (.b 0 rfl) rfl fMP) (.k (ldc .k (.g 0 rfl) (.b 0 rfl) tyvP) (.k (faddr .k (.b 0 rfl) rfl fMT) (.k (ldc .k (.g 2 rfl) (.b 0 rfl) tyvT) (.k (mv .k (.b 3 rfl)) (.k (idx_ .k rwT (.g 3 rfl) (.g 4 rfl) rfl (gm p1)) (.k (fat .k (.g 5 rfl) aTA rfl) (.k (ldc_at .k (.g 6 rfl) tyI) (.k (idx_ .k rwP (.g 1 rfl) (.g 7 rfl) ea (gm pa)) (.k (ld_at .k (.g 8 rfl) tyP rfl (show _=ptv _ _ from rfl)) (.k (faddr .k (.b 0 rfl) rfl fMP) (.k (ldc .k (.g 10 rfl) (.b 0 rfl) tyvP) (.k (faddr .k (.b 0 rfl) rfl fMT) (.k (ldc .k (.g 12 rfl) (.b 0 rfl) tyvT) (.k (mv .k (.b 3 rfl)) (.k (idx_ .k rwT (.g 13 rfl) (.g 14 rfl) rfl (gm p1)) (.k (fat .k (.g 15 rfl) aTB rfl) (.k (ldc_at .k (.g 16 rfl) tyI) (.k (idx_ .k rwP (.g 11 rfl) (.g 17 rfl) eb (gm pb)) (.k (ld_at .k (.g 18 rfl) tyP rfl (show _=ptv _ _ from rfl)) (.k (faddr .k (.b 0 rfl) rfl fMP) (.k (ldc .k (.g 20 rfl) (.b 0 rfl) tyvP) (.k (faddr .k (.b 0 rfl) rfl fMT) (.k (ldc .k (.g 22 rfl) (.b 0 rfl) tyvT) (.k (mv .k (.b 3 rfl)) (.k (idx_ .k rwT (.g 23 rfl) (.g 24 rfl) rfl (gm p1)) (.k (fat .k (.g 25 rfl) aTC rfl) (.k (ldc_at .k (.g 26 rfl) tyI) (.k (idx_ .k rwP (.g 21 rfl) (.g 27 rfl) ec (gm pc_)) (.k (ld_at .k (.g 28 rfl) tyP rfl (show _=ptv _ _ from rfl)) (.k (cal .k Tryz.func34 rfl (hb ▸ sP_at ea eb ec pa pb pc_ ▸ fn_rSkinny) (.k (.g 9 rfl) (.k (.g 19 rfl) (.k (.g 29 rfl) .n)))) .n))))))))))))))))))))))))))))))) [0,1,2,3] [30] rfl rfl ?_
   refine Tr.cond 4 rfl nofun (fun _=>?_)
   refine Tr.skip (Nx.bkN (Nx.go (Tr.reg [(3,2)] (.k (mv .k (.b 3 rfl)) (.k (add_ .k (.g 0 rfl) .c (wr1 (by omega))) (.k (asg .k (.g 1 rfl)) .n))) [0,1,2] [2] rfl rfl (Nx.again (T.length - (k+1)) (by omega) [.b 1 (SP.mesh P T S) 26 3,.s 4 (iv (mC P T S)),.o 5 1 3 (l.map fun z=>[ic z]),.s 6 (iv (((k+1):Nat):Int))] ⟨(k+1),l,⟨hk2,fun h=>(hinv.2.1 h).trans (idxs_no ((atB_of p1).trans hb)).symm,no_two hc⟩,rfl,rfl⟩ (Sub.all (.cons 0 rfl (.cons 1 rfl (.cons 2 rfl (.cons 3 rfl .nil)))))))))
  ·
   refine Tr.ds hmx [] (.k (faddr .k (.b 0 rfl) rfl fMP) (.k (ldc .k (.g 0 rfl) (.b 0 rfl) tyvP) (.k (faddr .k (.b 0 rfl) rfl fMT) (.k (ldc .k (.g 2 rfl) (.b 0 rfl) tyvT) (.k (mv .k (.b 3 rfl)) (.k (idx_ .k rwT (.g 3 rfl) (.g 4 rfl) rfl (gm p1)) (.k (fat .k (.g 5 rfl) aTA rfl) (.k (ldc_at .k (.g 6 rfl) tyI) (.k (idx_ .k rwP (.g 1 rfl) (.g 7 rfl) ea (gm pa)) (.k (ld_at .k (.g 8 rfl) tyP rfl (show _=ptv _ _ from rfl)) (.k (faddr .k (.b 0 rfl) rfl fMP) (.k (ldc .k (.g 10 rfl) (.b 0 rfl) tyvP) (.k (faddr .k (.b 0 rfl) rfl fMT) (.k (ldc .k (.g 12 rfl) (.b 0 rfl) tyvT) (.k (mv .k (.b 3 rfl)) (.k (idx_ .k rwT (.g 13 rfl) (.g 14 rfl) rfl (gm p1)) (.k (fat .k (.g 15 rfl) aTB rfl) (.k (ldc_at .k (.g 16 rfl) tyI) (.k (idx_ .k rwP (.g 11 rfl) (.g 17 rfl) eb (gm pb)) (.k (ld_at .k (.g 18 rfl) tyP rfl (show _=ptv _ _ from rfl)) (.k (faddr .k (.b 0 rfl) rfl fMP) (.k (ldc .k (.g 20 rfl) (.b 0 rfl) tyvP) (.k (faddr .k (.b 0 rfl) rfl fMT) (.k (ldc .k (.g 22 rfl) (.b 0 rfl) tyvT) (.k (mv .k (.b 3 rfl)) (.k (idx_ .k rwT (.g 23 rfl) (.g 24 rfl) rfl (gm p1)) (.k (fat .k (.g 25 rfl) aTC rfl) (.k (ldc_at .k (.g 26 rfl) tyI) (.k (idx_ .k rwP (.g 21 rfl) (.g 27 rfl) ec (gm pc_)) (.k (ld_at .k (.g 28 rfl) tyP rfl (show _=ptv _ _ from rfl)) (.k (cal .k Tryz.func34 rfl (hb ▸ sP_at ea eb ec pa pb pc_ ▸ fn_rSkinny) (.k (.g 9 rfl) (.k (.g 19 rfl) (.k (.g 29 rfl) .n)))) .n))))))))))))))))))))))))))))))) [0,1,2,3] [30] rfl rfl ?_
   refine Tr.cond 4 rfl (fun _=>?_) nofun
   refine Tr.reg [(2,0),(1000,3),(1003,4)] (.k (omv .k (.inr rfl) (.b 2 rfl)) (.k (mv .k (.b 3 rfl)) (.k (mkrow .k rwI (.k (.g 1 rfl) .n) rfl rfl (by kernel_rfl)) (.k (oapp_ .k apI (.g 0 rfl) (.g 2 rfl) (by decide) ⟨(show List.map (fun z=>[ic z]) l++[[ic (k:Int)]]=List.map (fun z=>[ic z]) (l++[(k:Int)]) by simp),⟨rfl,rfl⟩,by rw [List.length_map];rw [hinv.2.1 hc];have:=idxs_len (atB T (sP P)) k;omega⟩) (.k (omv .k (.inl rfl) (.g 3 rfl)) .n))))) [0,1,3] [4] rfl rfl (Nx.bkN (Nx.go (Tr.reg [(2,2)] (.k (mv .k (.b 2 rfl)) (.k (add_ .k (.g 0 rfl) .c (wr1 (by omega))) (.k (asg .k (.g 1 rfl)) .n))) [0,1,3] [2] rfl rfl (Nx.again (T.length - (k+1)) (by omega) [.b 1 (SP.mesh P T S) 26 3,.s 4 (iv (mC P T S)),.o 5 1 3 ((l++[(k:Int)]).map fun z=>[ic z]),.s 6 (iv (((k+1):Nat):Int))] ⟨(k+1),(l++[(k:Int)]),⟨hk2,fun h=>by rw [hinv.2.1 h,idxs_yes ((atB_of p1).trans hb)],no_two hc⟩,rfl,rfl⟩ (Sub.all (.cons 0 rfl (.cons 1 rfl (.cons 2 rfl (.cons 3 rfl .nil)))))))))
 ·
  rw [show sknL P T S=l from (sknL_no hc).trans (hinv.2.2 hc).symm]
  refine Tr.seq (Tr.rs [] (.k (mv .k (.b 3 rfl)) (.k (faddr .k (.b 0 rfl) rfl fMT) (.k (ldc .k (.g 1 rfl) (.b 0 rfl) tyvT) (.k (len_ .k rwT (.g 2 rfl) (by rw [List.length_map])) (.k (lt_ .k (.g 0 rfl) (.g 3 rfl) (dT (by omega))) (.k (mv .k (.g 4 rfl)) (.k (mv (.o 5 rfl rfl rfl) (.b 1 rfl)) (.k (eq_ (.o 5 rfl rfl rfl) (.g 6 rfl) .c (beq_eq_false_iff_ne.2 (by rw [hc];decide))) (.k (pickT .k (.g 5 rfl) (.g 7 rfl)) .n))))))))) [0,1,2,3] [8] rfl rfl ?_)
  refine Tr.cond 4 rfl nofun (fun _=>?_)
  refine Tr.exit (Nx.thX (Nx.thX (Nx.bkX (Nx.go (Tr.rs [(2,0)] (.k (frz .k (.inr rfl) (.b 2 rfl)) (.k (mv .k (.b 1 rfl)) (.k (asg .k (.g 0 rfl)) (.k (asg .k (.g 1 rfl)) .n)))) [] [2,3] rfl rfl ?_)))))
  refine Tr.ret (end_tmp2 0 1 rfl rfl rfl)
 ·
  subst hk2
  rw [sknL_end hinv.2.1 hinv.2.2]
  refine Tr.seq (Tr.rs [] (.k (mv .k (.b 3 rfl)) (.k (faddr .k (.b 0 rfl) rfl fMT) (.k (ldc .k (.g 1 rfl) (.b 0 rfl) tyvT) (.k (len_ .k rwT (.g 2 rfl) (by rw [List.length_map])) (.k (lt_ .k (.g 0 rfl) (.g 3 rfl) (dF (by omega))) (.k (mv .k (.g 4 rfl)) (.k (skp (.o 5 rfl rfl rfl)) (.k (skp (.o 5 rfl rfl rfl)) (.k (pickF .k (.g 5 rfl) .c) .n))))))))) [0,1,2,3] [8] rfl rfl ?_)
  refine Tr.cond 4 rfl nofun (fun _=>?_)
  refine Tr.exit (Nx.thX (Nx.thX (Nx.bkX (Nx.go (Tr.rs [(2,0)] (.k (frz .k (.inr rfl) (.b 2 rfl)) (.k (mv .k (.b 1 rfl)) (.k (asg .k (.g 0 rfl)) (.k (asg .k (.g 1 rfl)) .n)))) [] [2,3] rfl rfl ?_)))))
  refine Tr.ret (end_tmp2 0 1 rfl rfl rfl)
theorem nerR_end {P:List (Int × Int)} {T:List (Int × Int × Int)} {S:List (Int × Int)} {q:Int × Int} (h:mC P T S=0→∀ j,j < S.length→atB S (nP P q) j=false):nerR P T S q=(0,false):=by
  rcases mC_two (P:=P) (T:=T) (S:=S) with h1|h1
  · rw [nerR_of h1,fst_no (h h1)]
  · exact nerR_no h1
theorem fn_rnear {P:List (Int × Int)} {s q0:Int × Int} {u v:Nat} {p q:Int × Int} {k:Bool} (ha:s.1=u) (hb:s.2=v) (hp:P[u]?=some p) (hq:P[v]?=some q) (h:nP P q0 s=k):FnC Tryz.prog 22 [.is (ptv p.1 p.2),.is (ptv q.1 q.2),.is (ptv q0.1 q0.2)] (bv k):=by
  rw [← h,← nP_at ha hb hp hq]
  exact fn_rInDisc
theorem fn_rNear {P:List (Int × Int)} {T:List (Int × Int × Int)} {S:List (Int × Int)} {q0:Int × Int} (hP:P.length≤1000000) (hT:T.length≤1000000) (hS:S.length≤1000000):FnC Tryz.prog 14 [SP.mesh P T S,.is (ptv q0.1 q0.2)] (.tup [iv (nerR P T S q0).1,bv (nerR P T S q0).2]):=by
 refine FnC.of (N:=44) Tryz.func14 rfl rfl (Nat.le_of_ble_eq_true rfl) (fun w0 ok0=>?_)
 refine Tr.rs [] (.k (bxx .k (.b 0 rfl)) (.k (bxx .k (.b 1 rfl)) (.k (asg .k .c) (.k (asg .k .c) .n)))) [] [0,1] rfl rfl ?_
 refine Tr.rs [] (.k (ld .k (.b 0 rfl) tyM) (.k (cal .k Tryz.func25 rfl (fn_rChk hP hT hS) (.k (.g 0 rfl) .n)) (.k (asg .k (.g 1 rfl)) .n))) [0,1] [2] rfl rfl ?_
 refine Tr.seq (Tr.rs [] (.k (asg .k .c) .n) [0,1,2] [0] rfl rfl ?_)
 refine Tr.block (?_)
 refine Tr.loop (fun n_ F_=>∃ k:Nat,(k≤S.length∧(mC P T S=0→∀ j,j < k→atB S (nP P q0) j=false))∧n_=S.length - k∧F_=[.b 2 (SP.mesh P T S) 26 3,.b 3 (.is (ptv q0.1 q0.2)) 30 2,.s 6 (iv (mC P T S)),.s 7 (iv ((k:Nat):Int))]) (S.length - 0) (F0:=[.b 2 (SP.mesh P T S) 26 3,.b 3 (.is (ptv q0.1 q0.2)) 30 2,.s 6 (iv (mC P T S)),.s 7 (iv ((0:Nat):Int))]) ⟨0,⟨Nat.zero_le _,fun _ j h=>absurd h (Nat.not_lt_zero _)⟩,rfl,rfl⟩ (Sub.all (.cons 0 rfl (.cons 1 rfl (.cons 2 rfl (.cons 3 rfl .nil))))) (fun n_ F_ hI=>?_)
 obtain ⟨k,hinv,rfl,rfl⟩:=hI
 rcases loop_ways (P:=P) (T:=T) (S:=S) hinv.1 with ⟨hk2,hc⟩|⟨hk2,hc⟩|hk2
 ·
  have hM:=mC_ok hc
  obtain ⟨s,p1⟩:∃ s,S[k]?=some s:=⟨_,List.getElem?_eq_getElem hk2⟩
  obtain ⟨⟨u,p,ea,pa⟩,⟨v,q,eb,pb⟩⟩:=seg_in hM (List.mem_of_getElem? p1)
  refine Tr.seq (Tr.rs [] (.k (mv .k (.b 3 rfl)) (.k (faddr .k (.b 0 rfl) rfl fMS) (.k (ldc .k (.g 1 rfl) (.b 0 rfl) tyvS) (.k (len_ .k rwS (.g 2 rfl) (by rw [List.length_map])) (.k (lt_ .k (.g 0 rfl) (.g 3 rfl) (dT (by omega))) (.k (mv .k (.g 4 rfl)) (.k (mv (.o 5 rfl rfl rfl) (.b 2 rfl)) (.k (eq_ (.o 5 rfl rfl rfl) (.g 6 rfl) .c (beq_iff_eq.2 hc)) (.k (pickT .k (.g 5 rfl) (.g 7 rfl)) .n))))))))) [0,1,2,3] [8] rfl rfl ?_)
  refine Tr.cond 4 rfl (fun _=>?_) nofun
  refine Tr.skip (Nx.go (Tr.seq (Tr.block (?_))))
  cases hb:nP P q0 s
  ·
   refine Tr.ds hmx [] (.k (faddr .k (.b 0 rfl) rfl fMP) (.k (ldc .k (.g 0 rfl) (.b 0 rfl) tyvP) (.k (faddr .k (.b 0 rfl) rfl fMS) (.k (ldc .k (.g 2 rfl) (.b 0 rfl) tyvS) (.k (mv .k (.b 3 rfl)) (.k (idx_ .k rwS (.g 3 rfl) (.g 4 rfl) rfl (gm p1)) (.k (fat .k (.g 5 rfl) aSA rfl) (.k (ldc_at .k (.g 6 rfl) tyI) (.k (idx_ .k rwP (.g 1 rfl) (.g 7 rfl) ea (gm pa)) (.k (ld_at .k (.g 8 rfl) tyP rfl (show _=ptv _ _ from rfl)) (.k (faddr .k (.b 0 rfl) rfl fMP) (.k (ldc .k (.g 10 rfl) (.b 0 rfl) tyvP) (.k (faddr .k (.b 0 rfl) rfl fMS) (.k (ldc .k (.g 12 rfl) (.b 0 rfl) tyvS) (.k (mv .k (.b 3 rfl)) (.k (idx_ .k rwS (.g 13 rfl) (.g 14 rfl) rfl (gm p1)) (.k (fat .k (.g 15 rfl) aSB rfl) (.k (ldc_at .k (.g 16 rfl) tyI) (.k (idx_ .k rwP (.g 11 rfl) (.g 17 rfl) eb (gm pb)) (.k (ld_at .k (.g 18 rfl) tyP rfl (show _=ptv _ _ from rfl)) (.k (ld .k (.b 1 rfl) tyP) (.k (cal .k Tryz.func22 rfl (fn_rnear ea eb pa pb hb) (.k (.g 9 rfl) (.k (.g 19 rfl) (.k (.g 20 rfl) .n)))) .n)))))))))))))))))))))) [0,1,2,3] [21] rfl rfl ?_
   refine Tr.cond 4 rfl nofun (fun _=>?_)
   refine Tr.skip (Nx.bkN (Nx.go (Tr.reg [(3,2)] (.k (mv .k (.b 3 rfl)) (.k (add_ .k (.g 0 rfl) .c (wr1 (by omega))) (.k (asg .k (.g 1 rfl)) .n))) [0,1,2] [2] rfl rfl (Nx.again (S.length - (k+1)) (by omega) [.b 2 (SP.mesh P T S) 26 3,.b 3 (.is (ptv q0.1 q0.2)) 30 2,.s 6 (iv (mC P T S)),.s 7 (iv (((k+1):Nat):Int))] ⟨(k+1),⟨hk2,fun h j hj=>(Nat.lt_succ_iff_lt_or_eq.1 hj).elim (fun e=>hinv.2 h j e) (fun e=>e ▸ (atB_of p1).trans hb)⟩,rfl,rfl⟩ (Sub.all (.cons 0 rfl (.cons 1 rfl (.cons 2 rfl (.cons 3 rfl .nil)))))))))
  ·
   rw [nerR_of hc,fst_at hk2 ((atB_of p1).trans hb) (hinv.2 hc)]
   refine Tr.ds hmx [] (.k (faddr .k (.b 0 rfl) rfl fMP) (.k (ldc .k (.g 0 rfl) (.b 0 rfl) tyvP) (.k (faddr .k (.b 0 rfl) rfl fMS) (.k (ldc .k (.g 2 rfl) (.b 0 rfl) tyvS) (.k (mv .k (.b 3 rfl)) (.k (idx_ .k rwS (.g 3 rfl) (.g 4 rfl) rfl (gm p1)) (.k (fat .k (.g 5 rfl) aSA rfl) (.k (ldc_at .k (.g 6 rfl) tyI) (.k (idx_ .k rwP (.g 1 rfl) (.g 7 rfl) ea (gm pa)) (.k (ld_at .k (.g 8 rfl) tyP rfl (show _=ptv _ _ from rfl)) (.k (faddr .k (.b 0 rfl) rfl fMP) (.k (ldc .k (.g 10 rfl) (.b 0 rfl) tyvP) (.k (faddr .k (.b 0 rfl) rfl fMS) (.k (ldc .k (.g 12 rfl) (.b 0 rfl) tyvS) (.k (mv .k (.b 3 rfl)) (.k (idx_ .k rwS (.g 13 rfl) (.g 14 rfl) rfl (gm p1)) (.k (fat .k (.g 15 rfl) aSB rfl) (.k (ldc_at .k (.g 16 rfl) tyI) (.k (idx_ .k rwP (.g 11 rfl) (.g 17 rfl) eb (gm pb)) (.k (ld_at .k (.g 18 rfl) tyP rfl (show _=ptv _ _ from rfl)) (.k (ld .k (.b 1 rfl) tyP) (.k (cal .k Tryz.func22 rfl (fn_rnear ea eb pa pb hb) (.k (.g 9 rfl) (.k (.g 19 rfl) (.k (.g 20 rfl) .n)))) .n)))))))))))))))))))))) [0,1,2,3] [21] rfl rfl ?_
   refine Tr.cond 4 rfl (fun _=>?_) nofun
   refine Tr.rs [] (.k (mv .k (.b 3 rfl)) (.k (asg .k (.g 0 rfl)) (.k (asg .k .c) .n))) [] [1,2] rfl rfl ?_
   refine Tr.ret (end_tmp2 0 1 rfl rfl rfl)
 ·
  rw [nerR_no hc]
  refine Tr.seq (Tr.rs [] (.k (mv .k (.b 3 rfl)) (.k (faddr .k (.b 0 rfl) rfl fMS) (.k (ldc .k (.g 1 rfl) (.b 0 rfl) tyvS) (.k (len_ .k rwS (.g 2 rfl) (by rw [List.length_map])) (.k (lt_ .k (.g 0 rfl) (.g 3 rfl) (dT (by omega))) (.k (mv .k (.g 4 rfl)) (.k (mv (.o 5 rfl rfl rfl) (.b 2 rfl)) (.k (eq_ (.o 5 rfl rfl rfl) (.g 6 rfl) .c (beq_eq_false_iff_ne.2 (by rw [hc];decide))) (.k (pickT .k (.g 5 rfl) (.g 7 rfl)) .n))))))))) [0,1,2,3] [8] rfl rfl ?_)
  refine Tr.cond 4 rfl nofun (fun _=>?_)
  refine Tr.exit (Nx.thX (Nx.thX (Nx.bkX (Nx.go (Tr.rs [] (.k (asg .k .c) (.k (asg .k .c) .n)) [] [0,1] rfl rfl ?_)))))
  refine Tr.ret (end_tmp2 0 1 rfl rfl rfl)
 ·
  subst hk2
  rw [nerR_end hinv.2]
  refine Tr.seq (Tr.rs [] (.k (mv .k (.b 3 rfl)) (.k (faddr .k (.b 0 rfl) rfl fMS) (.k (ldc .k (.g 1 rfl) (.b 0 rfl) tyvS) (.k (len_ .k rwS (.g 2 rfl) (by rw [List.length_map])) (.k (lt_ .k (.g 0 rfl) (.g 3 rfl) (dF (by omega))) (.k (mv .k (.g 4 rfl)) (.k (skp (.o 5 rfl rfl rfl)) (.k (skp (.o 5 rfl rfl rfl)) (.k (pickF .k (.g 5 rfl) .c) .n))))))))) [0,1,2,3] [8] rfl rfl ?_)
  refine Tr.cond 4 rfl nofun (fun _=>?_)
  refine Tr.exit (Nx.thX (Nx.thX (Nx.bkX (Nx.go (Tr.rs [] (.k (asg .k .c) (.k (asg .k .c) .n)) [] [0,1] rfl rfl ?_)))))
  refine Tr.ret (end_tmp2 0 1 rfl rfl rfl)
theorem in_next {S:List (Int × Int)} {s u:Int × Int} {k:Nat} (h:S[k]?=some u):decide (s∈S.take (k+1))=(decide (s∈S.take k) || decide (u=s)):=by
  rw [take_succ' h,← Bool.decide_or]
  refine decide_eq_decide.2 ?_
  rw [List.mem_append,List.mem_singleton]
  exact or_congr Iff.rfl eq_comm
theorem bool_ways (b:Bool) (p:Prop) [Decidable p]:b=true∨(b=false∧p)∨(b=false∧¬ p):=by
  cases b
  · by_cases h:p
    · exact .inr (.inl ⟨rfl,h⟩)
    · exact .inr (.inr ⟨rfl,h⟩)
  · exact .inl rfl
theorem fn_rCrowds {P:List (Int × Int)} {T:List (Int × Int × Int)} {S:List (Int × Int)} {s:Int × Int} (hP:P.length≤1000000) (hT:T.length≤1000000) (hS:S.length≤1000000):FnC Tryz.prog 17 [SP.mesh P T S,.is (sgv s)] (ivec (crwL P T S s)):=by
 refine FnC.of (N:=36) Tryz.func17 rfl rfl (Nat.le_of_ble_eq_true rfl) (fun w0 ok0=>?_)
 refine Tr.rs [] (.k (bxx .k (.b 0 rfl)) (.k (bxx .k (.b 1 rfl)) (.k (nilv (sz:=1) .k (.inl rfl)) .n))) [] [0,1] rfl rfl ?_
 refine Tr.rs [] (.k (ld .k (.b 0 rfl) tyM) (.k (cal .k Tryz.func25 rfl (fn_rChk hP hT hS) (.k (.g 0 rfl) .n)) (.k (asg .k (.g 1 rfl)) .n))) [0,1] [2] rfl rfl ?_
 refine Tr.rs [] (.k (asg .k .c) .n) [0,1,2] [0] rfl rfl ?_
 refine Tr.seq (Tr.rs [] (.k (asg .k .c) .n) [0,1,2,3] [0] rfl rfl ?_)
 refine Tr.block (?_)
 refine Tr.loop (fun n_ F_=>∃ k:Nat,∃ b:Bool,(k≤S.length∧b=decide (s∈S.take k))∧n_=S.length - k∧F_=[.b 2 (SP.mesh P T S) 26 3,.b 3 (.is (sgv s)) 28 2,.s 5 (iv (mC P T S)),.s 6 (bv b),.s 7 (iv ((k:Nat):Int))]) (S.length - 0) (F0:=[.b 2 (SP.mesh P T S) 26 3,.b 3 (.is (sgv s)) 28 2,.s 5 (iv (mC P T S)),.s 6 (bv false),.s 7 (iv ((0:Nat):Int))]) ⟨0,false,⟨Nat.zero_le _,by simp⟩,rfl,rfl⟩ (Sub.all (.cons 0 rfl (.cons 1 rfl (.cons 2 rfl (.cons 3 rfl (.cons 4 rfl .nil)))))) (fun n_ F_ hI=>?_)
 obtain ⟨k,b,hinv,rfl,rfl⟩:=hI
 refine Tr.seq (Tr.rs [] (.k (mv .k (.b 4 rfl)) (.k (faddr .k (.b 0 rfl) rfl fMS) (.k (ldc .k (.g 1 rfl) (.b 0 rfl) tyvS) (.k (len_ .k rwS (.g 2 rfl) (by rw [List.length_map])) (.k (lt_ .k (.g 0 rfl) (.g 3 rfl) rfl) .n))))) [0,1,2,3,4] [4] rfl rfl ?_)
 refine Tr.cond 5 rfl (fun e14=>?_) (fun e14=>?_)
 ·
  have hk2:k < S.length:=by have:=of_decide_eq_true e14;omega
  refine Tr.skip (Nx.go (Tr.seq (Tr.block (?_))))
  obtain ⟨u,p1⟩:∃ u,S[k]?=some u:=⟨_,List.getElem?_eq_getElem hk2⟩;have hb:=hinv.2;rcases bool_ways b (u=s) with rfl|⟨rfl,he⟩|⟨rfl,he⟩
  ·
   refine Tr.draw hmx [(3,10)] (.k (mv .k (.b 3 rfl)) (.k (mv .k (.g 0 rfl)) (.k (skp (.o 1 rfl rfl rfl)) (.k (skp (.o 1 rfl rfl rfl)) (.k (skp (.o 1 rfl rfl rfl)) (.k (skp (.o 1 rfl rfl rfl)) (.k (skp (.o 1 rfl rfl rfl)) (.k (skp (.o 1 rfl rfl rfl)) (.k (skp (.o 1 rfl rfl rfl)) (.k (pickT .k (.g 1 rfl) .c) (.k (asg .k (.g 9 rfl)) .n))))))))))) [0,1,2,4] [10] rfl rfl (Nx.bkN (Nx.go (Tr.reg [(3,2)] (.k (mv .k (.b 3 rfl)) (.k (add_ .k (.g 0 rfl) .c (wr1 (by omega))) (.k (asg .k (.g 1 rfl)) .n))) [0,1,2,4] [2] rfl rfl (Nx.again (S.length - (k+1)) (by omega) [.b 2 (SP.mesh P T S) 26 3,.b 3 (.is (sgv s)) 28 2,.s 5 (iv (mC P T S)),.s 6 (bv true),.s 7 (iv (((k+1):Nat):Int))] ⟨(k+1),true,⟨hk2,by rw [in_next p1,← hb];rfl⟩,rfl,rfl⟩ (Sub.all (.cons 0 rfl (.cons 1 rfl (.cons 2 rfl (.cons 3 rfl (.cons 4 rfl .nil))))))))))
  ·
   refine Tr.draw hmx [(3,10)] (.k (mv .k (.b 3 rfl)) (.k (mv .k (.g 0 rfl)) (.k (faddr (.o 1 rfl rfl rfl) (.b 0 rfl) rfl fMS) (.k (ldc (.o 1 rfl rfl rfl) (.g 2 rfl) (.b 0 rfl) tyvS) (.k (mv (.o 1 rfl rfl rfl) (.b 4 rfl)) (.k (idx_ (.o 1 rfl rfl rfl) rwS (.g 3 rfl) (.g 4 rfl) rfl (gm p1)) (.k (ld_at (.o 1 rfl rfl rfl) (.g 5 rfl) tyS rfl (show _=sgv (_,_) from rfl)) (.k (ld (.o 1 rfl rfl rfl) (.b 1 rfl) tyS) (.k (eqS_ (.o 1 rfl rfl rfl) sG (.g 6 rfl) (.g 7 rfl) (eqSg _ _) (sg_eq he)) (.k (pickF .k (.g 1 rfl) (.g 8 rfl)) (.k (asg .k (.g 9 rfl)) .n))))))))))) [0,1,2,4] [10] rfl rfl (Nx.bkN (Nx.go (Tr.reg [(3,2)] (.k (mv .k (.b 3 rfl)) (.k (add_ .k (.g 0 rfl) .c (wr1 (by omega))) (.k (asg .k (.g 1 rfl)) .n))) [0,1,2,4] [2] rfl rfl (Nx.again (S.length - (k+1)) (by omega) [.b 2 (SP.mesh P T S) 26 3,.b 3 (.is (sgv s)) 28 2,.s 5 (iv (mC P T S)),.s 6 (bv true),.s 7 (iv (((k+1):Nat):Int))] ⟨(k+1),true,⟨hk2,by rw [in_next p1,← hb,decide_eq_true he];rfl⟩,rfl,rfl⟩ (Sub.all (.cons 0 rfl (.cons 1 rfl (.cons 2 rfl (.cons 3 rfl (.cons 4 rfl .nil))))))))))
  ·
   refine Tr.draw hmx [(3,10)] (.k (mv .k (.b 3 rfl)) (.k (mv .k (.g 0 rfl)) (.k (faddr (.o 1 rfl rfl rfl) (.b 0 rfl) rfl fMS) (.k (ldc (.o 1 rfl rfl rfl) (.g 2 rfl) (.b 0 rfl) tyvS) (.k (mv (.o 1 rfl rfl rfl) (.b 4 rfl)) (.k (idx_ (.o 1 rfl rfl rfl) rwS (.g 3 rfl) (.g 4 rfl) rfl (gm p1)) (.k (ld_at (.o 1 rfl rfl rfl) (.g 5 rfl) tyS rfl (show _=sgv (_,_) from rfl)) (.k (ld (.o 1 rfl rfl rfl) (.b 1 rfl) tyS) (.k (eqS_ (.o 1 rfl rfl rfl) sG (.g 6 rfl) (.g 7 rfl) (eqSg _ _) (sg_ne he)) (.k (pickF .k (.g 1 rfl) (.g 8 rfl)) (.k (asg .k (.g 9 rfl)) .n))))))))))) [0,1,2,4] [10] rfl rfl (Nx.bkN (Nx.go (Tr.reg [(3,2)] (.k (mv .k (.b 3 rfl)) (.k (add_ .k (.g 0 rfl) .c (wr1 (by omega))) (.k (asg .k (.g 1 rfl)) .n))) [0,1,2,4] [2] rfl rfl (Nx.again (S.length - (k+1)) (by omega) [.b 2 (SP.mesh P T S) 26 3,.b 3 (.is (sgv s)) 28 2,.s 5 (iv (mC P T S)),.s 6 (bv false),.s 7 (iv (((k+1):Nat):Int))] ⟨(k+1),false,⟨hk2,by rw [in_next p1,← hb,decide_eq_false he];rfl⟩,rfl,rfl⟩ (Sub.all (.cons 0 rfl (.cons 1 rfl (.cons 2 rfl (.cons 3 rfl (.cons 4 rfl .nil))))))))))
 ·
  obtain rfl:k=S.length:=by have:=of_decide_eq_false e14;have:=hinv.1;omega
  refine Tr.exit (Nx.thX (Nx.thX (Nx.bkX (Nx.go (?_)))))
  have hb:=hinv.2;rw [List.take_length] at hb;rcases crds_ways P T S s with hc|⟨hc,hs⟩|⟨hc,hs⟩
  ·
   rw [crwL_no (.inl hc)]
   refine Tr.seq (Tr.rs [] (.k (mv .k (.b 2 rfl)) (.k (ne_ .k (.g 0 rfl) .c (bne_iff_ne.2 (by rw [hc];decide))) (.k (mv .k (.g 1 rfl)) (.k (skp (.o 2 rfl rfl rfl)) (.k (skp (.o 2 rfl rfl rfl)) (.k (pickT .k (.g 2 rfl) .c) .n)))))) [0,1] [5] rfl rfl ?_)
   refine Tr.cond 2 rfl (fun _=>?_) nofun
   refine Tr.rs [] (.k (nilv (sz:=1) .k (.inl rfl)) .n) [] [0] rfl rfl ?_
   refine Tr.ret (end_tmp 0 rfl rfl)
  ·
   rw [crwL_no (.inr hs)]
   rw [decide_eq_false hs] at hb
   subst hb
   refine Tr.seq (Tr.rs [] (.k (mv .k (.b 2 rfl)) (.k (ne_ .k (.g 0 rfl) .c (bne_eq_false_iff_eq.2 hc)) (.k (mv .k (.g 1 rfl)) (.k (mv (.o 2 rfl rfl rfl) (.b 3 rfl)) (.k (not_ (.o 2 rfl rfl rfl) (.g 3 rfl)) (.k (pickF .k (.g 2 rfl) (.g 4 rfl)) .n)))))) [0,1] [5] rfl rfl ?_)
   refine Tr.cond 2 rfl (fun _=>?_) nofun
   refine Tr.rs [] (.k (nilv (sz:=1) .k (.inl rfl)) .n) [] [0] rfl rfl ?_
   refine Tr.ret (end_tmp 0 rfl rfl)
  ·
   rw [crwL_of hc hs]
   rw [decide_eq_true hs] at hb
   subst hb
   refine Tr.seq (Tr.rs [] (.k (mv .k (.b 2 rfl)) (.k (ne_ .k (.g 0 rfl) .c (bne_eq_false_iff_eq.2 hc)) (.k (mv .k (.g 1 rfl)) (.k (mv (.o 2 rfl rfl rfl) (.b 3 rfl)) (.k (not_ (.o 2 rfl rfl rfl) (.g 3 rfl)) (.k (pickF .k (.g 2 rfl) (.g 4 rfl)) .n)))))) [0,1] [5] rfl rfl ?_)
   refine Tr.cond 2 rfl nofun (fun _=>?_)
   refine Tr.skip (Nx.go (Tr.rs [] (.k (ld .k (.b 0 rfl) tyM) (.k (ld .k (.b 1 rfl) tyS) (.k (cal .k Tryz.func30 rfl (fn_rcrowds hP hT (mC_ok hc) hs) (.k (.g 0 rfl) (.k (.g 1 rfl) .n))) (.k (asg .k (.g 2 rfl)) .n)))) [] [3] rfl rfl ?_))
   refine Tr.ret (end_tmp 0 rfl rfl)
theorem good_ways (P:List (Int × Int)) (T:List (Int × Int × Int)) (S:List (Int × Int)):(mC P T S=2∧goodR P T S=false)∨(mC P T S=0∧((crdL P T S).length:Int)≠0∧goodR P T S=false)∨(mC P T S=0∧((crdL P T S).length:Int)=0∧((sknL P T S).length:Int)≠0∧goodR P T S=false)∨(mC P T S=0∧((crdL P T S).length:Int)=0∧((sknL P T S).length:Int)=0∧goodR P T S=true):=by
  rcases mC_two (P:=P) (T:=T) (S:=S) with h|h
  · rw [goodR_of h]
    by_cases h1:((crdL P T S).length:Int)=0
    · by_cases h2:((sknL P T S).length:Int)=0
      · exact .inr (.inr (.inr ⟨h,h1,h2,beq_iff_eq.2 (by omega)⟩))
      · exact .inr (.inr (.inl ⟨h,h1,h2,beq_eq_false_iff_ne.2 (by omega)⟩))
    · exact .inr (.inl ⟨h,h1,beq_eq_false_iff_ne.2 (by omega)⟩)
  · exact .inl ⟨h,goodR_no h⟩
theorem fn_rGood {P:List (Int × Int)} {T:List (Int × Int × Int)} {S:List (Int × Int)} (hP:P.length≤1000000) (hT:T.length≤1000000) (hS:S.length≤1000000):FnC Tryz.prog 19 [SP.mesh P T S] (bv (goodR P T S)):=by
 refine FnC.of (N:=29) Tryz.func19 rfl rfl (Nat.le_of_ble_eq_true rfl) (fun w0 ok0=>?_)
 refine Tr.rs [] (.k (bxx .k (.b 0 rfl)) (.k (asg .k .c) .n)) [] [0] rfl rfl ?_
 refine Tr.rs [] (.k (ld .k (.b 0 rfl) tyM) (.k (cal .k Tryz.func10 rfl (fn_rCrowded hP hT hS) (.k (.g 0 rfl) .n)) (.k (mv .k (.g 1 rfl)) (.k (exx .k (.g 2 rfl) rfl) (.k (exx .k (.g 2 rfl) rfl) (.k (asg .k (.g 3 rfl)) (.k (asg .k (.g 4 rfl)) .n))))))) [0] [5,6] rfl rfl ?_
 refine Tr.rs [] (.k (ld .k (.b 0 rfl) tyM) (.k (cal .k Tryz.func12 rfl (fn_rSkinnyM hP hT hS) (.k (.g 0 rfl) .n)) (.k (mv .k (.g 1 rfl)) (.k (exx .k (.g 2 rfl) rfl) (.k (exx .k (.g 2 rfl) rfl) (.k (asg .k (.g 3 rfl)) (.k (asg .k (.g 4 rfl)) .n))))))) [1,2] [5] rfl rfl ?_
 rcases good_ways P T S with ⟨hc,hg⟩|⟨hc,h1,hg⟩|⟨hc,h1,h2,hg⟩|⟨hc,h1,h2,hg⟩
 ·
  rw [hg]
  refine Tr.rs [] (.k (mv .k (.b 1 rfl)) (.k (eq_ .k (.g 0 rfl) .c (beq_eq_false_iff_ne.2 (by rw [hc];decide))) (.k (mv .k (.g 1 rfl)) (.k (skp (.o 2 rfl rfl rfl)) (.k (skp (.o 2 rfl rfl rfl)) (.k (skp (.o 2 rfl rfl rfl)) (.k (pickF .k (.g 2 rfl) .c) (.k (mv .k (.g 6 rfl)) (.k (skp (.o 7 rfl rfl rfl)) (.k (skp (.o 7 rfl rfl rfl)) (.k (skp (.o 7 rfl rfl rfl)) (.k (pickF .k (.g 7 rfl) .c) (.k (asg .k (.g 11 rfl)) .n))))))))))))) [] [12] rfl rfl ?_
  refine Tr.ret (end_tmp 0 rfl rfl)
 ·
  rw [hg]
  refine Tr.rs [] (.k (mv .k (.b 1 rfl)) (.k (eq_ .k (.g 0 rfl) .c (beq_iff_eq.2 hc)) (.k (mv .k (.g 1 rfl)) (.k (mv (.o 2 rfl rfl rfl) (.b 0 rfl)) (.k (len_ (.o 2 rfl rfl rfl) rwI (.g 3 rfl) (by rw [List.length_map])) (.k (eq_ (.o 2 rfl rfl rfl) (.g 4 rfl) .c (beq_eq_false_iff_ne.2 h1)) (.k (pickT .k (.g 2 rfl) (.g 5 rfl)) (.k (mv .k (.g 6 rfl)) (.k (skp (.o 7 rfl rfl rfl)) (.k (skp (.o 7 rfl rfl rfl)) (.k (skp (.o 7 rfl rfl rfl)) (.k (pickF .k (.g 7 rfl) .c) (.k (asg .k (.g 11 rfl)) .n))))))))))))) [] [12] rfl rfl ?_
  refine Tr.ret (end_tmp 0 rfl rfl)
 ·
  rw [hg]
  refine Tr.rs [] (.k (mv .k (.b 1 rfl)) (.k (eq_ .k (.g 0 rfl) .c (beq_iff_eq.2 hc)) (.k (mv .k (.g 1 rfl)) (.k (mv (.o 2 rfl rfl rfl) (.b 0 rfl)) (.k (len_ (.o 2 rfl rfl rfl) rwI (.g 3 rfl) (by rw [List.length_map])) (.k (eq_ (.o 2 rfl rfl rfl) (.g 4 rfl) .c (beq_iff_eq.2 h1)) (.k (pickT .k (.g 2 rfl) (.g 5 rfl)) (.k (mv .k (.g 6 rfl)) (.k (mv (.o 7 rfl rfl rfl) (.b 2 rfl)) (.k (len_ (.o 7 rfl rfl rfl) rwI (.g 8 rfl) (by rw [List.length_map])) (.k (eq_ (.o 7 rfl rfl rfl) (.g 9 rfl) .c (beq_eq_false_iff_ne.2 h2)) (.k (pickT .k (.g 7 rfl) (.g 10 rfl)) (.k (asg .k (.g 11 rfl)) .n))))))))))))) [] [12] rfl rfl ?_
  refine Tr.ret (end_tmp 0 rfl rfl)
 ·
  rw [hg]
  refine Tr.rs [] (.k (mv .k (.b 1 rfl)) (.k (eq_ .k (.g 0 rfl) .c (beq_iff_eq.2 hc)) (.k (mv .k (.g 1 rfl)) (.k (mv (.o 2 rfl rfl rfl) (.b 0 rfl)) (.k (len_ (.o 2 rfl rfl rfl) rwI (.g 3 rfl) (by rw [List.length_map])) (.k (eq_ (.o 2 rfl rfl rfl) (.g 4 rfl) .c (beq_iff_eq.2 h1)) (.k (pickT .k (.g 2 rfl) (.g 5 rfl)) (.k (mv .k (.g 6 rfl)) (.k (mv (.o 7 rfl rfl rfl) (.b 2 rfl)) (.k (len_ (.o 7 rfl rfl rfl) rwI (.g 8 rfl) (by rw [List.length_map])) (.k (eq_ (.o 7 rfl rfl rfl) (.g 9 rfl) .c (beq_iff_eq.2 h2)) (.k (pickT .k (.g 7 rfl) (.g 10 rfl)) (.k (asg .k (.g 11 rfl)) .n))))))))))))) [] [12] rfl rfl ?_
  refine Tr.ret (end_tmp 0 rfl rfl)
theorem fn_SamePoints {l:List (Int × Int)} (hl:l.length≤1000000):FnC Tryz.prog 38 [pvec l,pvec l] (bv true):=by
 refine FnC.of (N:=26) Tryz.func38 rfl rfl (Nat.le_of_ble_eq_true rfl) (fun w0 ok0=>?_)
 refine Tr.rs [] (.k (asg .k .c) .n) [0,1] [] rfl rfl ?_
 refine Tr.seq (Tr.rs [] (.k (mv .k (.b 0 rfl)) (.k (len_ .k rwP (.g 0 rfl) (by rw [List.length_map])) (.k (mv .k (.b 1 rfl)) (.k (len_ .k rwP (.g 2 rfl) (by rw [List.length_map])) (.k (ne_ .k (.g 1 rfl) (.g 3 rfl) (bne_self_eq_false _)) .n))))) [0,1] [4] rfl rfl ?_)
 refine Tr.cond 2 rfl nofun (fun _=>?_)
 refine Tr.skip (Nx.go (Tr.seq (Tr.rs [] (.k (asg .k .c) .n) [0,1] [0] rfl rfl ?_)))
 refine Tr.block (?_)
 refine Tr.loop (fun n_ F_=>∃ k:Nat,(k≤l.length)∧n_=l.length - k∧F_=[.s 0 (pvec l),.s 1 (pvec l),.s 5 (iv ((k:Nat):Int))]) (l.length - 0) (F0:=[.s 0 (pvec l),.s 1 (pvec l),.s 5 (iv ((0:Nat):Int))]) ⟨0,(Nat.zero_le _),rfl,rfl⟩ (Sub.all (.cons 0 rfl (.cons 1 rfl (.cons 2 rfl .nil)))) (fun n_ F_ hI=>?_)
 obtain ⟨k,hinv,rfl,rfl⟩:=hI
 refine Tr.seq (Tr.rs [] (.k (mv .k (.b 2 rfl)) (.k (mv .k (.b 0 rfl)) (.k (len_ .k rwP (.g 1 rfl) (by rw [List.length_map])) (.k (lt_ .k (.g 0 rfl) (.g 2 rfl) rfl) .n)))) [0,1,2] [3] rfl rfl ?_)
 refine Tr.cond 3 rfl (fun e14=>?_) (fun e14=>?_)
 ·
  have hk2:k < l.length:=by have:=of_decide_eq_true e14;omega
  refine Tr.skip (Nx.go (Tr.seq (Tr.block (?_))))
  obtain ⟨x,p1⟩:∃ x,l[k]?=some x:=⟨_,List.getElem?_eq_getElem hk2⟩
  refine Tr.ds hmx [] (.k (mv .k (.b 0 rfl)) (.k (mv .k (.b 2 rfl)) (.k (idx_ .k rwP (.g 0 rfl) (.g 1 rfl) rfl (gm p1)) (.k (ld_at .k (.g 2 rfl) tyP rfl (show _=ptv _ _ from rfl)) (.k (mv .k (.b 1 rfl)) (.k (mv .k (.b 2 rfl)) (.k (idx_ .k rwP (.g 4 rfl) (.g 5 rfl) rfl (gm p1)) (.k (ld_at .k (.g 6 rfl) tyP rfl (show _=ptv _ _ from rfl)) (.k (neS_ .k ptG (.g 3 rfl) (.g 7 rfl) (eqP _ _ _ _) (show _=false from by simp)) .n))))))))) [0,1,2] [8] rfl rfl ?_
  refine Tr.cond 3 rfl nofun (fun _=>?_)
  refine Tr.skip (Nx.bkN (Nx.go (Tr.reg [(2,2)] (.k (mv .k (.b 2 rfl)) (.k (add_ .k (.g 0 rfl) .c (wr1 (by omega))) (.k (asg .k (.g 1 rfl)) .n))) [0,1] [2] rfl rfl (Nx.again (l.length - (k+1)) (by omega) [.s 0 (pvec l),.s 1 (pvec l),.s 5 (iv (((k+1):Nat):Int))] ⟨(k+1),hk2,rfl,rfl⟩ (Sub.all (.cons 0 rfl (.cons 1 rfl (.cons 2 rfl .nil))))))))
 ·
  refine Tr.exit (Nx.thX (Nx.thX (Nx.bkX (Nx.go (Tr.rs [] (.k (asg .k .c) .n) [] [0] rfl rfl ?_)))))
  refine Tr.ret (end_tmp 0 rfl rfl)
theorem fn_SameSegs {l:List (Int × Int)} (hl:l.length≤1000000):FnC Tryz.prog 40 [svec l,svec l] (bv true):=by
 refine FnC.of (N:=26) Tryz.func40 rfl rfl (Nat.le_of_ble_eq_true rfl) (fun w0 ok0=>?_)
 refine Tr.rs [] (.k (asg .k .c) .n) [0,1] [] rfl rfl ?_
 refine Tr.seq (Tr.rs [] (.k (mv .k (.b 0 rfl)) (.k (len_ .k rwS (.g 0 rfl) (by rw [List.length_map])) (.k (mv .k (.b 1 rfl)) (.k (len_ .k rwS (.g 2 rfl) (by rw [List.length_map])) (.k (ne_ .k (.g 1 rfl) (.g 3 rfl) (bne_self_eq_false _)) .n))))) [0,1] [4] rfl rfl ?_)
 refine Tr.cond 2 rfl nofun (fun _=>?_)
 refine Tr.skip (Nx.go (Tr.seq (Tr.rs [] (.k (asg .k .c) .n) [0,1] [0] rfl rfl ?_)))
 refine Tr.block (?_)
 refine Tr.loop (fun n_ F_=>∃ k:Nat,(k≤l.length)∧n_=l.length - k∧F_=[.s 0 (svec l),.s 1 (svec l),.s 5 (iv ((k:Nat):Int))]) (l.length - 0) (F0:=[.s 0 (svec l),.s 1 (svec l),.s 5 (iv ((0:Nat):Int))]) ⟨0,(Nat.zero_le _),rfl,rfl⟩ (Sub.all (.cons 0 rfl (.cons 1 rfl (.cons 2 rfl .nil)))) (fun n_ F_ hI=>?_)
 obtain ⟨k,hinv,rfl,rfl⟩:=hI
 refine Tr.seq (Tr.rs [] (.k (mv .k (.b 2 rfl)) (.k (mv .k (.b 0 rfl)) (.k (len_ .k rwS (.g 1 rfl) (by rw [List.length_map])) (.k (lt_ .k (.g 0 rfl) (.g 2 rfl) rfl) .n)))) [0,1,2] [3] rfl rfl ?_)
 refine Tr.cond 3 rfl (fun e14=>?_) (fun e14=>?_)
 ·
  have hk2:k < l.length:=by have:=of_decide_eq_true e14;omega
  refine Tr.skip (Nx.go (Tr.seq (Tr.block (?_))))
  obtain ⟨x,p1⟩:∃ x,l[k]?=some x:=⟨_,List.getElem?_eq_getElem hk2⟩
  refine Tr.ds hmx [] (.k (mv .k (.b 0 rfl)) (.k (mv .k (.b 2 rfl)) (.k (idx_ .k rwS (.g 0 rfl) (.g 1 rfl) rfl (gm p1)) (.k (ld_at .k (.g 2 rfl) tyS rfl (show _=sgv (_,_) from rfl)) (.k (mv .k (.b 1 rfl)) (.k (mv .k (.b 2 rfl)) (.k (idx_ .k rwS (.g 4 rfl) (.g 5 rfl) rfl (gm p1)) (.k (ld_at .k (.g 6 rfl) tyS rfl (show _=sgv (_,_) from rfl)) (.k (neS_ .k sG (.g 3 rfl) (.g 7 rfl) (eqSg _ _) (show _=false from by simp)) .n))))))))) [0,1,2] [8] rfl rfl ?_
  refine Tr.cond 3 rfl nofun (fun _=>?_)
  refine Tr.skip (Nx.bkN (Nx.go (Tr.reg [(2,2)] (.k (mv .k (.b 2 rfl)) (.k (add_ .k (.g 0 rfl) .c (wr1 (by omega))) (.k (asg .k (.g 1 rfl)) .n))) [0,1] [2] rfl rfl (Nx.again (l.length - (k+1)) (by omega) [.s 0 (svec l),.s 1 (svec l),.s 5 (iv (((k+1):Nat):Int))] ⟨(k+1),hk2,rfl,rfl⟩ (Sub.all (.cons 0 rfl (.cons 1 rfl (.cons 2 rfl .nil))))))))
 ·
  refine Tr.exit (Nx.thX (Nx.thX (Nx.bkX (Nx.go (Tr.rs [] (.k (asg .k .c) .n) [] [0] rfl rfl ?_)))))
  refine Tr.ret (end_tmp 0 rfl rfl)
theorem fn_SameTris {l:List (Int × Int × Int)} (hl:l.length≤1000000):FnC Tryz.prog 39 [tvec l,tvec l] (bv true):=by
 refine FnC.of (N:=26) Tryz.func39 rfl rfl (Nat.le_of_ble_eq_true rfl) (fun w0 ok0=>?_)
 refine Tr.rs [] (.k (asg .k .c) .n) [0,1] [] rfl rfl ?_
 refine Tr.seq (Tr.rs [] (.k (mv .k (.b 0 rfl)) (.k (len_ .k rwT (.g 0 rfl) (by rw [List.length_map])) (.k (mv .k (.b 1 rfl)) (.k (len_ .k rwT (.g 2 rfl) (by rw [List.length_map])) (.k (ne_ .k (.g 1 rfl) (.g 3 rfl) (bne_self_eq_false _)) .n))))) [0,1] [4] rfl rfl ?_)
 refine Tr.cond 2 rfl nofun (fun _=>?_)
 refine Tr.skip (Nx.go (Tr.seq (Tr.rs [] (.k (asg .k .c) .n) [0,1] [0] rfl rfl ?_)))
 refine Tr.block (?_)
 refine Tr.loop (fun n_ F_=>∃ k:Nat,(k≤l.length)∧n_=l.length - k∧F_=[.s 0 (tvec l),.s 1 (tvec l),.s 5 (iv ((k:Nat):Int))]) (l.length - 0) (F0:=[.s 0 (tvec l),.s 1 (tvec l),.s 5 (iv ((0:Nat):Int))]) ⟨0,(Nat.zero_le _),rfl,rfl⟩ (Sub.all (.cons 0 rfl (.cons 1 rfl (.cons 2 rfl .nil)))) (fun n_ F_ hI=>?_)
 obtain ⟨k,hinv,rfl,rfl⟩:=hI
 refine Tr.seq (Tr.rs [] (.k (mv .k (.b 2 rfl)) (.k (mv .k (.b 0 rfl)) (.k (len_ .k rwT (.g 1 rfl) (by rw [List.length_map])) (.k (lt_ .k (.g 0 rfl) (.g 2 rfl) rfl) .n)))) [0,1,2] [3] rfl rfl ?_)
 refine Tr.cond 3 rfl (fun e14=>?_) (fun e14=>?_)
 ·
  have hk2:k < l.length:=by have:=of_decide_eq_true e14;omega
  refine Tr.skip (Nx.go (Tr.seq (Tr.block (?_))))
  obtain ⟨x,p1⟩:∃ x,l[k]?=some x:=⟨_,List.getElem?_eq_getElem hk2⟩
  refine Tr.ds hmx [] (.k (mv .k (.b 0 rfl)) (.k (mv .k (.b 2 rfl)) (.k (idx_ .k rwT (.g 0 rfl) (.g 1 rfl) rfl (gm p1)) (.k (ld_at .k (.g 2 rfl) tyT rfl (show _=trv (_,_,_) from rfl)) (.k (mv .k (.b 1 rfl)) (.k (mv .k (.b 2 rfl)) (.k (idx_ .k rwT (.g 4 rfl) (.g 5 rfl) rfl (gm p1)) (.k (ld_at .k (.g 6 rfl) tyT rfl (show _=trv (_,_,_) from rfl)) (.k (neS_ .k tG (.g 3 rfl) (.g 7 rfl) (eqTr _ _) (tr_eq _)) .n))))))))) [0,1,2] [8] rfl rfl ?_
  refine Tr.cond 3 rfl nofun (fun _=>?_)
  refine Tr.skip (Nx.bkN (Nx.go (Tr.reg [(2,2)] (.k (mv .k (.b 2 rfl)) (.k (add_ .k (.g 0 rfl) .c (wr1 (by omega))) (.k (asg .k (.g 1 rfl)) .n))) [0,1] [2] rfl rfl (Nx.again (l.length - (k+1)) (by omega) [.s 0 (tvec l),.s 1 (tvec l),.s 5 (iv (((k+1):Nat):Int))] ⟨(k+1),hk2,rfl,rfl⟩ (Sub.all (.cons 0 rfl (.cons 1 rfl (.cons 2 rfl .nil))))))))
 ·
  refine Tr.exit (Nx.thX (Nx.thX (Nx.bkX (Nx.go (Tr.rs [] (.k (asg .k .c) .n) [] [0] rfl rfl ?_)))))
  refine Tr.ret (end_tmp 0 rfl rfl)
theorem fn_Same {P:List (Int × Int)} {T:List (Int × Int × Int)} {S:List (Int × Int)} (hP:P.length≤1000000) (hT:T.length≤1000000) (hS:S.length≤1000000):FnC Tryz.prog 20 [SP.mesh P T S,SP.mesh P T S] (bv true):=by
 refine FnC.of (N:=24) Tryz.func20 rfl rfl (Nat.le_of_ble_eq_true rfl) (fun w0 ok0=>?_)
 refine Tr.rs [] (.k (bxx .k (.b 0 rfl)) (.k (bxx .k (.b 1 rfl)) (.k (asg .k .c) .n))) [] [0,1] rfl rfl ?_
 refine Tr.rs [] (.k (faddr .k (.b 0 rfl) rfl fMP) (.k (ldc .k (.g 0 rfl) (.b 0 rfl) tyvP) (.k (faddr .k (.b 1 rfl) rfl fMP) (.k (ldc .k (.g 2 rfl) (.b 1 rfl) tyvP) (.k (cal .k Tryz.func38 rfl (fn_SamePoints hP) (.k (.g 1 rfl) (.k (.g 3 rfl) .n))) (.k (mv .k (.g 4 rfl)) (.k (faddr (.o 5 rfl rfl rfl) (.b 0 rfl) rfl fMT) (.k (ldc (.o 5 rfl rfl rfl) (.g 6 rfl) (.b 0 rfl) tyvT) (.k (faddr (.o 5 rfl rfl rfl) (.b 1 rfl) rfl fMT) (.k (ldc (.o 5 rfl rfl rfl) (.g 8 rfl) (.b 1 rfl) tyvT) (.k (cal (.o 5 rfl rfl rfl) Tryz.func39 rfl (fn_SameTris hT) (.k (.g 7 rfl) (.k (.g 9 rfl) .n))) (.k (pickT .k (.g 5 rfl) (.g 10 rfl)) (.k (mv .k (.g 11 rfl)) (.k (faddr (.o 12 rfl rfl rfl) (.b 0 rfl) rfl fMS) (.k (ldc (.o 12 rfl rfl rfl) (.g 13 rfl) (.b 0 rfl) tyvS) (.k (faddr (.o 12 rfl rfl rfl) (.b 1 rfl) rfl fMS) (.k (ldc (.o 12 rfl rfl rfl) (.g 15 rfl) (.b 1 rfl) tyvS) (.k (cal (.o 12 rfl rfl rfl) Tryz.func40 rfl (fn_SameSegs hS) (.k (.g 14 rfl) (.k (.g 16 rfl) .n))) (.k (pickT .k (.g 12 rfl) (.g 17 rfl)) (.k (asg .k (.g 18 rfl)) .n)))))))))))))))))))) [] [19] rfl rfl ?_
 refine Tr.ret (end_tmp 0 rfl rfl)
end Go.Proofs.YtkgagdjogedoiaaGreat

/- The program's check of a mesh; walked. -/
import Derived.Test.YtkgagdjogedoiaaGreatDf6
import Derived.Test.YtkgagdjogedoiaaGreatDp9
import Derived.Test.YtkgagdjogedoiaaGreatCx
set_option linter.unusedVariables false
set_option linter.unusedSimpArgs false
namespace Go.Proofs.YtkgagdjogedoiaaGreat
open Go Go.RowKit Go.Proofs.YtkgagdjogedoiaaGreat.Fx Go.Proofs.YtkgagdjogedoiaaGreatW.PrintWords
theorem wfI {a:Int} (h0 : -9223372036854775808≤a) (h1:a≤9223372036854775807):(Lit.int .i64 a).wf=true:=by
  have e1:IntKind.i64.min = -9223372036854775808:=by decide
  have e2:IntKind.i64.max=9223372036854775807:=by decide
  show (decide (IntKind.i64.min≤a) && decide (a≤IntKind.i64.max))=true
  rw [e1,e2]
  simp
  omega
def Rng (L:List (Int × Int)) (left:Lit→Bool) (ok:Int × Int→Prop):Prop:=∀ p kl,keyOf Tryz.prog 28 (pcv p)=some kl→p∈L→left kl=true∨ok p
theorem Rng.zero {L:List (Int × Int)} {left:Lit→Bool} {ok:Int × Int→Prop} (h:∀ p kl,keyOf Tryz.prog 28 (pcv p)=some kl→p∈L→left kl=true):Rng L left ok:=fun p kl h1 h2 => .inl (h p kl h1 h2)
theorem pcv_inj {p q:Int × Int} (h:pcv p=pcv q):p=q:=by
  unfold pcv at h
  simp at h
  exact Prod.ext h.1 h.2
theorem Rng.succ {L:List (Int × Int)} {left:Lit→Bool} {ok:Int × Int→Prop} {p:Int × Int} {kl:Lit} (h:Rng L left ok) (hk:keyOf Tryz.prog 28 (pcv p)=some kl) (hp:ok p):Rng L (fun x=>left x && !x.sameKey kl) ok:=fun q ql h1 h2=>by
  by_cases hs:ql.sameKey kl=true
  · have e:=Go.WideAt.sameKey_eq hs
    subst e
    rw [pcv_inj (keyS.K.inj h1 hk)]
    exact .inr hp
  · rcases h q ql h1 h2 with h3|h3
    · left
      simp [h3,hs]
    · exact .inr h3
theorem Rng.end_ {L:List (Int × Int)} {left:Lit→Bool} {ok:Int × Int→Prop} (h:Rng L left ok) (hl:∀ kl,left kl=false) (hw:∀ p∈L,(Lit.int .i64 p.1).wf=true∧(Lit.int .i64 p.2).wf=true):∀ p∈L,ok p:=fun p hp=>by
  obtain ⟨kl,hk⟩:=keyS.hk p.1 p.2 (hw p hp).1 (hw p hp).2
  rcases h p kl hk hp with h1|h1
  · rw [hl] at h1;cases h1
  · exact h1
def rimOK (L M:List (Int × Int)) (p:Int × Int):Prop:=rv p∈L∨nrm p∈M
theorem seg_cases {S:List (Int × Int)} {i:Nat} {s:Int × Int} (h:S[i]?=some s):(¬ s.1 < s.2)∨(s.1 < s.2∧i=0)∨(s.1 < s.2∧∃ (j:Nat) (u:Int × Int),i=j+1∧S[j]?=some u∧¬ ltS u s)∨(s.1 < s.2∧∃ (j:Nat) (u:Int × Int),i=j+1∧S[j]?=some u∧ltS u s):=by
  by_cases hlt:s.1 < s.2
  · rcases prev_ways ltS h with h0|⟨j,u,hj,hu,hn⟩|⟨j,u,hj,hu,hn⟩
    · exact .inr (.inl ⟨hlt,h0⟩)
    · exact .inr (.inr (.inl ⟨hlt,j,u,hj,hu,hn⟩))
    · exact .inr (.inr (.inr ⟨hlt,j,u,hj,hu,hn⟩))
  · exact .inl hlt
theorem hin_ways {T:List (Int × Int × Int)} {n:Nat} {o:Int→Int→Int→Int} {L:List (Int × Int)} (hA:ChkP n o T T.length L) (s:Int × Int):(decide ((s.1,s.2)∈L)=true∧(s∈edgs T∨rv s∈edgs T))∨(decide ((s.1,s.2)∈L)=false∧decide ((s.2,s.1)∈L)=true∧(s∈edgs T∨rv s∈edgs T))∨(decide ((s.1,s.2)∈L)=false∧decide ((s.2,s.1)∈L)=false∧(s ∉ L∧rv s ∉ L)):=by
  have hm:=hA.mem
  rw [List.take_length] at hm
  by_cases h1:s∈L
  · exact .inl ⟨decide_eq_true h1,.inl ((hm _).1 h1)⟩
  by_cases h2:rv s∈L
  · exact .inr (.inl ⟨decide_eq_false h1,decide_eq_true h2,.inr ((hm _).1 h2)⟩)
  · exact .inr (.inr ⟨decide_eq_false h1,decide_eq_false h2,h1,h2⟩)
theorem seg_all_ways {T:List (Int × Int × Int)} {n:Nat} {o:Int→Int→Int→Int} {L S:List (Int × Int)} (hA:ChkP n o T T.length L) {i:Nat} {s:Int × Int} (h:S[i]?=some s):(¬ s.1 < s.2)∨(s.1 < s.2∧i=0∧(decide ((s.1,s.2)∈L)=true∧(s∈edgs T∨rv s∈edgs T)))∨(s.1 < s.2∧i=0∧(decide ((s.1,s.2)∈L)=false∧decide ((s.2,s.1)∈L)=true∧(s∈edgs T∨rv s∈edgs T)))∨(s.1 < s.2∧i=0∧(decide ((s.1,s.2)∈L)=false∧decide ((s.2,s.1)∈L)=false∧(s ∉ L∧rv s ∉ L)))∨(s.1 < s.2∧∃ (j:Nat) (u:Int × Int),i=j+1∧S[j]?=some u∧¬ ltS u s)∨(s.1 < s.2∧∃ (j:Nat) (u:Int × Int),i=j+1∧S[j]?=some u∧ltS u s∧(decide ((s.1,s.2)∈L)=true∧(s∈edgs T∨rv s∈edgs T)))∨(s.1 < s.2∧∃ (j:Nat) (u:Int × Int),i=j+1∧S[j]?=some u∧ltS u s∧(decide ((s.1,s.2)∈L)=false∧decide ((s.2,s.1)∈L)=true∧(s∈edgs T∨rv s∈edgs T)))∨(s.1 < s.2∧∃ (j:Nat) (u:Int × Int),i=j+1∧S[j]?=some u∧ltS u s∧(decide ((s.1,s.2)∈L)=false∧decide ((s.2,s.1)∈L)=false∧(s ∉ L∧rv s ∉ L))):=by
  rcases seg_cases h with h0|⟨h1,h2⟩|⟨h1,j,u,hj,hu,hn⟩|⟨h1,j,u,hj,hu,hn⟩
  · exact .inl h0
  · rcases hin_ways hA s with hh|hh|hh
    · exact .inr (.inl ⟨h1,h2,hh⟩)
    · exact .inr (.inr (.inl ⟨h1,h2,hh⟩))
    · exact .inr (.inr (.inr (.inl ⟨h1,h2,hh⟩)))
  · exact .inr (.inr (.inr (.inr (.inl ⟨h1,j,u,hj,hu,hn⟩))))
  · rcases hin_ways hA s with hh|hh|hh
    · exact .inr (.inr (.inr (.inr (.inr (.inl ⟨h1,j,u,hj,hu,hn,hh⟩)))))
    · exact .inr (.inr (.inr (.inr (.inr (.inr (.inl ⟨h1,j,u,hj,hu,hn,hh⟩))))))
    · exact .inr (.inr (.inr (.inr (.inr (.inr (.inr ⟨h1,j,u,hj,hu,hn,hh⟩))))))
theorem rim_ways (L M:List (Int × Int)) (p:Int × Int):(decide ((p.2,p.1)∈L)=true∧rimOK L M p)∨(decide ((p.2,p.1)∈L)=false∧decide (((nrm p).1,(nrm p).2)∈M)=true∧rimOK L M p)∨(decide ((p.2,p.1)∈L)=false∧decide (((nrm p).1,(nrm p).2)∈M)=false∧rv p ∉ L∧nrm p ∉ M):=by
  by_cases h1:rv p∈L
  · exact .inl ⟨decide_eq_true h1,.inl h1⟩
  by_cases h2:nrm p∈M
  · exact .inr (.inl ⟨decide_eq_false h1,decide_eq_true h2,.inr h2⟩)
  · exact .inr (.inr ⟨decide_eq_false h1,decide_eq_false h2,h1,h2⟩)
theorem nrm_wf {p:Int × Int} {n:Nat} (hn:n≤1000000) (h:(0≤p.1∧p.1 < n)∧(0≤p.2∧p.2 < n)):(0≤(nrm p).1∧(nrm p).1 < n)∧(0≤(nrm p).2∧(nrm p).2 < n):=by
  unfold nrm
  simp only
  omega
set_option maxRecDepth 100000 in
set_option maxHeartbeats 8000000 in
theorem fn_Check {P:List (Int × Int)} {T:List (Int × Int × Int)} {S:List (Int × Int)} (hP:P.length≤1000000) (hT:T.length≤1000000) (hS:S.length≤1000000) (hw:∀ s∈S,(Lit.int .i64 s.1).wf=true∧(Lit.int .i64 s.2).wf=true):FnC Tryz.prog 26 [SP.mesh P T S] (iv (chkR P.length (oP P) T S)):=by
 refine FnC.of (N:=138) Tryz.func26 rfl rfl (Nat.le_of_ble_eq_true rfl) (fun w0 ok0=>?_)
 refine Tr.rs [] (.k (bxx .k (.b 0 rfl)) (.k (asg .k .c) .n)) [] [0] rfl rfl ?_
 refine Tr.gos (Go.mkmap 1 .k Tryz.underlying84 [0] rfl rfl fun g1=>(Go.k (asg .k (.b 0 rfl)) [1,2] rfl rfl (Go.end_ (Nx.go (?_)))))
 refine Tr.seq (Tr.rs [] (.k (faddr .k (.b 2 rfl) rfl fMT) (.k (ldc .k (.g 0 rfl) (.b 2 rfl) tyvT) (.k (len_ .k rwT (.g 1 rfl) (by rw [List.length_map])) (.k (mv .k .c) .n)))) [0,1,2] [1,2,3] rfl rfl ?_)
 refine Tr.block (?_)
 refine Tr.loop (fun n_ F_=>∃ k:Nat,∃ L:List (Int × Int),(ChkP P.length (oP P) T k L)∧n_=T.length - k∧F_=[.b 1 (SP.mesh P T S) 26 3,.s 3 (.is (.map (some g1))),.s 16 (tvec T),.s 17 (iv ((T.length:Nat):Int)),.s 18 (iv ((k:Nat):Int)),.h 1 g1 (HP.pset Tryz.prog 28 4 (3 * k) L)]) (T.length - 0) (F0:=[.b 1 (SP.mesh P T S) 26 3,.s 3 (.is (.map (some g1))),.s 16 (tvec T),.s 17 (iv ((T.length:Nat):Int)),.s 18 (iv ((0:Nat):Int)),.h 1 g1 (HP.pset Tryz.prog 28 4 (3 * 0) [])]) ⟨0,[],ChkP.zero,rfl,rfl⟩ (Sub.all (.cons 2 rfl (.cons 0 rfl (.cons 3 rfl (.cons 4 rfl (.cons 5 rfl (.cons 1 rfl .nil))))))) (fun n_ F_ hI=>?_)
 obtain ⟨k,L,hinv,rfl,rfl⟩:=hI
 refine Tr.rs [] (.k (lt_ .k (.b 4 rfl) (.b 3 rfl) rfl) .n) [0,1,2,3,4,5] [0] rfl rfl ?_
 refine Tr.seq (Tr.cond 6 rfl (fun e19=>?_) (fun e19=>?_))
 ·
  have hk2:k < T.length:=by have:=of_decide_eq_true e19;omega
  refine Tr.skip (Nx.go (Tr.seq (Tr.block (?_))))
  obtain ⟨t,p1⟩:∃ t,T[k]?=some t:=⟨_,List.getElem?_eq_getElem hk2⟩;rcases tri_cases P.length (oP P) t with ⟨u,he⟩|⟨u,hne,he⟩|he
  ·
   rw [chk_tri (oP_ori P) p1 he (.inl rfl)]
   refine Tr.rs [] (.k (mv .k (.b 4 rfl)) (.k (idx_ .k rwT (.b 2 rfl) (.b 4 rfl) rfl (gm p1)) (.k (ld_at .k (.g 1 rfl) tyT rfl (show _=trv (_,_,_) from rfl)) (.k (ala .k zT) (.k (asg .k (.g 0 rfl)) (.k (sta .k (.g 3 rfl) (.g 2 rfl) tyT) .n)))))) [0,1,2,3,4,5] [4,5] rfl rfl ?_
   refine Tr.seq (Tr.rs [] (.k (faddr .k (.b 0 rfl) rfl fMP) (.k (ldc .k (.g 0 rfl) (.b 0 rfl) tyvP) (.k (faddr .k (.b 7 rfl) rfl fTA) (.k (ldc .k (.g 2 rfl) (.b 7 rfl) tyI) (.k (faddr .k (.b 7 rfl) rfl fTB) (.k (ldc .k (.g 4 rfl) (.b 7 rfl) tyI) (.k (faddr .k (.b 7 rfl) rfl fTC) (.k (ldc .k (.g 6 rfl) (.b 7 rfl) tyI) (.k (cal .k Tryz.func54 rfl (fn_Tri' hP he) (.k (.g 1 rfl) (.k (.g 3 rfl) (.k (.g 5 rfl) (.k (.g 7 rfl) .n))))) (.k (mv .k (.g 8 rfl)) (.k (exx .k (.g 9 rfl) rfl) (.k (exx .k (.g 9 rfl) rfl) (.k (ala .k zT) (.k (sta .k (.g 12 rfl) (.g 10 rfl) tyT) (.k (asg .k (.g 11 rfl)) .n))))))))))))))) [0,1,2,3,4,5,6,7] [13,14] rfl rfl ?_)
   refine Tr.ds hmx [] (.k (mv .k (.b 9 rfl)) (.k (not_ .k (.g 0 rfl)) (.k (mv .k (.g 1 rfl)) (.k (skp (.o 2 rfl rfl rfl)) (.k (skp (.o 2 rfl rfl rfl)) (.k (skp (.o 2 rfl rfl rfl)) (.k (pickT .k (.g 2 rfl) .c) (.k (mv .k (.g 6 rfl)) (.k (skp (.o 7 rfl rfl rfl)) (.k (skp (.o 7 rfl rfl rfl)) (.k (skpu (.o 7 rfl rfl rfl)) (.k (skpn (.g 10 rfl) rfl) (.k (skpn (.g 10 rfl) rfl) (.k (skpn (.g 10 rfl) rfl) (.k (skpn (.g 10 rfl) rfl) (.k (skpn (.g 10 rfl) rfl) (.k (skpn (.g 10 rfl) rfl) (.k (skpn (.g 10 rfl) rfl) (.k (skpn (.g 10 rfl) rfl) (.k (skpn (.g 10 rfl) rfl) (.k (skp (.o 7 rfl rfl rfl)) (.k (pickT .k (.g 7 rfl) .c) .n)))))))))))))))))))))) [0,1,2,3,4,5,7] [21] rfl rfl ?_
   refine Tr.cond 7 rfl (fun _=>?_) nofun
   refine Tr.rs [] (.k (asg .k .c) .n) [5] [0] rfl rfl ?_
   refine Tr.ret (end_tmp 1 rfl rfl)
  ·
   rw [chk_tri (oP_ori P) p1 he (.inr hne)]
   refine Tr.rs [] (.k (mv .k (.b 4 rfl)) (.k (idx_ .k rwT (.b 2 rfl) (.b 4 rfl) rfl (gm p1)) (.k (ld_at .k (.g 1 rfl) tyT rfl (show _=trv (_,_,_) from rfl)) (.k (ala .k zT) (.k (asg .k (.g 0 rfl)) (.k (sta .k (.g 3 rfl) (.g 2 rfl) tyT) .n)))))) [0,1,2,3,4,5] [4,5] rfl rfl ?_
   refine Tr.seq (Tr.rs [] (.k (faddr .k (.b 0 rfl) rfl fMP) (.k (ldc .k (.g 0 rfl) (.b 0 rfl) tyvP) (.k (faddr .k (.b 7 rfl) rfl fTA) (.k (ldc .k (.g 2 rfl) (.b 7 rfl) tyI) (.k (faddr .k (.b 7 rfl) rfl fTB) (.k (ldc .k (.g 4 rfl) (.b 7 rfl) tyI) (.k (faddr .k (.b 7 rfl) rfl fTC) (.k (ldc .k (.g 6 rfl) (.b 7 rfl) tyI) (.k (cal .k Tryz.func54 rfl (fn_Tri' hP he) (.k (.g 1 rfl) (.k (.g 3 rfl) (.k (.g 5 rfl) (.k (.g 7 rfl) .n))))) (.k (mv .k (.g 8 rfl)) (.k (exx .k (.g 9 rfl) rfl) (.k (exx .k (.g 9 rfl) rfl) (.k (ala .k zT) (.k (sta .k (.g 12 rfl) (.g 10 rfl) tyT) (.k (asg .k (.g 11 rfl)) .n))))))))))))))) [0,1,2,3,4,5,6,7] [13,14] rfl rfl ?_)
   refine Tr.ds hmx [] (.k (mv .k (.b 9 rfl)) (.k (not_ .k (.g 0 rfl)) (.k (mv .k (.g 1 rfl)) (.k (ld (.o 2 rfl rfl rfl) (.b 8 rfl) tyT) (.k (ld (.o 2 rfl rfl rfl) (.b 7 rfl) tyT) (.k (neS_ (.o 2 rfl rfl rfl) tG (.g 3 rfl) (.g 4 rfl) (eqTr _ _) (tr_ne hne)) (.k (pickF .k (.g 2 rfl) (.g 5 rfl)) (.k (mv .k (.g 6 rfl)) (.k (skp (.o 7 rfl rfl rfl)) (.k (skp (.o 7 rfl rfl rfl)) (.k (skpu (.o 7 rfl rfl rfl)) (.k (skpn (.g 10 rfl) rfl) (.k (skpn (.g 10 rfl) rfl) (.k (skpn (.g 10 rfl) rfl) (.k (skpn (.g 10 rfl) rfl) (.k (skpn (.g 10 rfl) rfl) (.k (skpn (.g 10 rfl) rfl) (.k (skpn (.g 10 rfl) rfl) (.k (skpn (.g 10 rfl) rfl) (.k (skpn (.g 10 rfl) rfl) (.k (skp (.o 7 rfl rfl rfl)) (.k (pickT .k (.g 7 rfl) .c) .n)))))))))))))))))))))) [0,1,2,3,4,5,7] [21] rfl rfl ?_
   refine Tr.cond 7 rfl (fun _=>?_) nofun
   refine Tr.rs [] (.k (asg .k .c) .n) [5] [0] rfl rfl ?_
   refine Tr.ret (end_tmp 1 rfl rfl)
  ·
   have h63:3 * k+3 < maxLen:=by unfold maxLen;omega
   refine Tr.rs [] (.k (mv .k (.b 4 rfl)) (.k (idx_ .k rwT (.b 2 rfl) (.b 4 rfl) rfl (gm p1)) (.k (ld_at .k (.g 1 rfl) tyT rfl (show _=trv (_,_,_) from rfl)) (.k (ala .k zT) (.k (asg .k (.g 0 rfl)) (.k (sta .k (.g 3 rfl) (.g 2 rfl) tyT) .n)))))) [0,1,2,3,4,5] [4,5] rfl rfl ?_
   refine Tr.seq (Tr.rs [] (.k (faddr .k (.b 0 rfl) rfl fMP) (.k (ldc .k (.g 0 rfl) (.b 0 rfl) tyvP) (.k (faddr .k (.b 7 rfl) rfl fTA) (.k (ldc .k (.g 2 rfl) (.b 7 rfl) tyI) (.k (faddr .k (.b 7 rfl) rfl fTB) (.k (ldc .k (.g 4 rfl) (.b 7 rfl) tyI) (.k (faddr .k (.b 7 rfl) rfl fTC) (.k (ldc .k (.g 6 rfl) (.b 7 rfl) tyI) (.k (cal .k Tryz.func54 rfl (fn_Tri' hP he) (.k (.g 1 rfl) (.k (.g 3 rfl) (.k (.g 5 rfl) (.k (.g 7 rfl) .n))))) (.k (mv .k (.g 8 rfl)) (.k (exx .k (.g 9 rfl) rfl) (.k (exx .k (.g 9 rfl) rfl) (.k (ala .k zT) (.k (sta .k (.g 12 rfl) (.g 10 rfl) tyT) (.k (asg .k (.g 11 rfl)) .n))))))))))))))) [0,1,2,3,4,5,6,7] [13,14] rfl rfl ?_)
   refine Tr.share0 (p:=∀ j s,k=j+1→T[j]?=some s→ltT s t) [.b 1 (SP.mesh P T S) 26 3,.s 3 (.is (.map (some g1))),.s 16 (tvec T),.s 17 (iv ((T.length:Nat):Int)),.s 18 (iv ((k:Nat):Int)),.b 5 (.is (trv t)) 55 3,.h 1 g1 (HP.pset Tryz.prog 28 4 (3 * k) L)] (fun hr=>?_) (fun H_=>?_)
   ·
    refine Tr.rs [] (.k (ld .k (.b 5 rfl) tyT) (.k (cal .k Tryz.func56 rfl fn_edges (.k (.g 0 rfl) .n)) (.k (mv .k .c) .n))) [0,1,2,3,4,6] [1,2] rfl rfl ?_
    refine Tr.block (?_)
    refine Tr.loop (fun n_ F_=>∃ m:Nat,∃ M:List (Int × Int),(ChkQ T k t m M)∧n_=3 - m∧F_=[.b 1 (SP.mesh P T S) 26 3,.s 3 (.is (.map (some g1))),.s 16 (tvec T),.s 17 (iv ((T.length:Nat):Int)),.s 18 (iv ((k:Nat):Int)),.s 58 (.is (edv t)),.s 59 (iv ((m:Nat):Int)),.h 1 g1 (HP.pset Tryz.prog 28 4 (3 * k+m) M)]) (3 - 0) (F0:=[.b 1 (SP.mesh P T S) 26 3,.s 3 (.is (.map (some g1))),.s 16 (tvec T),.s 17 (iv ((T.length:Nat):Int)),.s 18 (iv ((k:Nat):Int)),.s 58 (.is (edv t)),.s 59 (iv ((0:Nat):Int)),.h 1 g1 (HP.pset Tryz.prog 28 4 (3 * k+0) L)]) ⟨0,L,ChkQ.zero hinv,rfl,rfl⟩ (Sub.all (.cons 0 rfl (.cons 1 rfl (.cons 2 rfl (.cons 3 rfl (.cons 4 rfl (.cons 6 rfl (.cons 7 rfl (.cons 5 rfl .nil))))))))) (fun n_ F_ hI=>?_)
    obtain ⟨m,M,hmv,rfl,rfl⟩:=hI
    refine Tr.rs [] (.k (lt_ .k (.b 6 rfl) .c rfl) .n) [0,1,2,3,4,5,6,7] [0] rfl rfl ?_
    refine Tr.seq (Tr.cond 8 rfl (fun e60=>?_) (fun e60=>?_))
    ·
     have hm2:m < 3:=by have:=of_decide_eq_true e60;omega
     refine Tr.skip (Nx.go (Tr.seq (Tr.block (?_))))
     obtain ⟨e,p2⟩:∃ e,(edg t)[m]?=some e:=⟨_,List.getElem?_eq_getElem (show m < (edg t).length from hm2)⟩;have hw:=edg_wf (chk_good (oP_ori P) he) (List.mem_of_getElem? p2);cases hd:decide ((e.1,e.2)∈M)
     ·
      have hno:e ∉ M:=of_decide_eq_false hd
      refine Tr.rs [] (.k (ixv .k (.b 5 rfl) (.b 6 rfl) (ixE p2)) (.k (ala .k zS) (.k (sta .k (.g 1 rfl) (.g 0 rfl) tyS) .n))) [0,1,2,3,4,5,6,7] [2] rfl rfl ?_
      refine Tr.seq (Tr.rs [] (.k (mv .k (.b 1 rfl)) (.k (ld .k (.b 8 rfl) tyS) (.k (lkp .k Tryz.underlying84 keyS Tryz.underlying4 zBool (.g 0 rfl) (.b 7 rfl) (.g 1 rfl) (wfI (by omega) (by omega)) (wfI (by omega) (by omega)) hd) .n))) [0,1,2,3,4,5,6,7,8] [2] rfl rfl ?_)
      refine Tr.cond 9 rfl nofun (fun _=>?_)
      refine Tr.skip (Nx.go (Tr.reg [(7,2)] (.k (mv .k (.b 1 rfl)) (.k (ld .k (.b 8 rfl) tyS) (.k (mupd .k Tryz.underlying84 keyS Tryz.underlying4 (.g 0 rfl) (.b 7 rfl) (.g 1 rfl) .c (wfI (by omega) (by omega)) (wfI (by omega) (by omega)) (by omega) rfl) .n))) [0,1,2,3,4,5,6] [2] rfl rfl (Nx.bkN (Nx.go (Tr.reg [(6,1)] (.k (add_ .k (.b 6 rfl) .c (wr1 (by omega))) (.k (mv .k (.g 0 rfl)) .n)) [0,1,2,3,4,5,7] [1] rfl rfl (Nx.again (3 - (m+1)) (by omega) [.b 1 (SP.mesh P T S) 26 3,.s 3 (.is (.map (some g1))),.s 16 (tvec T),.s 17 (iv ((T.length:Nat):Int)),.s 18 (iv ((k:Nat):Int)),.s 58 (.is (edv t)),.s 59 (iv (((m+1):Nat):Int)),.h 1 g1 (HP.pset Tryz.prog 28 4 (3 * k+(m+1)) (e :: M))] ⟨(m+1),(e :: M),hmv.succ p2 hno,rfl,rfl⟩ (Sub.all (.cons 0 rfl (.cons 1 rfl (.cons 2 rfl (.cons 3 rfl (.cons 4 rfl (.cons 5 rfl (.cons 7 rfl (.cons 6 rfl .nil)))))))))))))))
     ·
      rw [chk_twice p1 p2 hmv (of_decide_eq_true hd)]
      refine Tr.rs [] (.k (ixv .k (.b 5 rfl) (.b 6 rfl) (ixE p2)) (.k (ala .k zS) (.k (sta .k (.g 1 rfl) (.g 0 rfl) tyS) .n))) [0,1,2,3,4,5,6,7] [2] rfl rfl ?_
      refine Tr.seq (Tr.rs [] (.k (mv .k (.b 1 rfl)) (.k (ld .k (.b 8 rfl) tyS) (.k (lkp .k Tryz.underlying84 keyS Tryz.underlying4 zBool (.g 0 rfl) (.b 7 rfl) (.g 1 rfl) (wfI (by omega) (by omega)) (wfI (by omega) (by omega)) hd) .n))) [0,1,2,3,4,5,6,7,8] [2] rfl rfl ?_)
      refine Tr.cond 9 rfl (fun _=>?_) nofun
      refine Tr.rs [] (.k (asg .k .c) .n) [7] [0] rfl rfl ?_
      refine Tr.ret (end_tmp 1 rfl rfl)
    ·
     obtain rfl:m=3:=by have:=of_decide_eq_false e60;have:=hmv.le;omega
     refine Tr.exit (Nx.thX (Nx.thX (Nx.bkX (Nx.bkN (Nx.go (Tr.reg [(4,1)] (.k (add_ .k (.b 4 rfl) .c (wr1 (by omega))) (.k (mv .k (.g 0 rfl)) .n)) [0,1,2,3,7] [1] rfl rfl (Nx.again (T.length - (k+1)) (by omega) [.b 1 (SP.mesh P T S) 26 3,.s 3 (.is (.map (some g1))),.s 16 (tvec T),.s 17 (iv ((T.length:Nat):Int)),.s 18 (iv (((k+1):Nat):Int)),.h 1 g1 (HP.pset Tryz.prog 28 4 (3 * (k+1)) M)] ⟨(k+1),M,hinv.succ p1 (chk_good (oP_ori P) he) hr hmv,rfl,rfl⟩ (Sub.all (.cons 0 rfl (.cons 1 rfl (.cons 2 rfl (.cons 3 rfl (.cons 5 rfl (.cons 4 rfl .nil))))))))))))))
   ·
    rcases prev_ways ltT p1 with hk0|⟨j,s,hj,q1,hno⟩|⟨j,s,hj,q1,hlt1⟩
    ·
     have hr:=prev_zero (R:=ltT) (l:=T) (t:=t) hk0
     refine Tr.ds hmx [] (.k (mv .k (.b 9 rfl)) (.k (not_ .k (.g 0 rfl)) (.k (mv .k (.g 1 rfl)) (.k (ld (.o 2 rfl rfl rfl) (.b 8 rfl) tyT) (.k (ld (.o 2 rfl rfl rfl) (.b 7 rfl) tyT) (.k (neS_ (.o 2 rfl rfl rfl) tG (.g 3 rfl) (.g 4 rfl) (eqTr _ _) (tr_eq _)) (.k (pickF .k (.g 2 rfl) (.g 5 rfl)) (.k (mv .k (.g 6 rfl)) (.k (mv (.o 7 rfl rfl rfl) (.b 6 rfl)) (.k (gt_ (.o 7 rfl rfl rfl) (.g 8 rfl) .c (dF (by omega))) (.k (mv (.o 7 rfl rfl rfl) (.g 9 rfl)) (.k (skp (.o 10 rfl rfl rfl)) (.k (skp (.o 10 rfl rfl rfl)) (.k (skp (.o 10 rfl rfl rfl)) (.k (skp (.o 10 rfl rfl rfl)) (.k (skp (.o 10 rfl rfl rfl)) (.k (skp (.o 10 rfl rfl rfl)) (.k (skp (.o 10 rfl rfl rfl)) (.k (skp (.o 10 rfl rfl rfl)) (.k (skp (.o 10 rfl rfl rfl)) (.k (pickF (.o 7 rfl rfl rfl) (.g 10 rfl) .c) (.k (pickF .k (.g 7 rfl) (.g 20 rfl)) .n)))))))))))))))))))))) [0,1,2,3,4,5,7] [21] rfl rfl ?_
     refine Tr.cond 7 rfl nofun (fun _=>?_)
     refine Tr.skip (Nx.go (Tr.sub (Sub.all (.cons 0 rfl (.cons 1 rfl (.cons 2 rfl (.cons 3 rfl (.cons 4 rfl (.cons 6 rfl (.cons 5 rfl .nil)))))))) (H_ hr)))
    ·
     rw [chk_ris q1 (hj ▸ p1) hno]
     refine Tr.ds hmx [] (.k (mv .k (.b 9 rfl)) (.k (not_ .k (.g 0 rfl)) (.k (mv .k (.g 1 rfl)) (.k (ld (.o 2 rfl rfl rfl) (.b 8 rfl) tyT) (.k (ld (.o 2 rfl rfl rfl) (.b 7 rfl) tyT) (.k (neS_ (.o 2 rfl rfl rfl) tG (.g 3 rfl) (.g 4 rfl) (eqTr _ _) (tr_eq _)) (.k (pickF .k (.g 2 rfl) (.g 5 rfl)) (.k (mv .k (.g 6 rfl)) (.k (mv (.o 7 rfl rfl rfl) (.b 6 rfl)) (.k (gt_ (.o 7 rfl rfl rfl) (.g 8 rfl) .c (dT (by omega))) (.k (mv (.o 7 rfl rfl rfl) (.g 9 rfl)) (.k (faddr (.o 10 rfl rfl rfl) (.b 0 rfl) rfl fMT) (.k (ldc (.o 10 rfl rfl rfl) (.g 11 rfl) (.b 0 rfl) tyvT) (.k (mv (.o 10 rfl rfl rfl) (.b 6 rfl)) (.k (sub_ (.o 10 rfl rfl rfl) (.g 13 rfl) .c (show IntKind.i64.wrap ((k:Int) - 1)=((j:Nat):Int) by rw [IntWalk.i64_in _ (by omega)];omega)) (.k (idx_ (.o 10 rfl rfl rfl) rwT (.g 12 rfl) (.g 14 rfl) rfl (gm q1)) (.k (ld_at (.o 10 rfl rfl rfl) (.g 15 rfl) tyT rfl (show _=trv (_,_,_) from rfl)) (.k (ld (.o 10 rfl rfl rfl) (.b 7 rfl) tyT) (.k (cal (.o 10 rfl rfl rfl) Tryz.func55 rfl fn_byTri (.k (.g 16 rfl) (.k (.g 17 rfl) .n))) (.k (ge_ (.o 10 rfl rfl rfl) (.g 18 rfl) .c (decide_eq_true ((byTri_lt _ _).2 hno))) (.k (pickT (.o 7 rfl rfl rfl) (.g 10 rfl) (.g 19 rfl)) (.k (pickF .k (.g 7 rfl) (.g 20 rfl)) .n)))))))))))))))))))))) [0,1,2,3,4,5,7] [21] rfl rfl ?_
     refine Tr.cond 7 rfl (fun _=>?_) nofun
     refine Tr.rs [] (.k (asg .k .c) .n) [5] [0] rfl rfl ?_
     refine Tr.ret (end_tmp 1 rfl rfl)
    ·
     have hr:=prev_one (R:=ltT) hj q1 hlt1
     refine Tr.ds hmx [] (.k (mv .k (.b 9 rfl)) (.k (not_ .k (.g 0 rfl)) (.k (mv .k (.g 1 rfl)) (.k (ld (.o 2 rfl rfl rfl) (.b 8 rfl) tyT) (.k (ld (.o 2 rfl rfl rfl) (.b 7 rfl) tyT) (.k (neS_ (.o 2 rfl rfl rfl) tG (.g 3 rfl) (.g 4 rfl) (eqTr _ _) (tr_eq _)) (.k (pickF .k (.g 2 rfl) (.g 5 rfl)) (.k (mv .k (.g 6 rfl)) (.k (mv (.o 7 rfl rfl rfl) (.b 6 rfl)) (.k (gt_ (.o 7 rfl rfl rfl) (.g 8 rfl) .c (dT (by omega))) (.k (mv (.o 7 rfl rfl rfl) (.g 9 rfl)) (.k (faddr (.o 10 rfl rfl rfl) (.b 0 rfl) rfl fMT) (.k (ldc (.o 10 rfl rfl rfl) (.g 11 rfl) (.b 0 rfl) tyvT) (.k (mv (.o 10 rfl rfl rfl) (.b 6 rfl)) (.k (sub_ (.o 10 rfl rfl rfl) (.g 13 rfl) .c (show IntKind.i64.wrap ((k:Int) - 1)=((j:Nat):Int) by rw [IntWalk.i64_in _ (by omega)];omega)) (.k (idx_ (.o 10 rfl rfl rfl) rwT (.g 12 rfl) (.g 14 rfl) rfl (gm q1)) (.k (ld_at (.o 10 rfl rfl rfl) (.g 15 rfl) tyT rfl (show _=trv (_,_,_) from rfl)) (.k (ld (.o 10 rfl rfl rfl) (.b 7 rfl) tyT) (.k (cal (.o 10 rfl rfl rfl) Tryz.func55 rfl fn_byTri (.k (.g 16 rfl) (.k (.g 17 rfl) .n))) (.k (ge_ (.o 10 rfl rfl rfl) (.g 18 rfl) .c (decide_eq_false (fun x=>(byTri_lt _ _).1 x hlt1))) (.k (pickT (.o 7 rfl rfl rfl) (.g 10 rfl) (.g 19 rfl)) (.k (pickF .k (.g 7 rfl) (.g 20 rfl)) .n)))))))))))))))))))))) [0,1,2,3,4,5,7] [21] rfl rfl ?_
     refine Tr.cond 7 rfl nofun (fun _=>?_)
     refine Tr.skip (Nx.go (Tr.sub (Sub.all (.cons 0 rfl (.cons 1 rfl (.cons 2 rfl (.cons 3 rfl (.cons 4 rfl (.cons 6 rfl (.cons 5 rfl .nil)))))))) (H_ hr)))
 ·
  obtain rfl:k=T.length:=by have:=of_decide_eq_false e19;have:=hinv.le;omega
  refine Tr.exit (Nx.thX (Nx.thX (Nx.bkX (Nx.go (Tr.gos (Go.mkmap 2 .k Tryz.underlying84 [0,1,5] rfl rfl fun g2=>(Go.k (asg .k (.b 0 rfl)) [1,2,3,4] rfl rfl (Go.end_ (Nx.go (?_))))))))))
  refine Tr.seq (Tr.rs [] (.k (faddr .k (.b 2 rfl) rfl fMS) (.k (ldc .k (.g 0 rfl) (.b 2 rfl) tyvS) (.k (len_ .k rwS (.g 1 rfl) (by rw [List.length_map])) (.k (mv .k .c) .n)))) [0,1,2,3,4] [1,2,3] rfl rfl ?_)
  refine Tr.block (?_)
  refine Tr.loop (fun n_ F_=>∃ i:Nat,∃ M:List (Int × Int),(ChkS T S i M)∧n_=S.length - i∧F_=[.b 1 (SP.mesh P T S) 26 3,.s 3 (.is (.map (some g1))),.s 10 (.is (.map (some g2))),.s 71 (svec S),.s 72 (iv ((S.length:Nat):Int)),.s 73 (iv ((i:Nat):Int)),.h 1 g1 (HP.pset Tryz.prog 28 4 (3 * T.length) L),.h 2 g2 (HP.pset Tryz.prog 28 4 (i) M)]) (S.length - 0) (F0:=[.b 1 (SP.mesh P T S) 26 3,.s 3 (.is (.map (some g1))),.s 10 (.is (.map (some g2))),.s 71 (svec S),.s 72 (iv ((S.length:Nat):Int)),.s 73 (iv ((0:Nat):Int)),.h 1 g1 (HP.pset Tryz.prog 28 4 (3 * T.length) L),.h 2 g2 (HP.pset Tryz.prog 28 4 (0) [])]) ⟨0,[],ChkS.zero,rfl,rfl⟩ (Sub.all (.cons 2 rfl (.cons 3 rfl (.cons 0 rfl (.cons 5 rfl (.cons 6 rfl (.cons 7 rfl (.cons 4 rfl (.cons 1 rfl .nil))))))))) (fun n_ F_ hI=>?_)
  obtain ⟨i,M,hB,rfl,rfl⟩:=hI
  refine Tr.rs [] (.k (lt_ .k (.b 5 rfl) (.b 4 rfl) rfl) .n) [0,1,2,3,4,5,6,7] [0] rfl rfl ?_
  refine Tr.seq (Tr.cond 8 rfl (fun e74=>?_) (fun e74=>?_))
  ·
   have hi2:i < S.length:=by have:=of_decide_eq_true e74;omega
   refine Tr.skip (Nx.go (Tr.seq (Tr.block (?_))))
   obtain ⟨s,p3⟩:∃ s,S[i]?=some s:=⟨_,List.getElem?_eq_getElem hi2⟩
   have h63:i < maxLen:=by unfold maxLen;omega
   refine Tr.rs [] (.k (mv .k (.b 5 rfl)) (.k (idx_ .k rwS (.b 3 rfl) (.b 5 rfl) rfl (gm p3)) (.k (ld_at .k (.g 1 rfl) tyS rfl (show _=sgv (_,_) from rfl)) (.k (ala .k zS) (.k (asg .k (.g 0 rfl)) (.k (sta .k (.g 3 rfl) (.g 2 rfl) tyS) .n)))))) [0,1,2,3,4,5,6,7] [4,5] rfl rfl ?_
   have hws:=hw _ (List.mem_of_getElem? p3);rcases seg_all_ways hinv p3 with hge|⟨hlt,hi0,hh⟩|⟨hlt,hi0,hh⟩|⟨hlt,hi0,hh⟩|⟨hlt,j,u,hj,q1,hno⟩|⟨hlt,j,u,hj,q1,hls,hh⟩|⟨hlt,j,u,hj,q1,hls,hh⟩|⟨hlt,j,u,hj,q1,hls,hh⟩
   ·
    rw [chk_sege hinv p3 (.inl hge)]
    refine Tr.seq (Tr.ds hmx [] (.k (faddr .k (.b 9 rfl) rfl fSA) (.k (ldc .k (.g 0 rfl) (.b 9 rfl) tyI) (.k (faddr .k (.b 9 rfl) rfl fSB) (.k (ldc .k (.g 2 rfl) (.b 9 rfl) tyI) (.k (ge_ .k (.g 1 rfl) (.g 3 rfl) (dT (by omega))) (.k (mv .k (.g 4 rfl)) (.k (skp (.o 5 rfl rfl rfl)) (.k (skp (.o 5 rfl rfl rfl)) (.k (skpu (.o 5 rfl rfl rfl)) (.k (skpn (.g 8 rfl) rfl) (.k (skpn (.g 8 rfl) rfl) (.k (skpn (.g 8 rfl) rfl) (.k (skpn (.g 8 rfl) rfl) (.k (skpn (.g 8 rfl) rfl) (.k (skpn (.g 8 rfl) rfl) (.k (skpn (.g 8 rfl) rfl) (.k (skpn (.g 8 rfl) rfl) (.k (skpn (.g 8 rfl) rfl) (.k (skp (.o 5 rfl rfl rfl)) (.k (pickT .k (.g 5 rfl) .c) (.k (mv .k (.g 19 rfl)) (.k (skp (.o 20 rfl rfl rfl)) (.k (skp (.o 20 rfl rfl rfl)) (.k (skp (.o 20 rfl rfl rfl)) (.k (skp (.o 20 rfl rfl rfl)) (.k (skpu (.o 20 rfl rfl rfl)) (.k (skpn (.g 25 rfl) rfl) (.k (skpn (.g 25 rfl) rfl) (.k (skpn (.g 25 rfl) rfl) (.k (skpn (.g 25 rfl) rfl) (.k (skpn (.g 25 rfl) rfl) (.k (skpn (.g 25 rfl) rfl) (.k (skpn (.g 25 rfl) rfl) (.k (skpn (.g 25 rfl) rfl) (.k (skp (.o 20 rfl rfl rfl)) (.k (pickT .k (.g 20 rfl) .c) .n)))))))))))))))))))))))))))))))))))) [0,1,2,3,4,5,6,7,9] [35] rfl rfl ?_)
    refine Tr.cond 9 rfl (fun _=>?_) nofun
    refine Tr.rs [(7,0)] (.k (asg .k .c) .n) [6] [0] rfl rfl ?_
    refine Tr.ret (end_tmp 1 rfl rfl)
   ·
    have hr:=prev_zero (R:=ltS) (l:=S) (t:=s) hi0
    obtain ⟨d1,hin⟩:=hh
    refine Tr.seq (Tr.ds hmx [] (.k (faddr .k (.b 9 rfl) rfl fSA) (.k (ldc .k (.g 0 rfl) (.b 9 rfl) tyI) (.k (faddr .k (.b 9 rfl) rfl fSB) (.k (ldc .k (.g 2 rfl) (.b 9 rfl) tyI) (.k (ge_ .k (.g 1 rfl) (.g 3 rfl) (dF (by omega))) (.k (mv .k (.g 4 rfl)) (.k (mv (.o 5 rfl rfl rfl) (.b 8 rfl)) (.k (gt_ (.o 5 rfl rfl rfl) (.g 6 rfl) .c (dF (by omega))) (.k (mv (.o 5 rfl rfl rfl) (.g 7 rfl)) (.k (skp (.o 8 rfl rfl rfl)) (.k (skp (.o 8 rfl rfl rfl)) (.k (skp (.o 8 rfl rfl rfl)) (.k (skp (.o 8 rfl rfl rfl)) (.k (skp (.o 8 rfl rfl rfl)) (.k (skp (.o 8 rfl rfl rfl)) (.k (skp (.o 8 rfl rfl rfl)) (.k (skp (.o 8 rfl rfl rfl)) (.k (skp (.o 8 rfl rfl rfl)) (.k (pickF (.o 5 rfl rfl rfl) (.g 8 rfl) .c) (.k (pickF .k (.g 5 rfl) (.g 18 rfl)) (.k (mv .k (.g 19 rfl)) (.k (mv (.o 20 rfl rfl rfl) (.b 1 rfl)) (.k (ld (.o 20 rfl rfl rfl) (.b 9 rfl) tyS) (.k (lkp (.o 20 rfl rfl rfl) Tryz.underlying84 keyS Tryz.underlying4 zBool (.g 21 rfl) (.b 6 rfl) (.g 22 rfl) hws.1 hws.2 d1) (.k (not_ (.o 20 rfl rfl rfl) (.g 23 rfl)) (.k (mv (.o 20 rfl rfl rfl) (.g 24 rfl)) (.k (skp (.o 25 rfl rfl rfl)) (.k (skp (.o 25 rfl rfl rfl)) (.k (skp (.o 25 rfl rfl rfl)) (.k (skp (.o 25 rfl rfl rfl)) (.k (skp (.o 25 rfl rfl rfl)) (.k (skp (.o 25 rfl rfl rfl)) (.k (skp (.o 25 rfl rfl rfl)) (.k (skp (.o 25 rfl rfl rfl)) (.k (pickF (.o 20 rfl rfl rfl) (.g 25 rfl) .c) (.k (pickF .k (.g 20 rfl) (.g 34 rfl)) .n)))))))))))))))))))))))))))))))))))) [0,1,2,3,4,5,6,7,9] [35] rfl rfl ?_)
    refine Tr.cond 9 rfl nofun (fun _=>?_)
    refine Tr.skip (Nx.go (Tr.reg [(7,2)] (.k (mv .k (.b 2 rfl)) (.k (ld .k (.b 8 rfl) tyS) (.k (mupd .k Tryz.underlying84 keyS Tryz.underlying4 (.g 0 rfl) (.b 7 rfl) (.g 1 rfl) .c hws.1 hws.2 h63 rfl) .n))) [0,1,2,3,4,5,6] [2] rfl rfl (Nx.bkN (Nx.go (Tr.reg [(5,1)] (.k (add_ .k (.b 5 rfl) .c (wr1 (by omega))) (.k (mv .k (.g 0 rfl)) .n)) [0,1,2,3,4,6,7] [1] rfl rfl (Nx.again (S.length - (i+1)) (by omega) [.b 1 (SP.mesh P T S) 26 3,.s 3 (.is (.map (some g1))),.s 10 (.is (.map (some g2))),.s 71 (svec S),.s 72 (iv ((S.length:Nat):Int)),.s 73 (iv (((i+1):Nat):Int)),.h 1 g1 (HP.pset Tryz.prog 28 4 (3 * T.length) L),.h 2 g2 (HP.pset Tryz.prog 28 4 ((i+1)) (s :: M))] ⟨(i+1),(s :: M),hB.succ p3 hlt hin hr,rfl,rfl⟩ (Sub.all (.cons 0 rfl (.cons 1 rfl (.cons 2 rfl (.cons 3 rfl (.cons 4 rfl (.cons 7 rfl (.cons 5 rfl (.cons 6 rfl .nil)))))))))))))))
   ·
    have hr:=prev_zero (R:=ltS) (l:=S) (t:=s) hi0
    obtain ⟨d1,d2,hin⟩:=hh
    refine Tr.seq (Tr.ds hmx [] (.k (faddr .k (.b 9 rfl) rfl fSA) (.k (ldc .k (.g 0 rfl) (.b 9 rfl) tyI) (.k (faddr .k (.b 9 rfl) rfl fSB) (.k (ldc .k (.g 2 rfl) (.b 9 rfl) tyI) (.k (ge_ .k (.g 1 rfl) (.g 3 rfl) (dF (by omega))) (.k (mv .k (.g 4 rfl)) (.k (mv (.o 5 rfl rfl rfl) (.b 8 rfl)) (.k (gt_ (.o 5 rfl rfl rfl) (.g 6 rfl) .c (dF (by omega))) (.k (mv (.o 5 rfl rfl rfl) (.g 7 rfl)) (.k (skp (.o 8 rfl rfl rfl)) (.k (skp (.o 8 rfl rfl rfl)) (.k (skp (.o 8 rfl rfl rfl)) (.k (skp (.o 8 rfl rfl rfl)) (.k (skp (.o 8 rfl rfl rfl)) (.k (skp (.o 8 rfl rfl rfl)) (.k (skp (.o 8 rfl rfl rfl)) (.k (skp (.o 8 rfl rfl rfl)) (.k (skp (.o 8 rfl rfl rfl)) (.k (pickF (.o 5 rfl rfl rfl) (.g 8 rfl) .c) (.k (pickF .k (.g 5 rfl) (.g 18 rfl)) (.k (mv .k (.g 19 rfl)) (.k (mv (.o 20 rfl rfl rfl) (.b 1 rfl)) (.k (ld (.o 20 rfl rfl rfl) (.b 9 rfl) tyS) (.k (lkp (.o 20 rfl rfl rfl) Tryz.underlying84 keyS Tryz.underlying4 zBool (.g 21 rfl) (.b 6 rfl) (.g 22 rfl) hws.1 hws.2 d1) (.k (not_ (.o 20 rfl rfl rfl) (.g 23 rfl)) (.k (mv (.o 20 rfl rfl rfl) (.g 24 rfl)) (.k (mv (.o 25 rfl rfl rfl) (.b 1 rfl)) (.k (faddr (.o 25 rfl rfl rfl) (.b 9 rfl) rfl fSB) (.k (ldc (.o 25 rfl rfl rfl) (.g 27 rfl) (.b 9 rfl) tyI) (.k (faddr (.o 25 rfl rfl rfl) (.b 9 rfl) rfl fSA) (.k (ldc (.o 25 rfl rfl rfl) (.g 29 rfl) (.b 9 rfl) tyI) (.k (bld (.o 25 rfl rfl rfl) (.k (.g 28 rfl) (.k (.g 30 rfl) .n)) (bS _ _) (aS _ _)) (.k (lkp (.o 25 rfl rfl rfl) Tryz.underlying84 keyS Tryz.underlying4 zBool (.g 26 rfl) (.b 6 rfl) (.g 31 rfl) hws.2 hws.1 d2) (.k (not_ (.o 25 rfl rfl rfl) (.g 32 rfl)) (.k (pickT (.o 20 rfl rfl rfl) (.g 25 rfl) (.g 33 rfl)) (.k (pickF .k (.g 20 rfl) (.g 34 rfl)) .n)))))))))))))))))))))))))))))))))))) [0,1,2,3,4,5,6,7,9] [35] rfl rfl ?_)
    refine Tr.cond 9 rfl nofun (fun _=>?_)
    refine Tr.skip (Nx.go (Tr.reg [(7,2)] (.k (mv .k (.b 2 rfl)) (.k (ld .k (.b 8 rfl) tyS) (.k (mupd .k Tryz.underlying84 keyS Tryz.underlying4 (.g 0 rfl) (.b 7 rfl) (.g 1 rfl) .c hws.1 hws.2 h63 rfl) .n))) [0,1,2,3,4,5,6] [2] rfl rfl (Nx.bkN (Nx.go (Tr.reg [(5,1)] (.k (add_ .k (.b 5 rfl) .c (wr1 (by omega))) (.k (mv .k (.g 0 rfl)) .n)) [0,1,2,3,4,6,7] [1] rfl rfl (Nx.again (S.length - (i+1)) (by omega) [.b 1 (SP.mesh P T S) 26 3,.s 3 (.is (.map (some g1))),.s 10 (.is (.map (some g2))),.s 71 (svec S),.s 72 (iv ((S.length:Nat):Int)),.s 73 (iv (((i+1):Nat):Int)),.h 1 g1 (HP.pset Tryz.prog 28 4 (3 * T.length) L),.h 2 g2 (HP.pset Tryz.prog 28 4 ((i+1)) (s :: M))] ⟨(i+1),(s :: M),hB.succ p3 hlt hin hr,rfl,rfl⟩ (Sub.all (.cons 0 rfl (.cons 1 rfl (.cons 2 rfl (.cons 3 rfl (.cons 4 rfl (.cons 7 rfl (.cons 5 rfl (.cons 6 rfl .nil)))))))))))))))
   ·
    have hr:=prev_zero (R:=ltS) (l:=S) (t:=s) hi0
    obtain ⟨d1,d2,hno⟩:=hh
    rw [chk_sege hinv p3 (.inr hno)]
    refine Tr.seq (Tr.ds hmx [] (.k (faddr .k (.b 9 rfl) rfl fSA) (.k (ldc .k (.g 0 rfl) (.b 9 rfl) tyI) (.k (faddr .k (.b 9 rfl) rfl fSB) (.k (ldc .k (.g 2 rfl) (.b 9 rfl) tyI) (.k (ge_ .k (.g 1 rfl) (.g 3 rfl) (dF (by omega))) (.k (mv .k (.g 4 rfl)) (.k (mv (.o 5 rfl rfl rfl) (.b 8 rfl)) (.k (gt_ (.o 5 rfl rfl rfl) (.g 6 rfl) .c (dF (by omega))) (.k (mv (.o 5 rfl rfl rfl) (.g 7 rfl)) (.k (skp (.o 8 rfl rfl rfl)) (.k (skp (.o 8 rfl rfl rfl)) (.k (skp (.o 8 rfl rfl rfl)) (.k (skp (.o 8 rfl rfl rfl)) (.k (skp (.o 8 rfl rfl rfl)) (.k (skp (.o 8 rfl rfl rfl)) (.k (skp (.o 8 rfl rfl rfl)) (.k (skp (.o 8 rfl rfl rfl)) (.k (skp (.o 8 rfl rfl rfl)) (.k (pickF (.o 5 rfl rfl rfl) (.g 8 rfl) .c) (.k (pickF .k (.g 5 rfl) (.g 18 rfl)) (.k (mv .k (.g 19 rfl)) (.k (mv (.o 20 rfl rfl rfl) (.b 1 rfl)) (.k (ld (.o 20 rfl rfl rfl) (.b 9 rfl) tyS) (.k (lkp (.o 20 rfl rfl rfl) Tryz.underlying84 keyS Tryz.underlying4 zBool (.g 21 rfl) (.b 6 rfl) (.g 22 rfl) hws.1 hws.2 d1) (.k (not_ (.o 20 rfl rfl rfl) (.g 23 rfl)) (.k (mv (.o 20 rfl rfl rfl) (.g 24 rfl)) (.k (mv (.o 25 rfl rfl rfl) (.b 1 rfl)) (.k (faddr (.o 25 rfl rfl rfl) (.b 9 rfl) rfl fSB) (.k (ldc (.o 25 rfl rfl rfl) (.g 27 rfl) (.b 9 rfl) tyI) (.k (faddr (.o 25 rfl rfl rfl) (.b 9 rfl) rfl fSA) (.k (ldc (.o 25 rfl rfl rfl) (.g 29 rfl) (.b 9 rfl) tyI) (.k (bld (.o 25 rfl rfl rfl) (.k (.g 28 rfl) (.k (.g 30 rfl) .n)) (bS _ _) (aS _ _)) (.k (lkp (.o 25 rfl rfl rfl) Tryz.underlying84 keyS Tryz.underlying4 zBool (.g 26 rfl) (.b 6 rfl) (.g 31 rfl) hws.2 hws.1 d2) (.k (not_ (.o 25 rfl rfl rfl) (.g 32 rfl)) (.k (pickT (.o 20 rfl rfl rfl) (.g 25 rfl) (.g 33 rfl)) (.k (pickF .k (.g 20 rfl) (.g 34 rfl)) .n)))))))))))))))))))))))))))))))))))) [0,1,2,3,4,5,6,7,9] [35] rfl rfl ?_)
    refine Tr.cond 9 rfl (fun _=>?_) nofun
    refine Tr.rs [(7,0)] (.k (asg .k .c) .n) [6] [0] rfl rfl ?_
    refine Tr.ret (end_tmp 1 rfl rfl)
   ·
    rw [chk_segs q1 (hj ▸ p3) hno]
    refine Tr.seq (Tr.ds hmx [] (.k (faddr .k (.b 9 rfl) rfl fSA) (.k (ldc .k (.g 0 rfl) (.b 9 rfl) tyI) (.k (faddr .k (.b 9 rfl) rfl fSB) (.k (ldc .k (.g 2 rfl) (.b 9 rfl) tyI) (.k (ge_ .k (.g 1 rfl) (.g 3 rfl) (dF (by omega))) (.k (mv .k (.g 4 rfl)) (.k (mv (.o 5 rfl rfl rfl) (.b 8 rfl)) (.k (gt_ (.o 5 rfl rfl rfl) (.g 6 rfl) .c (dT (by omega))) (.k (mv (.o 5 rfl rfl rfl) (.g 7 rfl)) (.k (faddr (.o 8 rfl rfl rfl) (.b 0 rfl) rfl fMS) (.k (ldc (.o 8 rfl rfl rfl) (.g 9 rfl) (.b 0 rfl) tyvS) (.k (mv (.o 8 rfl rfl rfl) (.b 8 rfl)) (.k (sub_ (.o 8 rfl rfl rfl) (.g 11 rfl) .c (show IntKind.i64.wrap ((i:Int) - 1)=((j:Nat):Int) by rw [IntWalk.i64_in _ (by omega)];omega)) (.k (idx_ (.o 8 rfl rfl rfl) rwS (.g 10 rfl) (.g 12 rfl) rfl (gm q1)) (.k (ld_at (.o 8 rfl rfl rfl) (.g 13 rfl) tyS rfl (show _=sgv (_,_) from rfl)) (.k (ld (.o 8 rfl rfl rfl) (.b 9 rfl) tyS) (.k (cal (.o 8 rfl rfl rfl) Tryz.func57 rfl fn_bySeg (.k (.g 14 rfl) (.k (.g 15 rfl) .n))) (.k (ge_ (.o 8 rfl rfl rfl) (.g 16 rfl) .c (decide_eq_true ((bySeg_lt _ _).2 hno))) (.k (pickT (.o 5 rfl rfl rfl) (.g 8 rfl) (.g 17 rfl)) (.k (pickF .k (.g 5 rfl) (.g 18 rfl)) (.k (mv .k (.g 19 rfl)) (.k (skp (.o 20 rfl rfl rfl)) (.k (skp (.o 20 rfl rfl rfl)) (.k (skp (.o 20 rfl rfl rfl)) (.k (skp (.o 20 rfl rfl rfl)) (.k (skpu (.o 20 rfl rfl rfl)) (.k (skpn (.g 25 rfl) rfl) (.k (skpn (.g 25 rfl) rfl) (.k (skpn (.g 25 rfl) rfl) (.k (skpn (.g 25 rfl) rfl) (.k (skpn (.g 25 rfl) rfl) (.k (skpn (.g 25 rfl) rfl) (.k (skpn (.g 25 rfl) rfl) (.k (skpn (.g 25 rfl) rfl) (.k (skp (.o 20 rfl rfl rfl)) (.k (pickT .k (.g 20 rfl) .c) .n)))))))))))))))))))))))))))))))))))) [0,1,2,3,4,5,6,7,9] [35] rfl rfl ?_)
    refine Tr.cond 9 rfl (fun _=>?_) nofun
    refine Tr.rs [(7,0)] (.k (asg .k .c) .n) [6] [0] rfl rfl ?_
    refine Tr.ret (end_tmp 1 rfl rfl)
   ·
    have hr:=prev_one (R:=ltS) hj q1 hls
    obtain ⟨d1,hin⟩:=hh
    refine Tr.seq (Tr.ds hmx [] (.k (faddr .k (.b 9 rfl) rfl fSA) (.k (ldc .k (.g 0 rfl) (.b 9 rfl) tyI) (.k (faddr .k (.b 9 rfl) rfl fSB) (.k (ldc .k (.g 2 rfl) (.b 9 rfl) tyI) (.k (ge_ .k (.g 1 rfl) (.g 3 rfl) (dF (by omega))) (.k (mv .k (.g 4 rfl)) (.k (mv (.o 5 rfl rfl rfl) (.b 8 rfl)) (.k (gt_ (.o 5 rfl rfl rfl) (.g 6 rfl) .c (dT (by omega))) (.k (mv (.o 5 rfl rfl rfl) (.g 7 rfl)) (.k (faddr (.o 8 rfl rfl rfl) (.b 0 rfl) rfl fMS) (.k (ldc (.o 8 rfl rfl rfl) (.g 9 rfl) (.b 0 rfl) tyvS) (.k (mv (.o 8 rfl rfl rfl) (.b 8 rfl)) (.k (sub_ (.o 8 rfl rfl rfl) (.g 11 rfl) .c (show IntKind.i64.wrap ((i:Int) - 1)=((j:Nat):Int) by rw [IntWalk.i64_in _ (by omega)];omega)) (.k (idx_ (.o 8 rfl rfl rfl) rwS (.g 10 rfl) (.g 12 rfl) rfl (gm q1)) (.k (ld_at (.o 8 rfl rfl rfl) (.g 13 rfl) tyS rfl (show _=sgv (_,_) from rfl)) (.k (ld (.o 8 rfl rfl rfl) (.b 9 rfl) tyS) (.k (cal (.o 8 rfl rfl rfl) Tryz.func57 rfl fn_bySeg (.k (.g 14 rfl) (.k (.g 15 rfl) .n))) (.k (ge_ (.o 8 rfl rfl rfl) (.g 16 rfl) .c (decide_eq_false (fun x=>(bySeg_lt _ _).1 x hls))) (.k (pickT (.o 5 rfl rfl rfl) (.g 8 rfl) (.g 17 rfl)) (.k (pickF .k (.g 5 rfl) (.g 18 rfl)) (.k (mv .k (.g 19 rfl)) (.k (mv (.o 20 rfl rfl rfl) (.b 1 rfl)) (.k (ld (.o 20 rfl rfl rfl) (.b 9 rfl) tyS) (.k (lkp (.o 20 rfl rfl rfl) Tryz.underlying84 keyS Tryz.underlying4 zBool (.g 21 rfl) (.b 6 rfl) (.g 22 rfl) hws.1 hws.2 d1) (.k (not_ (.o 20 rfl rfl rfl) (.g 23 rfl)) (.k (mv (.o 20 rfl rfl rfl) (.g 24 rfl)) (.k (skp (.o 25 rfl rfl rfl)) (.k (skp (.o 25 rfl rfl rfl)) (.k (skp (.o 25 rfl rfl rfl)) (.k (skp (.o 25 rfl rfl rfl)) (.k (skp (.o 25 rfl rfl rfl)) (.k (skp (.o 25 rfl rfl rfl)) (.k (skp (.o 25 rfl rfl rfl)) (.k (skp (.o 25 rfl rfl rfl)) (.k (pickF (.o 20 rfl rfl rfl) (.g 25 rfl) .c) (.k (pickF .k (.g 20 rfl) (.g 34 rfl)) .n)))))))))))))))))))))))))))))))))))) [0,1,2,3,4,5,6,7,9] [35] rfl rfl ?_)
    refine Tr.cond 9 rfl nofun (fun _=>?_)
    refine Tr.skip (Nx.go (Tr.reg [(7,2)] (.k (mv .k (.b 2 rfl)) (.k (ld .k (.b 8 rfl) tyS) (.k (mupd .k Tryz.underlying84 keyS Tryz.underlying4 (.g 0 rfl) (.b 7 rfl) (.g 1 rfl) .c hws.1 hws.2 h63 rfl) .n))) [0,1,2,3,4,5,6] [2] rfl rfl (Nx.bkN (Nx.go (Tr.reg [(5,1)] (.k (add_ .k (.b 5 rfl) .c (wr1 (by omega))) (.k (mv .k (.g 0 rfl)) .n)) [0,1,2,3,4,6,7] [1] rfl rfl (Nx.again (S.length - (i+1)) (by omega) [.b 1 (SP.mesh P T S) 26 3,.s 3 (.is (.map (some g1))),.s 10 (.is (.map (some g2))),.s 71 (svec S),.s 72 (iv ((S.length:Nat):Int)),.s 73 (iv (((i+1):Nat):Int)),.h 1 g1 (HP.pset Tryz.prog 28 4 (3 * T.length) L),.h 2 g2 (HP.pset Tryz.prog 28 4 ((i+1)) (s :: M))] ⟨(i+1),(s :: M),hB.succ p3 hlt hin hr,rfl,rfl⟩ (Sub.all (.cons 0 rfl (.cons 1 rfl (.cons 2 rfl (.cons 3 rfl (.cons 4 rfl (.cons 7 rfl (.cons 5 rfl (.cons 6 rfl .nil)))))))))))))))
   ·
    have hr:=prev_one (R:=ltS) hj q1 hls
    obtain ⟨d1,d2,hin⟩:=hh
    refine Tr.seq (Tr.ds hmx [] (.k (faddr .k (.b 9 rfl) rfl fSA) (.k (ldc .k (.g 0 rfl) (.b 9 rfl) tyI) (.k (faddr .k (.b 9 rfl) rfl fSB) (.k (ldc .k (.g 2 rfl) (.b 9 rfl) tyI) (.k (ge_ .k (.g 1 rfl) (.g 3 rfl) (dF (by omega))) (.k (mv .k (.g 4 rfl)) (.k (mv (.o 5 rfl rfl rfl) (.b 8 rfl)) (.k (gt_ (.o 5 rfl rfl rfl) (.g 6 rfl) .c (dT (by omega))) (.k (mv (.o 5 rfl rfl rfl) (.g 7 rfl)) (.k (faddr (.o 8 rfl rfl rfl) (.b 0 rfl) rfl fMS) (.k (ldc (.o 8 rfl rfl rfl) (.g 9 rfl) (.b 0 rfl) tyvS) (.k (mv (.o 8 rfl rfl rfl) (.b 8 rfl)) (.k (sub_ (.o 8 rfl rfl rfl) (.g 11 rfl) .c (show IntKind.i64.wrap ((i:Int) - 1)=((j:Nat):Int) by rw [IntWalk.i64_in _ (by omega)];omega)) (.k (idx_ (.o 8 rfl rfl rfl) rwS (.g 10 rfl) (.g 12 rfl) rfl (gm q1)) (.k (ld_at (.o 8 rfl rfl rfl) (.g 13 rfl) tyS rfl (show _=sgv (_,_) from rfl)) (.k (ld (.o 8 rfl rfl rfl) (.b 9 rfl) tyS) (.k (cal (.o 8 rfl rfl rfl) Tryz.func57 rfl fn_bySeg (.k (.g 14 rfl) (.k (.g 15 rfl) .n))) (.k (ge_ (.o 8 rfl rfl rfl) (.g 16 rfl) .c (decide_eq_false (fun x=>(bySeg_lt _ _).1 x hls))) (.k (pickT (.o 5 rfl rfl rfl) (.g 8 rfl) (.g 17 rfl)) (.k (pickF .k (.g 5 rfl) (.g 18 rfl)) (.k (mv .k (.g 19 rfl)) (.k (mv (.o 20 rfl rfl rfl) (.b 1 rfl)) (.k (ld (.o 20 rfl rfl rfl) (.b 9 rfl) tyS) (.k (lkp (.o 20 rfl rfl rfl) Tryz.underlying84 keyS Tryz.underlying4 zBool (.g 21 rfl) (.b 6 rfl) (.g 22 rfl) hws.1 hws.2 d1) (.k (not_ (.o 20 rfl rfl rfl) (.g 23 rfl)) (.k (mv (.o 20 rfl rfl rfl) (.g 24 rfl)) (.k (mv (.o 25 rfl rfl rfl) (.b 1 rfl)) (.k (faddr (.o 25 rfl rfl rfl) (.b 9 rfl) rfl fSB) (.k (ldc (.o 25 rfl rfl rfl) (.g 27 rfl) (.b 9 rfl) tyI) (.k (faddr (.o 25 rfl rfl rfl) (.b 9 rfl) rfl fSA) (.k (ldc (.o 25 rfl rfl rfl) (.g 29 rfl) (.b 9 rfl) tyI) (.k (bld (.o 25 rfl rfl rfl) (.k (.g 28 rfl) (.k (.g 30 rfl) .n)) (bS _ _) (aS _ _)) (.k (lkp (.o 25 rfl rfl rfl) Tryz.underlying84 keyS Tryz.underlying4 zBool (.g 26 rfl) (.b 6 rfl) (.g 31 rfl) hws.2 hws.1 d2) (.k (not_ (.o 25 rfl rfl rfl) (.g 32 rfl)) (.k (pickT (.o 20 rfl rfl rfl) (.g 25 rfl) (.g 33 rfl)) (.k (pickF .k (.g 20 rfl) (.g 34 rfl)) .n)))))))))))))))))))))))))))))))))))) [0,1,2,3,4,5,6,7,9] [35] rfl rfl ?_)
    refine Tr.cond 9 rfl nofun (fun _=>?_)
    refine Tr.skip (Nx.go (Tr.reg [(7,2)] (.k (mv .k (.b 2 rfl)) (.k (ld .k (.b 8 rfl) tyS) (.k (mupd .k Tryz.underlying84 keyS Tryz.underlying4 (.g 0 rfl) (.b 7 rfl) (.g 1 rfl) .c hws.1 hws.2 h63 rfl) .n))) [0,1,2,3,4,5,6] [2] rfl rfl (Nx.bkN (Nx.go (Tr.reg [(5,1)] (.k (add_ .k (.b 5 rfl) .c (wr1 (by omega))) (.k (mv .k (.g 0 rfl)) .n)) [0,1,2,3,4,6,7] [1] rfl rfl (Nx.again (S.length - (i+1)) (by omega) [.b 1 (SP.mesh P T S) 26 3,.s 3 (.is (.map (some g1))),.s 10 (.is (.map (some g2))),.s 71 (svec S),.s 72 (iv ((S.length:Nat):Int)),.s 73 (iv (((i+1):Nat):Int)),.h 1 g1 (HP.pset Tryz.prog 28 4 (3 * T.length) L),.h 2 g2 (HP.pset Tryz.prog 28 4 ((i+1)) (s :: M))] ⟨(i+1),(s :: M),hB.succ p3 hlt hin hr,rfl,rfl⟩ (Sub.all (.cons 0 rfl (.cons 1 rfl (.cons 2 rfl (.cons 3 rfl (.cons 4 rfl (.cons 7 rfl (.cons 5 rfl (.cons 6 rfl .nil)))))))))))))))
   ·
    have hr:=prev_one (R:=ltS) hj q1 hls
    obtain ⟨d1,d2,hno⟩:=hh
    rw [chk_sege hinv p3 (.inr hno)]
    refine Tr.seq (Tr.ds hmx [] (.k (faddr .k (.b 9 rfl) rfl fSA) (.k (ldc .k (.g 0 rfl) (.b 9 rfl) tyI) (.k (faddr .k (.b 9 rfl) rfl fSB) (.k (ldc .k (.g 2 rfl) (.b 9 rfl) tyI) (.k (ge_ .k (.g 1 rfl) (.g 3 rfl) (dF (by omega))) (.k (mv .k (.g 4 rfl)) (.k (mv (.o 5 rfl rfl rfl) (.b 8 rfl)) (.k (gt_ (.o 5 rfl rfl rfl) (.g 6 rfl) .c (dT (by omega))) (.k (mv (.o 5 rfl rfl rfl) (.g 7 rfl)) (.k (faddr (.o 8 rfl rfl rfl) (.b 0 rfl) rfl fMS) (.k (ldc (.o 8 rfl rfl rfl) (.g 9 rfl) (.b 0 rfl) tyvS) (.k (mv (.o 8 rfl rfl rfl) (.b 8 rfl)) (.k (sub_ (.o 8 rfl rfl rfl) (.g 11 rfl) .c (show IntKind.i64.wrap ((i:Int) - 1)=((j:Nat):Int) by rw [IntWalk.i64_in _ (by omega)];omega)) (.k (idx_ (.o 8 rfl rfl rfl) rwS (.g 10 rfl) (.g 12 rfl) rfl (gm q1)) (.k (ld_at (.o 8 rfl rfl rfl) (.g 13 rfl) tyS rfl (show _=sgv (_,_) from rfl)) (.k (ld (.o 8 rfl rfl rfl) (.b 9 rfl) tyS) (.k (cal (.o 8 rfl rfl rfl) Tryz.func57 rfl fn_bySeg (.k (.g 14 rfl) (.k (.g 15 rfl) .n))) (.k (ge_ (.o 8 rfl rfl rfl) (.g 16 rfl) .c (decide_eq_false (fun x=>(bySeg_lt _ _).1 x hls))) (.k (pickT (.o 5 rfl rfl rfl) (.g 8 rfl) (.g 17 rfl)) (.k (pickF .k (.g 5 rfl) (.g 18 rfl)) (.k (mv .k (.g 19 rfl)) (.k (mv (.o 20 rfl rfl rfl) (.b 1 rfl)) (.k (ld (.o 20 rfl rfl rfl) (.b 9 rfl) tyS) (.k (lkp (.o 20 rfl rfl rfl) Tryz.underlying84 keyS Tryz.underlying4 zBool (.g 21 rfl) (.b 6 rfl) (.g 22 rfl) hws.1 hws.2 d1) (.k (not_ (.o 20 rfl rfl rfl) (.g 23 rfl)) (.k (mv (.o 20 rfl rfl rfl) (.g 24 rfl)) (.k (mv (.o 25 rfl rfl rfl) (.b 1 rfl)) (.k (faddr (.o 25 rfl rfl rfl) (.b 9 rfl) rfl fSB) (.k (ldc (.o 25 rfl rfl rfl) (.g 27 rfl) (.b 9 rfl) tyI) (.k (faddr (.o 25 rfl rfl rfl) (.b 9 rfl) rfl fSA) (.k (ldc (.o 25 rfl rfl rfl) (.g 29 rfl) (.b 9 rfl) tyI) (.k (bld (.o 25 rfl rfl rfl) (.k (.g 28 rfl) (.k (.g 30 rfl) .n)) (bS _ _) (aS _ _)) (.k (lkp (.o 25 rfl rfl rfl) Tryz.underlying84 keyS Tryz.underlying4 zBool (.g 26 rfl) (.b 6 rfl) (.g 31 rfl) hws.2 hws.1 d2) (.k (not_ (.o 25 rfl rfl rfl) (.g 32 rfl)) (.k (pickT (.o 20 rfl rfl rfl) (.g 25 rfl) (.g 33 rfl)) (.k (pickF .k (.g 20 rfl) (.g 34 rfl)) .n)))))))))))))))))))))))))))))))))))) [0,1,2,3,4,5,6,7,9] [35] rfl rfl ?_)
    refine Tr.cond 9 rfl (fun _=>?_) nofun
    refine Tr.rs [(7,0)] (.k (asg .k .c) .n) [6] [0] rfl rfl ?_
    refine Tr.ret (end_tmp 1 rfl rfl)
  ·
   obtain rfl:i=S.length:=by have:=of_decide_eq_false e74;have:=hB.le;omega
   refine Tr.exit (Nx.thX (Nx.thX (Nx.bkX (Nx.go (?_)))))
   refine Tr.pin 6 [0,1,2,3,4,5,7,8] rfl rfl (fun es1 ck1=>?_)
   refine Tr.seq (Tr.gos (Go.k (mv .k (.b 2 rfl)) [0,2,3,7] rfl rfl (Go.range 3 .k Tryz.underlying84 keyS (.b 0 rfl) (.b 1 rfl) [1,2,3,4] rfl rfl fun g3 left0 cnt0 hl0=>(Go.end_ (Nx.go (?_))))))
   refine Tr.block (?_)
   refine Tr.loop (fun n_ F_=>∃ left:Lit→Bool,∃ cnt:Nat,∃ cur:Option (Int × Int),(Rng L left (rimOK L M))∧n_=cnt∧F_=[.s 3 (.is (.map (some g1))),.s 10 (.is (.map (some g2))),.s 118 (.is (ptr g3 0)),.h 1 g1 (HP.pin Tryz.prog 28 4 (3 * T.length) L es1 ck1),.h 2 g2 (HP.pset Tryz.prog 28 4 (S.length) M),.h 3 g3 (HP.itr Tryz.prog 28 4 g1 es1 ck1 left cnt cur)]) (cnt0) (F0:=[.s 3 (.is (.map (some g1))),.s 10 (.is (.map (some g2))),.s 118 (.is (ptr g3 0)),.h 1 g1 (HP.pin Tryz.prog 28 4 (3 * T.length) L es1 ck1),.h 2 g2 (HP.pset Tryz.prog 28 4 (S.length) M),.h 3 g3 (HP.itr Tryz.prog 28 4 g1 es1 ck1 left0 cnt0 none)]) ⟨left0,cnt0,none,Rng.zero hl0,rfl,rfl⟩ (Sub.all (.cons 3 rfl (.cons 4 rfl (.cons 0 rfl (.cons 2 rfl (.cons 5 rfl (.cons 1 rfl .nil))))))) (fun n_ F_ hI=>?_)
   obtain ⟨left,cnt,cur,hrn,rfl,rfl⟩:=hI
   refine Tr.gos (Go.next 5 .k keyS invS (.b 2 rfl) (.b 3 rfl) rfl [0,1,2,3,4] rfl rfl (fun hl=>?_) (fun p kl cnt2 hk wa wb hp hc=>?_))
   ·
    refine (Go.k (exx .k (.b 0 rfl) rfl) [1,2,3,4,5,6] rfl rfl (Go.end_ (Nx.go (?_))))
    refine Tr.seq (Tr.cond 0 rfl nofun (fun _=>?_))
    refine Tr.exit (Nx.thX (Nx.thX (Nx.bkX (Nx.go (?_)))))
    rw [chk_fin hinv hB (hrn.end_ hl fun p hp=>⟨wfI (by have:=all_wf hinv hp;omega) (by have:=all_wf hinv hp;omega),wfI (by have:=all_wf hinv hp;omega) (by have:=all_wf hinv hp;omega)⟩)]
    refine Tr.rs [(6,0)] (.k (asg .k .c) .n) [1,5] [0] rfl rfl ?_
    refine Tr.ret (end_tmp 2 rfl rfl)
   ·
    refine (Go.k (exx .k (.b 0 rfl) rfl) [1,2,3,4,5,6] rfl rfl (Go.end_ (Nx.go (?_))))
    refine Tr.seq (Tr.cond 0 rfl (fun _=>?_) nofun)
    refine Tr.skip (Nx.go (Tr.block (Tr.rs [] (.k (entr .k (.b 4 rfl) (.b 5 rfl) (.b 1 rfl)) (.k (exx .k (.g 0 rfl) (show _=some (SP.is (sgv p)) from rfl)) (.k (ala .k zS) (.k (sta .k (.g 2 rfl) (.g 1 rfl) tyS) .n)))) [1,2,3,4,5,6] [3] rfl rfl ?_)))
    have hpw:=all_wf hinv hp;have hpn:=nrm_wf hP hpw;have wp1:(Lit.int .i64 p.1).wf=true:=wfI (by omega) (by omega);have wp2:(Lit.int .i64 p.2).wf=true:=wfI (by omega) (by omega);have wn1:(Lit.int .i64 (nrm p).1).wf=true:=wfI (by omega) (by omega);have wn2:(Lit.int .i64 (nrm p).2).wf=true:=wfI (by omega) (by omega);rcases rim_ways L M p with ⟨d1,hok⟩|⟨d1,d2,hok⟩|⟨d1,d2,n1,n2⟩
    ·
     refine Tr.rs [] (.k (mv .k (.b 1 rfl)) (.k (faddr .k (.b 6 rfl) rfl fSB) (.k (ldc .k (.g 1 rfl) (.b 6 rfl) tyI) (.k (faddr .k (.b 6 rfl) rfl fSA) (.k (ldc .k (.g 3 rfl) (.b 6 rfl) tyI) (.k (bld .k (.k (.g 2 rfl) (.k (.g 4 rfl) .n)) (bS _ _) (aS _ _)) (.k (lkpo .k Tryz.underlying84 keyS Tryz.underlying4 zBool (.g 0 rfl) (.b 4 rfl) (.g 5 rfl) wp2 wp1 d1) (.k (not_ .k (.g 6 rfl)) (.k (mv .k (.g 7 rfl)) (.k (skp (.o 8 rfl rfl rfl)) (.k (skp (.o 8 rfl rfl rfl)) (.k (skp (.o 8 rfl rfl rfl)) (.k (skp (.o 8 rfl rfl rfl)) (.k (skp (.o 8 rfl rfl rfl)) (.k (pickF .k (.g 8 rfl) .c) .n))))))))))))))) [0,1,2,3,4,5] [14] rfl rfl ?_
     refine Tr.cond 6 rfl nofun (fun _=>?_)
     refine Tr.skip (Nx.bkN (Nx.again (cnt2) hc [.s 3 (.is (.map (some g1))),.s 10 (.is (.map (some g2))),.s 118 (.is (ptr g3 0)),.h 1 g1 (HP.pin Tryz.prog 28 4 (3 * T.length) L es1 ck1),.h 2 g2 (HP.pset Tryz.prog 28 4 (S.length) M),.h 3 g3 (HP.itr Tryz.prog 28 4 g1 es1 ck1 (fun x=>left x && !x.sameKey kl) cnt2 (some p))] ⟨(fun x=>left x && !x.sameKey kl),cnt2,(some p),hrn.succ hk hok,rfl,rfl⟩ (Sub.all (.cons 1 rfl (.cons 2 rfl (.cons 3 rfl (.cons 4 rfl (.cons 5 rfl (.cons 0 rfl .nil)))))))))
    ·
     refine Tr.rs [] (.k (mv .k (.b 1 rfl)) (.k (faddr .k (.b 6 rfl) rfl fSB) (.k (ldc .k (.g 1 rfl) (.b 6 rfl) tyI) (.k (faddr .k (.b 6 rfl) rfl fSA) (.k (ldc .k (.g 3 rfl) (.b 6 rfl) tyI) (.k (bld .k (.k (.g 2 rfl) (.k (.g 4 rfl) .n)) (bS _ _) (aS _ _)) (.k (lkpo .k Tryz.underlying84 keyS Tryz.underlying4 zBool (.g 0 rfl) (.b 4 rfl) (.g 5 rfl) wp2 wp1 d1) (.k (not_ .k (.g 6 rfl)) (.k (mv .k (.g 7 rfl)) (.k (mv (.o 8 rfl rfl rfl) (.b 2 rfl)) (.k (ld (.o 8 rfl rfl rfl) (.b 6 rfl) tyS) (.k (cal (.o 8 rfl rfl rfl) Tryz.func58 rfl fn_up (.k (.g 10 rfl) .n)) (.k (lkp (.o 8 rfl rfl rfl) Tryz.underlying84 keyS Tryz.underlying4 zBool (.g 9 rfl) (.b 5 rfl) (.g 11 rfl) wn1 wn2 d2) (.k (not_ (.o 8 rfl rfl rfl) (.g 12 rfl)) (.k (pickT .k (.g 8 rfl) (.g 13 rfl)) .n))))))))))))))) [0,1,2,3,4,5] [14] rfl rfl ?_
     refine Tr.cond 6 rfl nofun (fun _=>?_)
     refine Tr.skip (Nx.bkN (Nx.again (cnt2) hc [.s 3 (.is (.map (some g1))),.s 10 (.is (.map (some g2))),.s 118 (.is (ptr g3 0)),.h 1 g1 (HP.pin Tryz.prog 28 4 (3 * T.length) L es1 ck1),.h 2 g2 (HP.pset Tryz.prog 28 4 (S.length) M),.h 3 g3 (HP.itr Tryz.prog 28 4 g1 es1 ck1 (fun x=>left x && !x.sameKey kl) cnt2 (some p))] ⟨(fun x=>left x && !x.sameKey kl),cnt2,(some p),hrn.succ hk hok,rfl,rfl⟩ (Sub.all (.cons 1 rfl (.cons 2 rfl (.cons 3 rfl (.cons 4 rfl (.cons 5 rfl (.cons 0 rfl .nil)))))))))
    ·
     rw [chk_rime hinv hB hp n1 n2]
     refine Tr.rs [] (.k (mv .k (.b 1 rfl)) (.k (faddr .k (.b 6 rfl) rfl fSB) (.k (ldc .k (.g 1 rfl) (.b 6 rfl) tyI) (.k (faddr .k (.b 6 rfl) rfl fSA) (.k (ldc .k (.g 3 rfl) (.b 6 rfl) tyI) (.k (bld .k (.k (.g 2 rfl) (.k (.g 4 rfl) .n)) (bS _ _) (aS _ _)) (.k (lkpo .k Tryz.underlying84 keyS Tryz.underlying4 zBool (.g 0 rfl) (.b 4 rfl) (.g 5 rfl) wp2 wp1 d1) (.k (not_ .k (.g 6 rfl)) (.k (mv .k (.g 7 rfl)) (.k (mv (.o 8 rfl rfl rfl) (.b 2 rfl)) (.k (ld (.o 8 rfl rfl rfl) (.b 6 rfl) tyS) (.k (cal (.o 8 rfl rfl rfl) Tryz.func58 rfl fn_up (.k (.g 10 rfl) .n)) (.k (lkp (.o 8 rfl rfl rfl) Tryz.underlying84 keyS Tryz.underlying4 zBool (.g 9 rfl) (.b 5 rfl) (.g 11 rfl) wn1 wn2 d2) (.k (not_ (.o 8 rfl rfl rfl) (.g 12 rfl)) (.k (pickT .k (.g 8 rfl) (.g 13 rfl)) .n))))))))))))))) [0,1,2,3,4,5] [14] rfl rfl ?_
     refine Tr.cond 6 rfl (fun _=>?_) nofun
     refine Tr.rs [(5,0)] (.k (asg .k .c) .n) [0,4] [0] rfl rfl ?_
     refine Tr.ret (end_tmp 2 rfl rfl)
end Go.Proofs.YtkgagdjogedoiaaGreat

/- The document's check of a mesh; walked. -/
import Derived.Test.YtkgagdjogedoiaaGreatDf5
import Derived.Test.YtkgagdjogedoiaaGreatDp9
set_option linter.unusedVariables false
set_option linter.unusedSimpArgs false
namespace Go.Proofs.YtkgagdjogedoiaaGreat
open Go Go.RowKit Go.Proofs.YtkgagdjogedoiaaGreat.Fx Go.Proofs.YtkgagdjogedoiaaGreatW.PrintWords
theorem aTA:∃ fs fl,Tryz.prog.underlying 55=some (.struct fs)∧fs[0]?=some fl∧∀ ad W,(fieldPlace ad fl).run Tryz.prog W = .ok (ad.add 0) W:=⟨_,_,Tryz.underlying55,rfl,fun ad W=>by kernel_rfl⟩
theorem aTB:∃ fs fl,Tryz.prog.underlying 55=some (.struct fs)∧fs[1]?=some fl∧∀ ad W,(fieldPlace ad fl).run Tryz.prog W = .ok (ad.add 1) W:=⟨_,_,Tryz.underlying55,rfl,fun ad W=>by kernel_rfl⟩
theorem aTC:∃ fs fl,Tryz.prog.underlying 55=some (.struct fs)∧fs[2]?=some fl∧∀ ad W,(fieldPlace ad fl).run Tryz.prog W = .ok (ad.add 2) W:=⟨_,_,Tryz.underlying55,rfl,fun ad W=>by kernel_rfl⟩
theorem tG:Tryz.prog.eqGuardType Tryz.prog.depth 55=false:=by kernel_rfl
theorem eqTr (s u:Int × Int × Int) (W:World):(Op.equalIn 10000 55 (trv s) (trv u)).run Tryz.prog W = .ok (s.1==u.1 && (s.2.1==u.2.1 && s.2.2==u.2.2)) W:=by
  rw [show (10000:Nat)=9998+2 from rfl]
  refine eqA_of Tryz.underlying55 (by kernel_rfl) ?_
  refine eqf_cons (by rfl) (by go_simp;rfl) (by go_simp;rfl) (by go_simp) ?_
  refine eqf_cons (by rfl) (by go_simp;rfl) (by go_simp;rfl) (by go_simp) ?_
  exact eqf_last (by rfl) (by go_simp;rfl) (by go_simp;rfl) (by go_simp)
theorem tr_ne {u t:Int × Int × Int} (h:u≠t):(!(u.1==t.1 && (u.2.1==t.2.1 && u.2.2==t.2.2)))=true:=by
  rw [Bool.not_eq_true']
  refine Bool.eq_false_iff.2 fun h'=>h ?_
  simp only [Bool.and_eq_true,beq_iff_eq] at h'
  exact Prod.ext h'.1 (Prod.ext h'.2.1 h'.2.2)
theorem tr_eq (t:Int × Int × Int):(!(t.1==t.1 && (t.2.1==t.2.1 && t.2.2==t.2.2)))=false:=by simp
theorem fn_rTri' {P:List (Int × Int)} {a b c:Int} {u:Int × Int × Int} {r:Bool} (hl:P.length≤1000000) (he:triR P.length (oP P) a b c=(u,r)):FnC Tryz.prog 50 [pvec P,iv a,iv b,iv c] (.tup [.is (trv u),bv r]):=by
  have h:=fn_rTri (P:=P) (a:=a) (b:=b) (c:=c) hl
  rw [he] at h
  exact h
theorem fn_Tri' {P:List (Int × Int)} {a b c:Int} {u:Int × Int × Int} {r:Bool} (hl:P.length≤1000000) (he:triR P.length (oP P) a b c=(u,r)):FnC Tryz.prog 54 [pvec P,iv a,iv b,iv c] (.tup [.is (trv u),bv r]):=by
  have h:=fn_Tri (P:=P) (a:=a) (b:=b) (c:=c) hl
  rw [he] at h
  exact h
theorem fn_beforeT {a b:Int × Int × Int} (h:ltT a b):FnC Tryz.prog 51 [.is (trv a),.is (trv b)] (bv true):=decide_eq_true h ▸ fn_before
theorem fn_beforeF {a b:Int × Int × Int} (h:¬ ltT a b):FnC Tryz.prog 51 [.is (trv a),.is (trv b)] (bv false):=decide_eq_false h ▸ fn_before
theorem fn_HasT {l:List (Int × Int)} {a b:Int} (hl:l.length≤1000000) (h:(a,b)∈l∨(b,a)∈l):FnC Tryz.prog 53 [svec l,iv a,iv b] (bv true):=decide_eq_true h ▸ fn_Has hl
theorem fn_HasF {l:List (Int × Int)} {a b:Int} (hl:l.length≤1000000) (h:¬ ((a,b)∈l∨(b,a)∈l)):FnC Tryz.prog 53 [svec l,iv a,iv b] (bv false):=decide_eq_false h ▸ fn_Has hl
theorem tri_cases (n:Nat) (o:Int→Int→Int→Int) (t:Int × Int × Int):(∃ u,triR n o t.1 t.2.1 t.2.2=(u,false))∨(∃ u,u≠t∧triR n o t.1 t.2.1 t.2.2=(u,true))∨triR n o t.1 t.2.1 t.2.2=(t,true):=by
  obtain ⟨u,b,he⟩:∃ u b,triR n o t.1 t.2.1 t.2.2=(u,b):=⟨_,_,rfl⟩
  cases b with
  | false=>exact .inl ⟨u,he⟩
  | true =>
    by_cases h:u=t
    · exact .inr (.inr (h ▸ he))
    · exact .inr (.inl ⟨u,h,he⟩)
theorem prev_ways {α:Type} (R:α→α→Prop) {l:List α} {k:Nat} {t:α} (h:l[k]?=some t):k=0∨(∃ (j:Nat) (s:α),k=j+1∧l[j]?=some s∧¬ R s t)∨∃ (j:Nat) (s:α),k=j+1∧l[j]?=some s∧R s t:=by
  cases k with
  | zero=>exact .inl rfl
  | succ j =>
    obtain ⟨s,hs⟩:∃ s,l[j]?=some s:=⟨_,List.getElem?_eq_getElem (by have:=(List.getElem?_eq_some_iff.1 h).1;omega)⟩
    by_cases hr:R s t
    · exact .inr (.inr ⟨j,s,rfl,hs,hr⟩)
    · exact .inr (.inl ⟨j,s,rfl,hs,hr⟩)
theorem prev_zero {α:Type} {R:α→α→Prop} {l:List α} {k:Nat} {t:α} (hk:k=0):∀ j s,k=j+1→l[j]?=some s→R s t:=fun j s h=>absurd h (by omega)
theorem prev_one {α:Type} {R:α→α→Prop} {l:List α} {k j:Nat} {s t:α} (hk:k=j+1) (hs:l[j]?=some s) (hr:R s t):∀ j s,k=j+1→l[j]?=some s→R s t:=fun j' s' h hs'=>by
  obtain rfl:j'=j:=by omega
  rw [hs] at hs'
  cases hs'
  exact hr
theorem sgs_ways {S:List (Int × Int)} {i:Nat} {s:Int × Int} (h:S[i]?=some s):(¬ s.1 < s.2)∨(s.1 < s.2∧i=0)∨(s.1 < s.2∧∃ (j:Nat) (u:Int × Int),i=j+1∧S[j]?=some u∧u.1 > s.1)∨(s.1 < s.2∧∃ (j:Nat) (u:Int × Int),i=j+1∧S[j]?=some u∧u.1=s.1∧u.2 ≥ s.2)∨(s.1 < s.2∧∃ (j:Nat) (u:Int × Int),i=j+1∧S[j]?=some u∧u.1=s.1∧u.2 < s.2)∨(s.1 < s.2∧∃ (j:Nat) (u:Int × Int),i=j+1∧S[j]?=some u∧u.1 < s.1):=by
  by_cases hlt:s.1 < s.2
  · rcases prev_ways (fun _ _=>True) h with h0|⟨j,u,hj,hu,hn⟩|⟨j,u,hj,hu,_⟩
    · exact .inr (.inl ⟨hlt,h0⟩)
    · exact absurd trivial hn
    · by_cases c1:u.1 > s.1
      · exact .inr (.inr (.inl ⟨hlt,j,u,hj,hu,c1⟩))
      by_cases c2:u.1=s.1
      · by_cases c3:u.2 ≥ s.2
        · exact .inr (.inr (.inr (.inl ⟨hlt,j,u,hj,hu,c2,c3⟩)))
        · exact .inr (.inr (.inr (.inr (.inl ⟨hlt,j,u,hj,hu,c2,by omega⟩))))
      · exact .inr (.inr (.inr (.inr (.inr ⟨hlt,j,u,hj,hu,by omega⟩))))
  · exact .inl hlt
set_option maxRecDepth 100000 in
set_option maxHeartbeats 8000000 in
theorem fn_rCheck {P:List (Int × Int)} {T:List (Int × Int × Int)} {S:List (Int × Int)} (hP:P.length≤1000000) (hT:T.length≤1000000) (hS:S.length≤1000000):FnC Tryz.prog 25 [SP.mesh P T S] (iv (chkR P.length (oP P) T S)):=by
 refine FnC.of (N:=193) Tryz.func25 rfl rfl (Nat.le_of_ble_eq_true rfl) (fun w0 ok0=>?_)
 refine Tr.rs [] (.k (bxx .k (.b 0 rfl)) (.k (asg .k .c) .n)) [] [0] rfl rfl ?_
 refine Tr.seq (Tr.rs [] (.k (asg .k .c) .n) [0] [0] rfl rfl ?_)
 refine Tr.block (?_)
 refine Tr.loop (fun n_ F_=>∃ k:Nat,(ChkA P.length (oP P) T S k)∧n_=T.length - k∧F_=[.b 1 (SP.mesh P T S) 26 3,.s 3 (iv ((k:Nat):Int))]) (T.length - 0) (F0:=[.b 1 (SP.mesh P T S) 26 3,.s 3 (iv ((0:Nat):Int))]) ⟨0,ChkA.zero,rfl,rfl⟩ (Sub.all (.cons 0 rfl (.cons 1 rfl .nil))) (fun n_ F_ hI=>?_)
 obtain ⟨k,hinv,rfl,rfl⟩:=hI
 refine Tr.seq (Tr.rs [] (.k (mv .k (.b 1 rfl)) (.k (faddr .k (.b 0 rfl) rfl fMT) (.k (ldc .k (.g 1 rfl) (.b 0 rfl) tyvT) (.k (len_ .k rwT (.g 2 rfl) (by rw [List.length_map])) (.k (lt_ .k (.g 0 rfl) (.g 3 rfl) rfl) .n))))) [0,1] [4] rfl rfl ?_)
 refine Tr.cond 2 rfl (fun e14=>?_) (fun e14=>?_)
 ·
  have hk2:k < T.length:=by have:=of_decide_eq_true e14;omega
  refine Tr.skip (Nx.go (Tr.seq (Tr.block (?_))))
  obtain ⟨t,p1⟩:∃ t,T[k]?=some t:=⟨_,List.getElem?_eq_getElem hk2⟩;rcases tri_cases P.length (oP P) t with ⟨u,he⟩|⟨u,hne,he⟩|he
  ·
   rw [chk_tri (oP_ori P) p1 he (.inl rfl)]
   refine Tr.ds hmx [] (.k (faddr .k (.b 0 rfl) rfl fMP) (.k (ldc .k (.g 0 rfl) (.b 0 rfl) tyvP) (.k (faddr .k (.b 0 rfl) rfl fMT) (.k (ldc .k (.g 2 rfl) (.b 0 rfl) tyvT) (.k (mv .k (.b 1 rfl)) (.k (idx_ .k rwT (.g 3 rfl) (.g 4 rfl) rfl (gm p1)) (.k (fat .k (.g 5 rfl) aTA rfl) (.k (ldc_at .k (.g 6 rfl) tyI) (.k (faddr .k (.b 0 rfl) rfl fMT) (.k (ldc .k (.g 8 rfl) (.b 0 rfl) tyvT) (.k (mv .k (.b 1 rfl)) (.k (idx_ .k rwT (.g 9 rfl) (.g 10 rfl) rfl (gm p1)) (.k (fat .k (.g 11 rfl) aTB rfl) (.k (ldc_at .k (.g 12 rfl) tyI) (.k (faddr .k (.b 0 rfl) rfl fMT) (.k (ldc .k (.g 14 rfl) (.b 0 rfl) tyvT) (.k (mv .k (.b 1 rfl)) (.k (idx_ .k rwT (.g 15 rfl) (.g 16 rfl) rfl (gm p1)) (.k (fat .k (.g 17 rfl) aTC rfl) (.k (ldc_at .k (.g 18 rfl) tyI) (.k (cal .k Tryz.func50 rfl (fn_rTri' hP he) (.k (.g 1 rfl) (.k (.g 7 rfl) (.k (.g 13 rfl) (.k (.g 19 rfl) .n))))) (.k (mv .k (.g 20 rfl)) (.k (exx .k (.g 21 rfl) rfl) (.k (exx .k (.g 21 rfl) rfl) (.k (ala .k zT) (.k (sta .k (.g 24 rfl) (.g 22 rfl) tyT) (.k (asg .k (.g 23 rfl)) .n))))))))))))))))))))))))))) [0,1] [25,26] rfl rfl ?_
   refine Tr.seq (Tr.ds hmx [] (.k (mv .k (.b 3 rfl)) (.k (not_ .k (.g 0 rfl)) (.k (mv .k (.g 1 rfl)) (.k (skp (.o 2 rfl rfl rfl)) (.k (skp (.o 2 rfl rfl rfl)) (.k (skp (.o 2 rfl rfl rfl)) (.k (skp (.o 2 rfl rfl rfl)) (.k (skp (.o 2 rfl rfl rfl)) (.k (skp (.o 2 rfl rfl rfl)) (.k (skp (.o 2 rfl rfl rfl)) (.k (pickT .k (.g 2 rfl) .c) (.k (mv .k (.g 10 rfl)) (.k (skp (.o 11 rfl rfl rfl)) (.k (skp (.o 11 rfl rfl rfl)) (.k (skpu (.o 11 rfl rfl rfl)) (.k (skpn (.g 14 rfl) rfl) (.k (skpn (.g 14 rfl) rfl) (.k (skpn (.g 14 rfl) rfl) (.k (skpn (.g 14 rfl) rfl) (.k (skpn (.g 14 rfl) rfl) (.k (skpn (.g 14 rfl) rfl) (.k (skpn (.g 14 rfl) rfl) (.k (skpn (.g 14 rfl) rfl) (.k (skpn (.g 14 rfl) rfl) (.k (skp (.o 11 rfl rfl rfl)) (.k (pickT .k (.g 11 rfl) .c) .n)))))))))))))))))))))))))) [0,1,2] [25] rfl rfl ?_)
   refine Tr.cond 3 rfl (fun _=>?_) nofun
   refine Tr.rs [] (.k (asg .k .c) .n) [] [0] rfl rfl ?_
   refine Tr.ret (end_tmp 0 rfl rfl)
  ·
   rw [chk_tri (oP_ori P) p1 he (.inr hne)]
   refine Tr.ds hmx [] (.k (faddr .k (.b 0 rfl) rfl fMP) (.k (ldc .k (.g 0 rfl) (.b 0 rfl) tyvP) (.k (faddr .k (.b 0 rfl) rfl fMT) (.k (ldc .k (.g 2 rfl) (.b 0 rfl) tyvT) (.k (mv .k (.b 1 rfl)) (.k (idx_ .k rwT (.g 3 rfl) (.g 4 rfl) rfl (gm p1)) (.k (fat .k (.g 5 rfl) aTA rfl) (.k (ldc_at .k (.g 6 rfl) tyI) (.k (faddr .k (.b 0 rfl) rfl fMT) (.k (ldc .k (.g 8 rfl) (.b 0 rfl) tyvT) (.k (mv .k (.b 1 rfl)) (.k (idx_ .k rwT (.g 9 rfl) (.g 10 rfl) rfl (gm p1)) (.k (fat .k (.g 11 rfl) aTB rfl) (.k (ldc_at .k (.g 12 rfl) tyI) (.k (faddr .k (.b 0 rfl) rfl fMT) (.k (ldc .k (.g 14 rfl) (.b 0 rfl) tyvT) (.k (mv .k (.b 1 rfl)) (.k (idx_ .k rwT (.g 15 rfl) (.g 16 rfl) rfl (gm p1)) (.k (fat .k (.g 17 rfl) aTC rfl) (.k (ldc_at .k (.g 18 rfl) tyI) (.k (cal .k Tryz.func50 rfl (fn_rTri' hP he) (.k (.g 1 rfl) (.k (.g 7 rfl) (.k (.g 13 rfl) (.k (.g 19 rfl) .n))))) (.k (mv .k (.g 20 rfl)) (.k (exx .k (.g 21 rfl) rfl) (.k (exx .k (.g 21 rfl) rfl) (.k (ala .k zT) (.k (sta .k (.g 24 rfl) (.g 22 rfl) tyT) (.k (asg .k (.g 23 rfl)) .n))))))))))))))))))))))))))) [0,1] [25,26] rfl rfl ?_
   refine Tr.seq (Tr.ds hmx [] (.k (mv .k (.b 3 rfl)) (.k (not_ .k (.g 0 rfl)) (.k (mv .k (.g 1 rfl)) (.k (ld (.o 2 rfl rfl rfl) (.b 2 rfl) tyT) (.k (faddr (.o 2 rfl rfl rfl) (.b 0 rfl) rfl fMT) (.k (ldc (.o 2 rfl rfl rfl) (.g 4 rfl) (.b 0 rfl) tyvT) (.k (mv (.o 2 rfl rfl rfl) (.b 1 rfl)) (.k (idx_ (.o 2 rfl rfl rfl) rwT (.g 5 rfl) (.g 6 rfl) rfl (gm p1)) (.k (ld_at (.o 2 rfl rfl rfl) (.g 7 rfl) tyT rfl (show _=trv (_,_,_) from rfl)) (.k (neS_ (.o 2 rfl rfl rfl) tG (.g 3 rfl) (.g 8 rfl) (eqTr _ _) (tr_ne hne)) (.k (pickF .k (.g 2 rfl) (.g 9 rfl)) (.k (mv .k (.g 10 rfl)) (.k (skp (.o 11 rfl rfl rfl)) (.k (skp (.o 11 rfl rfl rfl)) (.k (skpu (.o 11 rfl rfl rfl)) (.k (skpn (.g 14 rfl) rfl) (.k (skpn (.g 14 rfl) rfl) (.k (skpn (.g 14 rfl) rfl) (.k (skpn (.g 14 rfl) rfl) (.k (skpn (.g 14 rfl) rfl) (.k (skpn (.g 14 rfl) rfl) (.k (skpn (.g 14 rfl) rfl) (.k (skpn (.g 14 rfl) rfl) (.k (skpn (.g 14 rfl) rfl) (.k (skp (.o 11 rfl rfl rfl)) (.k (pickT .k (.g 11 rfl) .c) .n)))))))))))))))))))))))))) [0,1,2] [25] rfl rfl ?_)
   refine Tr.cond 3 rfl (fun _=>?_) nofun
   refine Tr.rs [] (.k (asg .k .c) .n) [] [0] rfl rfl ?_
   refine Tr.ret (end_tmp 0 rfl rfl)
  ·
   refine Tr.ds hmx [] (.k (faddr .k (.b 0 rfl) rfl fMP) (.k (ldc .k (.g 0 rfl) (.b 0 rfl) tyvP) (.k (faddr .k (.b 0 rfl) rfl fMT) (.k (ldc .k (.g 2 rfl) (.b 0 rfl) tyvT) (.k (mv .k (.b 1 rfl)) (.k (idx_ .k rwT (.g 3 rfl) (.g 4 rfl) rfl (gm p1)) (.k (fat .k (.g 5 rfl) aTA rfl) (.k (ldc_at .k (.g 6 rfl) tyI) (.k (faddr .k (.b 0 rfl) rfl fMT) (.k (ldc .k (.g 8 rfl) (.b 0 rfl) tyvT) (.k (mv .k (.b 1 rfl)) (.k (idx_ .k rwT (.g 9 rfl) (.g 10 rfl) rfl (gm p1)) (.k (fat .k (.g 11 rfl) aTB rfl) (.k (ldc_at .k (.g 12 rfl) tyI) (.k (faddr .k (.b 0 rfl) rfl fMT) (.k (ldc .k (.g 14 rfl) (.b 0 rfl) tyvT) (.k (mv .k (.b 1 rfl)) (.k (idx_ .k rwT (.g 15 rfl) (.g 16 rfl) rfl (gm p1)) (.k (fat .k (.g 17 rfl) aTC rfl) (.k (ldc_at .k (.g 18 rfl) tyI) (.k (cal .k Tryz.func50 rfl (fn_rTri' hP he) (.k (.g 1 rfl) (.k (.g 7 rfl) (.k (.g 13 rfl) (.k (.g 19 rfl) .n))))) (.k (mv .k (.g 20 rfl)) (.k (exx .k (.g 21 rfl) rfl) (.k (exx .k (.g 21 rfl) rfl) (.k (ala .k zT) (.k (sta .k (.g 24 rfl) (.g 22 rfl) tyT) (.k (asg .k (.g 23 rfl)) .n))))))))))))))))))))))))))) [0,1] [25,26] rfl rfl ?_
   refine Tr.seq (?_)
   refine Tr.share0 (p:=∀ j s,k=j+1→T[j]?=some s→ltT s t) [.b 1 (SP.mesh P T S) 26 3,.s 3 (iv ((k:Nat):Int)),.b 4 (.is (trv t)) 55 3] (fun hr=>?_) (fun H_=>?_)
   ·
    refine Tr.rs [] (.k (ld .k (.b 2 rfl) tyT) (.k (cal .k Tryz.func52 rfl fn_Sides (.k (.g 0 rfl) .n)) (.k (asg .k (.g 1 rfl)) .n))) [0,1] [2] rfl rfl ?_
    refine Tr.rs [] (.k (asg .k .c) .n) [0,1,2] [0] rfl rfl ?_
    refine Tr.block (?_)
    refine Tr.loop (fun n_ F_=>∃ m:Nat,(m≤3∧∀ e∈(edg t).take m,sideOK T S k e)∧n_=3 - m∧F_=[.b 1 (SP.mesh P T S) 26 3,.s 3 (iv ((k:Nat):Int)),.s 6 (svec (edg t)),.s 7 (iv ((m:Nat):Int))]) (3 - 0) (F0:=[.b 1 (SP.mesh P T S) 26 3,.s 3 (iv ((k:Nat):Int)),.s 6 (svec (edg t)),.s 7 (iv ((0:Nat):Int))]) ⟨0,⟨Nat.zero_le _,by simp⟩,rfl,rfl⟩ (Sub.all (.cons 0 rfl (.cons 1 rfl (.cons 2 rfl (.cons 3 rfl .nil))))) (fun n_ F_ hI=>?_)
    obtain ⟨m,hmv,rfl,rfl⟩:=hI
    refine Tr.seq (Tr.rs [] (.k (mv .k (.b 3 rfl)) (.k (lt_ .k (.g 0 rfl) .c rfl) .n)) [0,1,2,3] [1] rfl rfl ?_)
    refine Tr.cond 4 rfl (fun e70=>?_) (fun e70=>?_)
    ·
     have hm2:m < 3:=by have:=of_decide_eq_true e70;omega
     refine Tr.skip (Nx.go (Tr.seq (Tr.block (?_))))
     obtain ⟨e,p2⟩:∃ e,(edg t)[m]?=some e:=⟨_,List.getElem?_eq_getElem (show m < (edg t).length from hm2)⟩;rcases (show leftR T e.1 e.2≠k∨(leftR T e.1 e.2=k∧leftR T e.2 e.1 < 0∧¬ ((e.1,e.2)∈S∨(e.2,e.1)∈S))∨(leftR T e.1 e.2=k∧leftR T e.2 e.1 < 0∧((e.1,e.2)∈S∨(e.2,e.1)∈S))∨(leftR T e.1 e.2=k∧¬ leftR T e.2 e.1 < 0) by by_cases h1:leftR T e.1 e.2=k<;>by_cases h2:leftR T e.2 e.1 < 0<;>by_cases h3:((e.1,e.2)∈S∨(e.2,e.1)∈S)<;>simp only [h1,h2,h3,not_true_eq_false,not_false_eq_true,and_self,and_true,true_and,and_false,false_and,or_true,true_or,or_false,false_or,ne_eq]) with h1|⟨h1,h2,h3⟩|⟨h1,h2,h3⟩|⟨h1,h2⟩
     ·
      rw [chk_left p1 p2 h1]
      refine Tr.seq (Tr.ds hmx [] (.k (faddr .k (.b 0 rfl) rfl fMT) (.k (ldc .k (.g 0 rfl) (.b 0 rfl) tyvT) (.k (mv .k (.b 2 rfl)) (.k (mv .k (.b 3 rfl)) (.k (idx_ .k rwS (.g 2 rfl) (.g 3 rfl) rfl (gm p2)) (.k (fat .k (.g 4 rfl) aSA rfl) (.k (ldc_at .k (.g 5 rfl) tyI) (.k (mv .k (.b 2 rfl)) (.k (mv .k (.b 3 rfl)) (.k (idx_ .k rwS (.g 7 rfl) (.g 8 rfl) rfl (gm p2)) (.k (fat .k (.g 9 rfl) aSB rfl) (.k (ldc_at .k (.g 10 rfl) tyI) (.k (cal .k Tryz.func48 rfl (fn_Left hT) (.k (.g 1 rfl) (.k (.g 6 rfl) (.k (.g 11 rfl) .n)))) (.k (mv .k (.b 1 rfl)) (.k (ne_ .k (.g 12 rfl) (.g 13 rfl) (bne_iff_ne.2 h1)) .n))))))))))))))) [0,1,2,3] [14] rfl rfl ?_)
      refine Tr.cond 4 rfl (fun _=>?_) nofun
      refine Tr.rs [] (.k (asg .k .c) .n) [] [0] rfl rfl ?_
      refine Tr.ret (end_tmp 0 rfl rfl)
     ·
      rw [chk_rim p1 p2 h2 h3]
      refine Tr.seq (Tr.ds hmx [] (.k (faddr .k (.b 0 rfl) rfl fMT) (.k (ldc .k (.g 0 rfl) (.b 0 rfl) tyvT) (.k (mv .k (.b 2 rfl)) (.k (mv .k (.b 3 rfl)) (.k (idx_ .k rwS (.g 2 rfl) (.g 3 rfl) rfl (gm p2)) (.k (fat .k (.g 4 rfl) aSA rfl) (.k (ldc_at .k (.g 5 rfl) tyI) (.k (mv .k (.b 2 rfl)) (.k (mv .k (.b 3 rfl)) (.k (idx_ .k rwS (.g 7 rfl) (.g 8 rfl) rfl (gm p2)) (.k (fat .k (.g 9 rfl) aSB rfl) (.k (ldc_at .k (.g 10 rfl) tyI) (.k (cal .k Tryz.func48 rfl (fn_Left hT) (.k (.g 1 rfl) (.k (.g 6 rfl) (.k (.g 11 rfl) .n)))) (.k (mv .k (.b 1 rfl)) (.k (ne_ .k (.g 12 rfl) (.g 13 rfl) (bne_eq_false_iff_eq.2 h1)) .n))))))))))))))) [0,1,2,3] [14] rfl rfl ?_)
      refine Tr.cond 4 rfl nofun (fun _=>?_)
      refine Tr.skip (Nx.go (Tr.ds hmx [] (.k (faddr .k (.b 0 rfl) rfl fMT) (.k (ldc .k (.g 0 rfl) (.b 0 rfl) tyvT) (.k (mv .k (.b 2 rfl)) (.k (mv .k (.b 3 rfl)) (.k (idx_ .k rwS (.g 2 rfl) (.g 3 rfl) rfl (gm p2)) (.k (fat .k (.g 4 rfl) aSB rfl) (.k (ldc_at .k (.g 5 rfl) tyI) (.k (mv .k (.b 2 rfl)) (.k (mv .k (.b 3 rfl)) (.k (idx_ .k rwS (.g 7 rfl) (.g 8 rfl) rfl (gm p2)) (.k (fat .k (.g 9 rfl) aSA rfl) (.k (ldc_at .k (.g 10 rfl) tyI) (.k (cal .k Tryz.func48 rfl (fn_Left hT) (.k (.g 1 rfl) (.k (.g 6 rfl) (.k (.g 11 rfl) .n)))) (.k (lt_ .k (.g 12 rfl) .c (decide_eq_true h2)) (.k (mv .k (.g 13 rfl)) (.k (faddr (.o 14 rfl rfl rfl) (.b 0 rfl) rfl fMS) (.k (ldc (.o 14 rfl rfl rfl) (.g 15 rfl) (.b 0 rfl) tyvS) (.k (mv (.o 14 rfl rfl rfl) (.b 2 rfl)) (.k (mv (.o 14 rfl rfl rfl) (.b 3 rfl)) (.k (idx_ (.o 14 rfl rfl rfl) rwS (.g 17 rfl) (.g 18 rfl) rfl (gm p2)) (.k (fat (.o 14 rfl rfl rfl) (.g 19 rfl) aSA rfl) (.k (ldc_at (.o 14 rfl rfl rfl) (.g 20 rfl) tyI) (.k (mv (.o 14 rfl rfl rfl) (.b 2 rfl)) (.k (mv (.o 14 rfl rfl rfl) (.b 3 rfl)) (.k (idx_ (.o 14 rfl rfl rfl) rwS (.g 22 rfl) (.g 23 rfl) rfl (gm p2)) (.k (fat (.o 14 rfl rfl rfl) (.g 24 rfl) aSB rfl) (.k (ldc_at (.o 14 rfl rfl rfl) (.g 25 rfl) tyI) (.k (cal (.o 14 rfl rfl rfl) Tryz.func53 rfl (fn_HasF hS h3) (.k (.g 16 rfl) (.k (.g 21 rfl) (.k (.g 26 rfl) .n)))) (.k (not_ (.o 14 rfl rfl rfl) (.g 27 rfl)) (.k (pickT .k (.g 14 rfl) (.g 28 rfl)) .n)))))))))))))))))))))))))))))) [0,1,2,3] [29] rfl rfl ?_))
      refine Tr.cond 4 rfl (fun _=>?_) nofun
      refine Tr.rs [] (.k (asg .k .c) .n) [] [0] rfl rfl ?_
      refine Tr.ret (end_tmp 0 rfl rfl)
     ·
      have hside:sideOK T S k e:=⟨h1,fun _=>h3⟩
      refine Tr.seq (Tr.ds hmx [] (.k (faddr .k (.b 0 rfl) rfl fMT) (.k (ldc .k (.g 0 rfl) (.b 0 rfl) tyvT) (.k (mv .k (.b 2 rfl)) (.k (mv .k (.b 3 rfl)) (.k (idx_ .k rwS (.g 2 rfl) (.g 3 rfl) rfl (gm p2)) (.k (fat .k (.g 4 rfl) aSA rfl) (.k (ldc_at .k (.g 5 rfl) tyI) (.k (mv .k (.b 2 rfl)) (.k (mv .k (.b 3 rfl)) (.k (idx_ .k rwS (.g 7 rfl) (.g 8 rfl) rfl (gm p2)) (.k (fat .k (.g 9 rfl) aSB rfl) (.k (ldc_at .k (.g 10 rfl) tyI) (.k (cal .k Tryz.func48 rfl (fn_Left hT) (.k (.g 1 rfl) (.k (.g 6 rfl) (.k (.g 11 rfl) .n)))) (.k (mv .k (.b 1 rfl)) (.k (ne_ .k (.g 12 rfl) (.g 13 rfl) (bne_eq_false_iff_eq.2 h1)) .n))))))))))))))) [0,1,2,3] [14] rfl rfl ?_)
      refine Tr.cond 4 rfl nofun (fun _=>?_)
      refine Tr.skip (Nx.go (Tr.ds hmx [] (.k (faddr .k (.b 0 rfl) rfl fMT) (.k (ldc .k (.g 0 rfl) (.b 0 rfl) tyvT) (.k (mv .k (.b 2 rfl)) (.k (mv .k (.b 3 rfl)) (.k (idx_ .k rwS (.g 2 rfl) (.g 3 rfl) rfl (gm p2)) (.k (fat .k (.g 4 rfl) aSB rfl) (.k (ldc_at .k (.g 5 rfl) tyI) (.k (mv .k (.b 2 rfl)) (.k (mv .k (.b 3 rfl)) (.k (idx_ .k rwS (.g 7 rfl) (.g 8 rfl) rfl (gm p2)) (.k (fat .k (.g 9 rfl) aSA rfl) (.k (ldc_at .k (.g 10 rfl) tyI) (.k (cal .k Tryz.func48 rfl (fn_Left hT) (.k (.g 1 rfl) (.k (.g 6 rfl) (.k (.g 11 rfl) .n)))) (.k (lt_ .k (.g 12 rfl) .c (decide_eq_true h2)) (.k (mv .k (.g 13 rfl)) (.k (faddr (.o 14 rfl rfl rfl) (.b 0 rfl) rfl fMS) (.k (ldc (.o 14 rfl rfl rfl) (.g 15 rfl) (.b 0 rfl) tyvS) (.k (mv (.o 14 rfl rfl rfl) (.b 2 rfl)) (.k (mv (.o 14 rfl rfl rfl) (.b 3 rfl)) (.k (idx_ (.o 14 rfl rfl rfl) rwS (.g 17 rfl) (.g 18 rfl) rfl (gm p2)) (.k (fat (.o 14 rfl rfl rfl) (.g 19 rfl) aSA rfl) (.k (ldc_at (.o 14 rfl rfl rfl) (.g 20 rfl) tyI) (.k (mv (.o 14 rfl rfl rfl) (.b 2 rfl)) (.k (mv (.o 14 rfl rfl rfl) (.b 3 rfl)) (.k (idx_ (.o 14 rfl rfl rfl) rwS (.g 22 rfl) (.g 23 rfl) rfl (gm p2)) (.k (fat (.o 14 rfl rfl rfl) (.g 24 rfl) aSB rfl) (.k (ldc_at (.o 14 rfl rfl rfl) (.g 25 rfl) tyI) (.k (cal (.o 14 rfl rfl rfl) Tryz.func53 rfl (fn_HasT hS h3) (.k (.g 16 rfl) (.k (.g 21 rfl) (.k (.g 26 rfl) .n)))) (.k (not_ (.o 14 rfl rfl rfl) (.g 27 rfl)) (.k (pickT .k (.g 14 rfl) (.g 28 rfl)) .n)))))))))))))))))))))))))))))) [0,1,2,3] [29] rfl rfl ?_))
      refine Tr.cond 4 rfl nofun (fun _=>?_)
      refine Tr.skip (Nx.bkN (Nx.go (Tr.reg [(3,2)] (.k (mv .k (.b 3 rfl)) (.k (add_ .k (.g 0 rfl) .c (wr1 (by omega))) (.k (asg .k (.g 1 rfl)) .n))) [0,1,2] [2] rfl rfl (Nx.again (3 - (m+1)) (by omega) [.b 1 (SP.mesh P T S) 26 3,.s 3 (iv ((k:Nat):Int)),.s 6 (svec (edg t)),.s 7 (iv (((m+1):Nat):Int))] ⟨(m+1),⟨by omega,all_succ p2 hside hmv.2⟩,rfl,rfl⟩ (Sub.all (.cons 0 rfl (.cons 1 rfl (.cons 2 rfl (.cons 3 rfl .nil)))))))))
     ·
      have hside:sideOK T S k e:=⟨h1,fun h=>absurd h h2⟩
      refine Tr.seq (Tr.ds hmx [] (.k (faddr .k (.b 0 rfl) rfl fMT) (.k (ldc .k (.g 0 rfl) (.b 0 rfl) tyvT) (.k (mv .k (.b 2 rfl)) (.k (mv .k (.b 3 rfl)) (.k (idx_ .k rwS (.g 2 rfl) (.g 3 rfl) rfl (gm p2)) (.k (fat .k (.g 4 rfl) aSA rfl) (.k (ldc_at .k (.g 5 rfl) tyI) (.k (mv .k (.b 2 rfl)) (.k (mv .k (.b 3 rfl)) (.k (idx_ .k rwS (.g 7 rfl) (.g 8 rfl) rfl (gm p2)) (.k (fat .k (.g 9 rfl) aSB rfl) (.k (ldc_at .k (.g 10 rfl) tyI) (.k (cal .k Tryz.func48 rfl (fn_Left hT) (.k (.g 1 rfl) (.k (.g 6 rfl) (.k (.g 11 rfl) .n)))) (.k (mv .k (.b 1 rfl)) (.k (ne_ .k (.g 12 rfl) (.g 13 rfl) (bne_eq_false_iff_eq.2 h1)) .n))))))))))))))) [0,1,2,3] [14] rfl rfl ?_)
      refine Tr.cond 4 rfl nofun (fun _=>?_)
      refine Tr.skip (Nx.go (Tr.ds hmx [] (.k (faddr .k (.b 0 rfl) rfl fMT) (.k (ldc .k (.g 0 rfl) (.b 0 rfl) tyvT) (.k (mv .k (.b 2 rfl)) (.k (mv .k (.b 3 rfl)) (.k (idx_ .k rwS (.g 2 rfl) (.g 3 rfl) rfl (gm p2)) (.k (fat .k (.g 4 rfl) aSB rfl) (.k (ldc_at .k (.g 5 rfl) tyI) (.k (mv .k (.b 2 rfl)) (.k (mv .k (.b 3 rfl)) (.k (idx_ .k rwS (.g 7 rfl) (.g 8 rfl) rfl (gm p2)) (.k (fat .k (.g 9 rfl) aSA rfl) (.k (ldc_at .k (.g 10 rfl) tyI) (.k (cal .k Tryz.func48 rfl (fn_Left hT) (.k (.g 1 rfl) (.k (.g 6 rfl) (.k (.g 11 rfl) .n)))) (.k (lt_ .k (.g 12 rfl) .c (decide_eq_false h2)) (.k (mv .k (.g 13 rfl)) (.k (skp (.o 14 rfl rfl rfl)) (.k (skp (.o 14 rfl rfl rfl)) (.k (skp (.o 14 rfl rfl rfl)) (.k (skp (.o 14 rfl rfl rfl)) (.k (skp (.o 14 rfl rfl rfl)) (.k (skp (.o 14 rfl rfl rfl)) (.k (skp (.o 14 rfl rfl rfl)) (.k (skp (.o 14 rfl rfl rfl)) (.k (skp (.o 14 rfl rfl rfl)) (.k (skp (.o 14 rfl rfl rfl)) (.k (skp (.o 14 rfl rfl rfl)) (.k (skp (.o 14 rfl rfl rfl)) (.k (skp (.o 14 rfl rfl rfl)) (.k (skp (.o 14 rfl rfl rfl)) (.k (pickF .k (.g 14 rfl) .c) .n)))))))))))))))))))))))))))))) [0,1,2,3] [29] rfl rfl ?_))
      refine Tr.cond 4 rfl nofun (fun _=>?_)
      refine Tr.skip (Nx.bkN (Nx.go (Tr.reg [(3,2)] (.k (mv .k (.b 3 rfl)) (.k (add_ .k (.g 0 rfl) .c (wr1 (by omega))) (.k (asg .k (.g 1 rfl)) .n))) [0,1,2] [2] rfl rfl (Nx.again (3 - (m+1)) (by omega) [.b 1 (SP.mesh P T S) 26 3,.s 3 (iv ((k:Nat):Int)),.s 6 (svec (edg t)),.s 7 (iv (((m+1):Nat):Int))] ⟨(m+1),⟨by omega,all_succ p2 hside hmv.2⟩,rfl,rfl⟩ (Sub.all (.cons 0 rfl (.cons 1 rfl (.cons 2 rfl (.cons 3 rfl .nil)))))))))
    ·
     obtain rfl:m=3:=by have:=of_decide_eq_false e70;omega
     refine Tr.exit (Nx.thX (Nx.thX (Nx.bkX (Nx.bkN (Nx.go (Tr.reg [(1,2)] (.k (mv .k (.b 1 rfl)) (.k (add_ .k (.g 0 rfl) .c (wr1 (by omega))) (.k (asg .k (.g 1 rfl)) .n))) [0] [2] rfl rfl (Nx.again (T.length - (k+1)) (by omega) [.b 1 (SP.mesh P T S) 26 3,.s 3 (iv (((k+1):Nat):Int))] ⟨(k+1),hinv.succ p1 (chk_good (oP_ori P) he) hr hmv.2,rfl,rfl⟩ (Sub.all (.cons 0 rfl (.cons 1 rfl .nil))))))))))
   ·
    rcases prev_ways ltT p1 with hk0|⟨j,s,hj,q1,hno⟩|⟨j,s,hj,q1,hlt1⟩
    ·
     have hr:=prev_zero (R:=ltT) (l:=T) (t:=t) hk0
     refine Tr.ds hmx [] (.k (mv .k (.b 3 rfl)) (.k (not_ .k (.g 0 rfl)) (.k (mv .k (.g 1 rfl)) (.k (ld (.o 2 rfl rfl rfl) (.b 2 rfl) tyT) (.k (faddr (.o 2 rfl rfl rfl) (.b 0 rfl) rfl fMT) (.k (ldc (.o 2 rfl rfl rfl) (.g 4 rfl) (.b 0 rfl) tyvT) (.k (mv (.o 2 rfl rfl rfl) (.b 1 rfl)) (.k (idx_ (.o 2 rfl rfl rfl) rwT (.g 5 rfl) (.g 6 rfl) rfl (gm p1)) (.k (ld_at (.o 2 rfl rfl rfl) (.g 7 rfl) tyT rfl (show _=trv (_,_,_) from rfl)) (.k (neS_ (.o 2 rfl rfl rfl) tG (.g 3 rfl) (.g 8 rfl) (eqTr _ _) (tr_eq _)) (.k (pickF .k (.g 2 rfl) (.g 9 rfl)) (.k (mv .k (.g 10 rfl)) (.k (mv (.o 11 rfl rfl rfl) (.b 1 rfl)) (.k (gt_ (.o 11 rfl rfl rfl) (.g 12 rfl) .c (dF (by omega))) (.k (mv (.o 11 rfl rfl rfl) (.g 13 rfl)) (.k (skp (.o 14 rfl rfl rfl)) (.k (skp (.o 14 rfl rfl rfl)) (.k (skp (.o 14 rfl rfl rfl)) (.k (skp (.o 14 rfl rfl rfl)) (.k (skp (.o 14 rfl rfl rfl)) (.k (skp (.o 14 rfl rfl rfl)) (.k (skp (.o 14 rfl rfl rfl)) (.k (skp (.o 14 rfl rfl rfl)) (.k (skp (.o 14 rfl rfl rfl)) (.k (pickF (.o 11 rfl rfl rfl) (.g 14 rfl) .c) (.k (pickF .k (.g 11 rfl) (.g 24 rfl)) .n)))))))))))))))))))))))))) [0,1,2] [25] rfl rfl ?_
     refine Tr.cond 3 rfl nofun (fun _=>?_)
     refine Tr.skip (Nx.go (Tr.sub (Sub.all (.cons 0 rfl (.cons 1 rfl (.cons 2 rfl .nil)))) (H_ hr)))
    ·
     rw [chk_ris q1 (hj ▸ p1) hno]
     refine Tr.ds hmx [] (.k (mv .k (.b 3 rfl)) (.k (not_ .k (.g 0 rfl)) (.k (mv .k (.g 1 rfl)) (.k (ld (.o 2 rfl rfl rfl) (.b 2 rfl) tyT) (.k (faddr (.o 2 rfl rfl rfl) (.b 0 rfl) rfl fMT) (.k (ldc (.o 2 rfl rfl rfl) (.g 4 rfl) (.b 0 rfl) tyvT) (.k (mv (.o 2 rfl rfl rfl) (.b 1 rfl)) (.k (idx_ (.o 2 rfl rfl rfl) rwT (.g 5 rfl) (.g 6 rfl) rfl (gm p1)) (.k (ld_at (.o 2 rfl rfl rfl) (.g 7 rfl) tyT rfl (show _=trv (_,_,_) from rfl)) (.k (neS_ (.o 2 rfl rfl rfl) tG (.g 3 rfl) (.g 8 rfl) (eqTr _ _) (tr_eq _)) (.k (pickF .k (.g 2 rfl) (.g 9 rfl)) (.k (mv .k (.g 10 rfl)) (.k (mv (.o 11 rfl rfl rfl) (.b 1 rfl)) (.k (gt_ (.o 11 rfl rfl rfl) (.g 12 rfl) .c (dT (by omega))) (.k (mv (.o 11 rfl rfl rfl) (.g 13 rfl)) (.k (faddr (.o 14 rfl rfl rfl) (.b 0 rfl) rfl fMT) (.k (ldc (.o 14 rfl rfl rfl) (.g 15 rfl) (.b 0 rfl) tyvT) (.k (mv (.o 14 rfl rfl rfl) (.b 1 rfl)) (.k (sub_ (.o 14 rfl rfl rfl) (.g 17 rfl) .c (show IntKind.i64.wrap ((k:Int) - 1)=((j:Nat):Int) by rw [IntWalk.i64_in _ (by omega)];omega)) (.k (idx_ (.o 14 rfl rfl rfl) rwT (.g 16 rfl) (.g 18 rfl) rfl (gm q1)) (.k (ld_at (.o 14 rfl rfl rfl) (.g 19 rfl) tyT rfl (show _=trv (_,_,_) from rfl)) (.k (ld (.o 14 rfl rfl rfl) (.b 2 rfl) tyT) (.k (cal (.o 14 rfl rfl rfl) Tryz.func51 rfl (fn_beforeF hno) (.k (.g 20 rfl) (.k (.g 21 rfl) .n))) (.k (not_ (.o 14 rfl rfl rfl) (.g 22 rfl)) (.k (pickT (.o 11 rfl rfl rfl) (.g 14 rfl) (.g 23 rfl)) (.k (pickF .k (.g 11 rfl) (.g 24 rfl)) .n)))))))))))))))))))))))))) [0,1,2] [25] rfl rfl ?_
     refine Tr.cond 3 rfl (fun _=>?_) nofun
     refine Tr.rs [] (.k (asg .k .c) .n) [] [0] rfl rfl ?_
     refine Tr.ret (end_tmp 0 rfl rfl)
    ·
     have hr:=prev_one (R:=ltT) hj q1 hlt1
     refine Tr.ds hmx [] (.k (mv .k (.b 3 rfl)) (.k (not_ .k (.g 0 rfl)) (.k (mv .k (.g 1 rfl)) (.k (ld (.o 2 rfl rfl rfl) (.b 2 rfl) tyT) (.k (faddr (.o 2 rfl rfl rfl) (.b 0 rfl) rfl fMT) (.k (ldc (.o 2 rfl rfl rfl) (.g 4 rfl) (.b 0 rfl) tyvT) (.k (mv (.o 2 rfl rfl rfl) (.b 1 rfl)) (.k (idx_ (.o 2 rfl rfl rfl) rwT (.g 5 rfl) (.g 6 rfl) rfl (gm p1)) (.k (ld_at (.o 2 rfl rfl rfl) (.g 7 rfl) tyT rfl (show _=trv (_,_,_) from rfl)) (.k (neS_ (.o 2 rfl rfl rfl) tG (.g 3 rfl) (.g 8 rfl) (eqTr _ _) (tr_eq _)) (.k (pickF .k (.g 2 rfl) (.g 9 rfl)) (.k (mv .k (.g 10 rfl)) (.k (mv (.o 11 rfl rfl rfl) (.b 1 rfl)) (.k (gt_ (.o 11 rfl rfl rfl) (.g 12 rfl) .c (dT (by omega))) (.k (mv (.o 11 rfl rfl rfl) (.g 13 rfl)) (.k (faddr (.o 14 rfl rfl rfl) (.b 0 rfl) rfl fMT) (.k (ldc (.o 14 rfl rfl rfl) (.g 15 rfl) (.b 0 rfl) tyvT) (.k (mv (.o 14 rfl rfl rfl) (.b 1 rfl)) (.k (sub_ (.o 14 rfl rfl rfl) (.g 17 rfl) .c (show IntKind.i64.wrap ((k:Int) - 1)=((j:Nat):Int) by rw [IntWalk.i64_in _ (by omega)];omega)) (.k (idx_ (.o 14 rfl rfl rfl) rwT (.g 16 rfl) (.g 18 rfl) rfl (gm q1)) (.k (ld_at (.o 14 rfl rfl rfl) (.g 19 rfl) tyT rfl (show _=trv (_,_,_) from rfl)) (.k (ld (.o 14 rfl rfl rfl) (.b 2 rfl) tyT) (.k (cal (.o 14 rfl rfl rfl) Tryz.func51 rfl (fn_beforeT hlt1) (.k (.g 20 rfl) (.k (.g 21 rfl) .n))) (.k (not_ (.o 14 rfl rfl rfl) (.g 22 rfl)) (.k (pickT (.o 11 rfl rfl rfl) (.g 14 rfl) (.g 23 rfl)) (.k (pickF .k (.g 11 rfl) (.g 24 rfl)) .n)))))))))))))))))))))))))) [0,1,2] [25] rfl rfl ?_
     refine Tr.cond 3 rfl nofun (fun _=>?_)
     refine Tr.skip (Nx.go (Tr.sub (Sub.all (.cons 0 rfl (.cons 1 rfl (.cons 2 rfl .nil)))) (H_ hr)))
 ·
  obtain rfl:k=T.length:=by have:=of_decide_eq_false e14;have:=hinv.le;omega
  refine Tr.exit (Nx.thX (Nx.thX (Nx.bkX (Nx.go (Tr.seq (Tr.rs [] (.k (asg .k .c) .n) [0] [0] rfl rfl ?_))))))
  refine Tr.block (?_)
  refine Tr.loop (fun n_ F_=>∃ i:Nat,(ChkB T S i)∧n_=S.length - i∧F_=[.b 1 (SP.mesh P T S) 26 3,.s 8 (iv ((i:Nat):Int))]) (S.length - 0) (F0:=[.b 1 (SP.mesh P T S) 26 3,.s 8 (iv ((0:Nat):Int))]) ⟨0,ChkB.zero,rfl,rfl⟩ (Sub.all (.cons 0 rfl (.cons 1 rfl .nil))) (fun n_ F_ hI=>?_)
  obtain ⟨i,hB,rfl,rfl⟩:=hI
  refine Tr.seq (Tr.rs [] (.k (mv .k (.b 1 rfl)) (.k (faddr .k (.b 0 rfl) rfl fMS) (.k (ldc .k (.g 1 rfl) (.b 0 rfl) tyvS) (.k (len_ .k rwS (.g 2 rfl) (by rw [List.length_map])) (.k (lt_ .k (.g 0 rfl) (.g 3 rfl) rfl) .n))))) [0,1] [4] rfl rfl ?_)
  refine Tr.cond 2 rfl (fun e122=>?_) (fun e122=>?_)
  ·
   have hi2:i < S.length:=by have:=of_decide_eq_true e122;omega
   refine Tr.skip (Nx.go (Tr.seq (Tr.block (?_))))
   obtain ⟨s,p3⟩:∃ s,S[i]?=some s:=⟨_,List.getElem?_eq_getElem hi2⟩
   refine Tr.rs [] (.k (faddr .k (.b 0 rfl) rfl fMS) (.k (ldc .k (.g 0 rfl) (.b 0 rfl) tyvS) (.k (mv .k (.b 1 rfl)) (.k (idx_ .k rwS (.g 1 rfl) (.g 2 rfl) rfl (gm p3)) (.k (ld_at .k (.g 3 rfl) tyS rfl (show _=sgv (_,_) from rfl)) (.k (ala .k zS) (.k (sta .k (.g 5 rfl) (.g 4 rfl) tyS) .n))))))) [0,1] [6] rfl rfl ?_
   refine Tr.seq (?_)
   refine Tr.share0 (p:=s.1 < s.2∧∀ j u,i=j+1→S[j]?=some u→ltS u s) [.b 1 (SP.mesh P T S) 26 3,.s 8 (iv ((i:Nat):Int)),.b 9 (.is (sgv s)) 28 2] (fun ⟨hlt,hr⟩=>?_) (fun H_=>?_)
   ·
    rcases (show (leftR T s.1 s.2 < 0∧leftR T s.2 s.1 < 0)∨(leftR T s.1 s.2 < 0∧¬ leftR T s.2 s.1 < 0)∨¬ leftR T s.1 s.2 < 0 by omega) with ⟨l1,l2⟩|⟨l1,l2⟩|l1
    ·
     rw [chk_seg p3 (.inr ⟨l1,l2⟩)]
     refine Tr.rs [] (.k (faddr .k (.b 0 rfl) rfl fMT) (.k (ldc .k (.g 0 rfl) (.b 0 rfl) tyvT) (.k (faddr .k (.b 2 rfl) rfl fSA) (.k (ldc .k (.g 2 rfl) (.b 2 rfl) tyI) (.k (faddr .k (.b 2 rfl) rfl fSB) (.k (ldc .k (.g 4 rfl) (.b 2 rfl) tyI) (.k (cal .k Tryz.func48 rfl (fn_Left hT) (.k (.g 1 rfl) (.k (.g 3 rfl) (.k (.g 5 rfl) .n)))) (.k (lt_ .k (.g 6 rfl) .c (decide_eq_true l1)) (.k (mv .k (.g 7 rfl)) (.k (faddr (.o 8 rfl rfl rfl) (.b 0 rfl) rfl fMT) (.k (ldc (.o 8 rfl rfl rfl) (.g 9 rfl) (.b 0 rfl) tyvT) (.k (faddr (.o 8 rfl rfl rfl) (.b 2 rfl) rfl fSB) (.k (ldc (.o 8 rfl rfl rfl) (.g 11 rfl) (.b 2 rfl) tyI) (.k (faddr (.o 8 rfl rfl rfl) (.b 2 rfl) rfl fSA) (.k (ldc (.o 8 rfl rfl rfl) (.g 13 rfl) (.b 2 rfl) tyI) (.k (cal (.o 8 rfl rfl rfl) Tryz.func48 rfl (fn_Left hT) (.k (.g 10 rfl) (.k (.g 12 rfl) (.k (.g 14 rfl) .n)))) (.k (lt_ (.o 8 rfl rfl rfl) (.g 15 rfl) .c (decide_eq_true l2)) (.k (pickT .k (.g 8 rfl) (.g 16 rfl)) .n)))))))))))))))))) [0,1] [17] rfl rfl ?_
     refine Tr.cond 2 rfl (fun _=>?_) nofun
     refine Tr.rs [] (.k (asg .k .c) .n) [] [0] rfl rfl ?_
     refine Tr.ret (end_tmp 0 rfl rfl)
    ·
     have hnl:¬ (leftR T s.1 s.2 < 0∧leftR T s.2 s.1 < 0):=fun h=>l2 h.2
     refine Tr.rs [] (.k (faddr .k (.b 0 rfl) rfl fMT) (.k (ldc .k (.g 0 rfl) (.b 0 rfl) tyvT) (.k (faddr .k (.b 2 rfl) rfl fSA) (.k (ldc .k (.g 2 rfl) (.b 2 rfl) tyI) (.k (faddr .k (.b 2 rfl) rfl fSB) (.k (ldc .k (.g 4 rfl) (.b 2 rfl) tyI) (.k (cal .k Tryz.func48 rfl (fn_Left hT) (.k (.g 1 rfl) (.k (.g 3 rfl) (.k (.g 5 rfl) .n)))) (.k (lt_ .k (.g 6 rfl) .c (decide_eq_true l1)) (.k (mv .k (.g 7 rfl)) (.k (faddr (.o 8 rfl rfl rfl) (.b 0 rfl) rfl fMT) (.k (ldc (.o 8 rfl rfl rfl) (.g 9 rfl) (.b 0 rfl) tyvT) (.k (faddr (.o 8 rfl rfl rfl) (.b 2 rfl) rfl fSB) (.k (ldc (.o 8 rfl rfl rfl) (.g 11 rfl) (.b 2 rfl) tyI) (.k (faddr (.o 8 rfl rfl rfl) (.b 2 rfl) rfl fSA) (.k (ldc (.o 8 rfl rfl rfl) (.g 13 rfl) (.b 2 rfl) tyI) (.k (cal (.o 8 rfl rfl rfl) Tryz.func48 rfl (fn_Left hT) (.k (.g 10 rfl) (.k (.g 12 rfl) (.k (.g 14 rfl) .n)))) (.k (lt_ (.o 8 rfl rfl rfl) (.g 15 rfl) .c (decide_eq_false l2)) (.k (pickT .k (.g 8 rfl) (.g 16 rfl)) .n)))))))))))))))))) [0,1] [17] rfl rfl ?_
     refine Tr.cond 2 rfl nofun (fun _=>?_)
     refine Tr.skip (Nx.bkN (Nx.go (Tr.reg [(1,2)] (.k (mv .k (.b 1 rfl)) (.k (add_ .k (.g 0 rfl) .c (wr1 (by omega))) (.k (asg .k (.g 1 rfl)) .n))) [0] [2] rfl rfl (Nx.again (S.length - (i+1)) (by omega) [.b 1 (SP.mesh P T S) 26 3,.s 8 (iv (((i+1):Nat):Int))] ⟨(i+1),hB.succ p3 ⟨hlt,hnl⟩ hr,rfl,rfl⟩ (Sub.all (.cons 0 rfl (.cons 1 rfl .nil)))))))
    ·
     have hnl:¬ (leftR T s.1 s.2 < 0∧leftR T s.2 s.1 < 0):=fun h=>l1 h.1
     refine Tr.rs [] (.k (faddr .k (.b 0 rfl) rfl fMT) (.k (ldc .k (.g 0 rfl) (.b 0 rfl) tyvT) (.k (faddr .k (.b 2 rfl) rfl fSA) (.k (ldc .k (.g 2 rfl) (.b 2 rfl) tyI) (.k (faddr .k (.b 2 rfl) rfl fSB) (.k (ldc .k (.g 4 rfl) (.b 2 rfl) tyI) (.k (cal .k Tryz.func48 rfl (fn_Left hT) (.k (.g 1 rfl) (.k (.g 3 rfl) (.k (.g 5 rfl) .n)))) (.k (lt_ .k (.g 6 rfl) .c (decide_eq_false l1)) (.k (mv .k (.g 7 rfl)) (.k (skp (.o 8 rfl rfl rfl)) (.k (skp (.o 8 rfl rfl rfl)) (.k (skp (.o 8 rfl rfl rfl)) (.k (skp (.o 8 rfl rfl rfl)) (.k (skp (.o 8 rfl rfl rfl)) (.k (skp (.o 8 rfl rfl rfl)) (.k (skp (.o 8 rfl rfl rfl)) (.k (skp (.o 8 rfl rfl rfl)) (.k (pickF .k (.g 8 rfl) .c) .n)))))))))))))))))) [0,1] [17] rfl rfl ?_
     refine Tr.cond 2 rfl nofun (fun _=>?_)
     refine Tr.skip (Nx.bkN (Nx.go (Tr.reg [(1,2)] (.k (mv .k (.b 1 rfl)) (.k (add_ .k (.g 0 rfl) .c (wr1 (by omega))) (.k (asg .k (.g 1 rfl)) .n))) [0] [2] rfl rfl (Nx.again (S.length - (i+1)) (by omega) [.b 1 (SP.mesh P T S) 26 3,.s 8 (iv (((i+1):Nat):Int))] ⟨(i+1),hB.succ p3 ⟨hlt,hnl⟩ hr,rfl,rfl⟩ (Sub.all (.cons 0 rfl (.cons 1 rfl .nil)))))))
   ·
    rcases (show (¬ s.1 < s.2)∨(s.1 < s.2∧i=0)∨(s.1 < s.2∧∃ (j:Nat) (u:Int × Int),i=j+1∧S[j]?=some u∧u.1 > s.1)∨(s.1 < s.2∧∃ (j:Nat) (u:Int × Int),i=j+1∧S[j]?=some u∧u.1=s.1∧u.2 ≥ s.2)∨(s.1 < s.2∧∃ (j:Nat) (u:Int × Int),i=j+1∧S[j]?=some u∧u.1=s.1∧u.2 < s.2)∨(s.1 < s.2∧∃ (j:Nat) (u:Int × Int),i=j+1∧S[j]?=some u∧u.1 < s.1) from sgs_ways p3) with hge|⟨hlt,hi0⟩|⟨hlt,j,u,hj,q1,h1⟩|⟨hlt,j,u,hj,q1,h1,h2⟩|⟨hlt,j,u,hj,q1,h1,h2⟩|⟨hlt,j,u,hj,q1,h1⟩
    ·
     rw [chk_seg p3 (.inl hge)]
     refine Tr.ds hmx [] (.k (faddr .k (.b 2 rfl) rfl fSA) (.k (ldc .k (.g 0 rfl) (.b 2 rfl) tyI) (.k (faddr .k (.b 2 rfl) rfl fSB) (.k (ldc .k (.g 2 rfl) (.b 2 rfl) tyI) (.k (ge_ .k (.g 1 rfl) (.g 3 rfl) (dT (by omega))) (.k (mv .k (.g 4 rfl)) (.k (skp (.o 5 rfl rfl rfl)) (.k (skp (.o 5 rfl rfl rfl)) (.k (skpu (.o 5 rfl rfl rfl)) (.k (skpn (.g 8 rfl) rfl) (.k (skpn (.g 8 rfl) rfl) (.k (skpn (.g 8 rfl) rfl) (.k (skpn (.g 8 rfl) rfl) (.k (skpn (.g 8 rfl) rfl) (.k (skpn (.g 8 rfl) rfl) (.k (skpn (.g 8 rfl) rfl) (.k (skpn (.g 8 rfl) rfl) (.k (skpn (.g 8 rfl) rfl) (.k (skpn (.g 8 rfl) rfl) (.k (skpnu (.g 8 rfl) rfl) (.k (skpn (.g 19 rfl) rfl) (.k (skpn (.g 19 rfl) rfl) (.k (skpn (.g 19 rfl) rfl) (.k (skpn (.g 19 rfl) rfl) (.k (skpn (.g 19 rfl) rfl) (.k (skpn (.g 19 rfl) rfl) (.k (skpn (.g 19 rfl) rfl) (.k (skpn (.g 19 rfl) rfl) (.k (skpn (.g 19 rfl) rfl) (.k (skpn (.g 19 rfl) rfl) (.k (skpnu (.g 19 rfl) rfl) (.k (skpn (.g 30 rfl) rfl) (.k (skpn (.g 30 rfl) rfl) (.k (skpn (.g 30 rfl) rfl) (.k (skpn (.g 30 rfl) rfl) (.k (skpn (.g 30 rfl) rfl) (.k (skpn (.g 30 rfl) rfl) (.k (skpn (.g 30 rfl) rfl) (.k (skpn (.g 30 rfl) rfl) (.k (skpn (.g 30 rfl) rfl) (.k (skpn (.g 30 rfl) rfl) (.k (skpn (.g 19 rfl) rfl) (.k (skpn (.g 8 rfl) rfl) (.k (skp (.o 5 rfl rfl rfl)) (.k (pickT .k (.g 5 rfl) .c) .n))))))))))))))))))))))))))))))))))))))))))))) [0,1,2] [44] rfl rfl ?_
     refine Tr.cond 3 rfl (fun _=>?_) nofun
     refine Tr.rs [] (.k (asg .k .c) .n) [] [0] rfl rfl ?_
     refine Tr.ret (end_tmp 0 rfl rfl)
    ·
     have hr:=prev_zero (R:=ltS) (l:=S) (t:=s) hi0
     refine Tr.ds hmx [] (.k (faddr .k (.b 2 rfl) rfl fSA) (.k (ldc .k (.g 0 rfl) (.b 2 rfl) tyI) (.k (faddr .k (.b 2 rfl) rfl fSB) (.k (ldc .k (.g 2 rfl) (.b 2 rfl) tyI) (.k (ge_ .k (.g 1 rfl) (.g 3 rfl) (dF (by omega))) (.k (mv .k (.g 4 rfl)) (.k (mv (.o 5 rfl rfl rfl) (.b 1 rfl)) (.k (gt_ (.o 5 rfl rfl rfl) (.g 6 rfl) .c (dF (by omega))) (.k (mv (.o 5 rfl rfl rfl) (.g 7 rfl)) (.k (skp (.o 8 rfl rfl rfl)) (.k (skp (.o 8 rfl rfl rfl)) (.k (skp (.o 8 rfl rfl rfl)) (.k (skp (.o 8 rfl rfl rfl)) (.k (skp (.o 8 rfl rfl rfl)) (.k (skp (.o 8 rfl rfl rfl)) (.k (skp (.o 8 rfl rfl rfl)) (.k (skp (.o 8 rfl rfl rfl)) (.k (skp (.o 8 rfl rfl rfl)) (.k (skp (.o 8 rfl rfl rfl)) (.k (skpu (.o 8 rfl rfl rfl)) (.k (skpn (.g 19 rfl) rfl) (.k (skpn (.g 19 rfl) rfl) (.k (skpn (.g 19 rfl) rfl) (.k (skpn (.g 19 rfl) rfl) (.k (skpn (.g 19 rfl) rfl) (.k (skpn (.g 19 rfl) rfl) (.k (skpn (.g 19 rfl) rfl) (.k (skpn (.g 19 rfl) rfl) (.k (skpn (.g 19 rfl) rfl) (.k (skpn (.g 19 rfl) rfl) (.k (skpnu (.g 19 rfl) rfl) (.k (skpn (.g 30 rfl) rfl) (.k (skpn (.g 30 rfl) rfl) (.k (skpn (.g 30 rfl) rfl) (.k (skpn (.g 30 rfl) rfl) (.k (skpn (.g 30 rfl) rfl) (.k (skpn (.g 30 rfl) rfl) (.k (skpn (.g 30 rfl) rfl) (.k (skpn (.g 30 rfl) rfl) (.k (skpn (.g 30 rfl) rfl) (.k (skpn (.g 30 rfl) rfl) (.k (skpn (.g 19 rfl) rfl) (.k (skp (.o 8 rfl rfl rfl)) (.k (pickF (.o 5 rfl rfl rfl) (.g 8 rfl) .c) (.k (pickF .k (.g 5 rfl) (.g 43 rfl)) .n))))))))))))))))))))))))))))))))))))))))))))) [0,1,2] [44] rfl rfl ?_
     refine Tr.cond 3 rfl nofun (fun _=>?_)
     refine Tr.skip (Nx.go (Tr.sub (Sub.all (.cons 0 rfl (.cons 1 rfl (.cons 2 rfl .nil)))) (H_ ⟨hlt,hr⟩)))
    ·
     rw [chk_segs q1 (hj ▸ p3) (show ¬ ltS u s by unfold ltS;omega)]
     refine Tr.ds hmx [] (.k (faddr .k (.b 2 rfl) rfl fSA) (.k (ldc .k (.g 0 rfl) (.b 2 rfl) tyI) (.k (faddr .k (.b 2 rfl) rfl fSB) (.k (ldc .k (.g 2 rfl) (.b 2 rfl) tyI) (.k (ge_ .k (.g 1 rfl) (.g 3 rfl) (dF (by omega))) (.k (mv .k (.g 4 rfl)) (.k (mv (.o 5 rfl rfl rfl) (.b 1 rfl)) (.k (gt_ (.o 5 rfl rfl rfl) (.g 6 rfl) .c (dT (by omega))) (.k (mv (.o 5 rfl rfl rfl) (.g 7 rfl)) (.k (faddr (.o 8 rfl rfl rfl) (.b 0 rfl) rfl fMS) (.k (ldc (.o 8 rfl rfl rfl) (.g 9 rfl) (.b 0 rfl) tyvS) (.k (mv (.o 8 rfl rfl rfl) (.b 1 rfl)) (.k (sub_ (.o 8 rfl rfl rfl) (.g 11 rfl) .c (show IntKind.i64.wrap ((i:Int) - 1)=((j:Nat):Int) by rw [IntWalk.i64_in _ (by omega)];omega)) (.k (idx_ (.o 8 rfl rfl rfl) rwS (.g 10 rfl) (.g 12 rfl) rfl (gm q1)) (.k (fat (.o 8 rfl rfl rfl) (.g 13 rfl) aSA rfl) (.k (ldc_at (.o 8 rfl rfl rfl) (.g 14 rfl) tyI) (.k (faddr (.o 8 rfl rfl rfl) (.b 2 rfl) rfl fSA) (.k (ldc (.o 8 rfl rfl rfl) (.g 16 rfl) (.b 2 rfl) tyI) (.k (gt_ (.o 8 rfl rfl rfl) (.g 15 rfl) (.g 17 rfl) (decide_eq_true h1)) (.k (mv (.o 8 rfl rfl rfl) (.g 18 rfl)) (.k (skp (.o 19 rfl rfl rfl)) (.k (skp (.o 19 rfl rfl rfl)) (.k (skp (.o 19 rfl rfl rfl)) (.k (skp (.o 19 rfl rfl rfl)) (.k (skp (.o 19 rfl rfl rfl)) (.k (skp (.o 19 rfl rfl rfl)) (.k (skp (.o 19 rfl rfl rfl)) (.k (skp (.o 19 rfl rfl rfl)) (.k (skp (.o 19 rfl rfl rfl)) (.k (skp (.o 19 rfl rfl rfl)) (.k (skpu (.o 19 rfl rfl rfl)) (.k (skpn (.g 30 rfl) rfl) (.k (skpn (.g 30 rfl) rfl) (.k (skpn (.g 30 rfl) rfl) (.k (skpn (.g 30 rfl) rfl) (.k (skpn (.g 30 rfl) rfl) (.k (skpn (.g 30 rfl) rfl) (.k (skpn (.g 30 rfl) rfl) (.k (skpn (.g 30 rfl) rfl) (.k (skpn (.g 30 rfl) rfl) (.k (skpn (.g 30 rfl) rfl) (.k (skp (.o 19 rfl rfl rfl)) (.k (pickT (.o 8 rfl rfl rfl) (.g 19 rfl) .c) (.k (pickT (.o 5 rfl rfl rfl) (.g 8 rfl) (.g 42 rfl)) (.k (pickF .k (.g 5 rfl) (.g 43 rfl)) .n))))))))))))))))))))))))))))))))))))))))))))) [0,1,2] [44] rfl rfl ?_
     refine Tr.cond 3 rfl (fun _=>?_) nofun
     refine Tr.rs [] (.k (asg .k .c) .n) [] [0] rfl rfl ?_
     refine Tr.ret (end_tmp 0 rfl rfl)
    ·
     rw [chk_segs q1 (hj ▸ p3) (show ¬ ltS u s by unfold ltS;omega)]
     refine Tr.ds hmx [] (.k (faddr .k (.b 2 rfl) rfl fSA) (.k (ldc .k (.g 0 rfl) (.b 2 rfl) tyI) (.k (faddr .k (.b 2 rfl) rfl fSB) (.k (ldc .k (.g 2 rfl) (.b 2 rfl) tyI) (.k (ge_ .k (.g 1 rfl) (.g 3 rfl) (dF (by omega))) (.k (mv .k (.g 4 rfl)) (.k (mv (.o 5 rfl rfl rfl) (.b 1 rfl)) (.k (gt_ (.o 5 rfl rfl rfl) (.g 6 rfl) .c (dT (by omega))) (.k (mv (.o 5 rfl rfl rfl) (.g 7 rfl)) (.k (faddr (.o 8 rfl rfl rfl) (.b 0 rfl) rfl fMS) (.k (ldc (.o 8 rfl rfl rfl) (.g 9 rfl) (.b 0 rfl) tyvS) (.k (mv (.o 8 rfl rfl rfl) (.b 1 rfl)) (.k (sub_ (.o 8 rfl rfl rfl) (.g 11 rfl) .c (show IntKind.i64.wrap ((i:Int) - 1)=((j:Nat):Int) by rw [IntWalk.i64_in _ (by omega)];omega)) (.k (idx_ (.o 8 rfl rfl rfl) rwS (.g 10 rfl) (.g 12 rfl) rfl (gm q1)) (.k (fat (.o 8 rfl rfl rfl) (.g 13 rfl) aSA rfl) (.k (ldc_at (.o 8 rfl rfl rfl) (.g 14 rfl) tyI) (.k (faddr (.o 8 rfl rfl rfl) (.b 2 rfl) rfl fSA) (.k (ldc (.o 8 rfl rfl rfl) (.g 16 rfl) (.b 2 rfl) tyI) (.k (gt_ (.o 8 rfl rfl rfl) (.g 15 rfl) (.g 17 rfl) (dF (by omega))) (.k (mv (.o 8 rfl rfl rfl) (.g 18 rfl)) (.k (faddr (.o 19 rfl rfl rfl) (.b 0 rfl) rfl fMS) (.k (ldc (.o 19 rfl rfl rfl) (.g 20 rfl) (.b 0 rfl) tyvS) (.k (mv (.o 19 rfl rfl rfl) (.b 1 rfl)) (.k (sub_ (.o 19 rfl rfl rfl) (.g 22 rfl) .c (show IntKind.i64.wrap ((i:Int) - 1)=((j:Nat):Int) by rw [IntWalk.i64_in _ (by omega)];omega)) (.k (idx_ (.o 19 rfl rfl rfl) rwS (.g 21 rfl) (.g 23 rfl) rfl (gm q1)) (.k (fat (.o 19 rfl rfl rfl) (.g 24 rfl) aSA rfl) (.k (ldc_at (.o 19 rfl rfl rfl) (.g 25 rfl) tyI) (.k (faddr (.o 19 rfl rfl rfl) (.b 2 rfl) rfl fSA) (.k (ldc (.o 19 rfl rfl rfl) (.g 27 rfl) (.b 2 rfl) tyI) (.k (eq_ (.o 19 rfl rfl rfl) (.g 26 rfl) (.g 28 rfl) (beq_iff_eq.2 h1)) (.k (mv (.o 19 rfl rfl rfl) (.g 29 rfl)) (.k (faddr (.o 30 rfl rfl rfl) (.b 0 rfl) rfl fMS) (.k (ldc (.o 30 rfl rfl rfl) (.g 31 rfl) (.b 0 rfl) tyvS) (.k (mv (.o 30 rfl rfl rfl) (.b 1 rfl)) (.k (sub_ (.o 30 rfl rfl rfl) (.g 33 rfl) .c (show IntKind.i64.wrap ((i:Int) - 1)=((j:Nat):Int) by rw [IntWalk.i64_in _ (by omega)];omega)) (.k (idx_ (.o 30 rfl rfl rfl) rwS (.g 32 rfl) (.g 34 rfl) rfl (gm q1)) (.k (fat (.o 30 rfl rfl rfl) (.g 35 rfl) aSB rfl) (.k (ldc_at (.o 30 rfl rfl rfl) (.g 36 rfl) tyI) (.k (faddr (.o 30 rfl rfl rfl) (.b 2 rfl) rfl fSB) (.k (ldc (.o 30 rfl rfl rfl) (.g 38 rfl) (.b 2 rfl) tyI) (.k (ge_ (.o 30 rfl rfl rfl) (.g 37 rfl) (.g 39 rfl) (decide_eq_true h2)) (.k (pickT (.o 19 rfl rfl rfl) (.g 30 rfl) (.g 40 rfl)) (.k (pickF (.o 8 rfl rfl rfl) (.g 19 rfl) (.g 41 rfl)) (.k (pickT (.o 5 rfl rfl rfl) (.g 8 rfl) (.g 42 rfl)) (.k (pickF .k (.g 5 rfl) (.g 43 rfl)) .n))))))))))))))))))))))))))))))))))))))))))))) [0,1,2] [44] rfl rfl ?_
     refine Tr.cond 3 rfl (fun _=>?_) nofun
     refine Tr.rs [] (.k (asg .k .c) .n) [] [0] rfl rfl ?_
     refine Tr.ret (end_tmp 0 rfl rfl)
    ·
     have hr:=prev_one (R:=ltS) hj q1 (show ltS u s by unfold ltS;omega)
     refine Tr.ds hmx [] (.k (faddr .k (.b 2 rfl) rfl fSA) (.k (ldc .k (.g 0 rfl) (.b 2 rfl) tyI) (.k (faddr .k (.b 2 rfl) rfl fSB) (.k (ldc .k (.g 2 rfl) (.b 2 rfl) tyI) (.k (ge_ .k (.g 1 rfl) (.g 3 rfl) (dF (by omega))) (.k (mv .k (.g 4 rfl)) (.k (mv (.o 5 rfl rfl rfl) (.b 1 rfl)) (.k (gt_ (.o 5 rfl rfl rfl) (.g 6 rfl) .c (dT (by omega))) (.k (mv (.o 5 rfl rfl rfl) (.g 7 rfl)) (.k (faddr (.o 8 rfl rfl rfl) (.b 0 rfl) rfl fMS) (.k (ldc (.o 8 rfl rfl rfl) (.g 9 rfl) (.b 0 rfl) tyvS) (.k (mv (.o 8 rfl rfl rfl) (.b 1 rfl)) (.k (sub_ (.o 8 rfl rfl rfl) (.g 11 rfl) .c (show IntKind.i64.wrap ((i:Int) - 1)=((j:Nat):Int) by rw [IntWalk.i64_in _ (by omega)];omega)) (.k (idx_ (.o 8 rfl rfl rfl) rwS (.g 10 rfl) (.g 12 rfl) rfl (gm q1)) (.k (fat (.o 8 rfl rfl rfl) (.g 13 rfl) aSA rfl) (.k (ldc_at (.o 8 rfl rfl rfl) (.g 14 rfl) tyI) (.k (faddr (.o 8 rfl rfl rfl) (.b 2 rfl) rfl fSA) (.k (ldc (.o 8 rfl rfl rfl) (.g 16 rfl) (.b 2 rfl) tyI) (.k (gt_ (.o 8 rfl rfl rfl) (.g 15 rfl) (.g 17 rfl) (dF (by omega))) (.k (mv (.o 8 rfl rfl rfl) (.g 18 rfl)) (.k (faddr (.o 19 rfl rfl rfl) (.b 0 rfl) rfl fMS) (.k (ldc (.o 19 rfl rfl rfl) (.g 20 rfl) (.b 0 rfl) tyvS) (.k (mv (.o 19 rfl rfl rfl) (.b 1 rfl)) (.k (sub_ (.o 19 rfl rfl rfl) (.g 22 rfl) .c (show IntKind.i64.wrap ((i:Int) - 1)=((j:Nat):Int) by rw [IntWalk.i64_in _ (by omega)];omega)) (.k (idx_ (.o 19 rfl rfl rfl) rwS (.g 21 rfl) (.g 23 rfl) rfl (gm q1)) (.k (fat (.o 19 rfl rfl rfl) (.g 24 rfl) aSA rfl) (.k (ldc_at (.o 19 rfl rfl rfl) (.g 25 rfl) tyI) (.k (faddr (.o 19 rfl rfl rfl) (.b 2 rfl) rfl fSA) (.k (ldc (.o 19 rfl rfl rfl) (.g 27 rfl) (.b 2 rfl) tyI) (.k (eq_ (.o 19 rfl rfl rfl) (.g 26 rfl) (.g 28 rfl) (beq_iff_eq.2 h1)) (.k (mv (.o 19 rfl rfl rfl) (.g 29 rfl)) (.k (faddr (.o 30 rfl rfl rfl) (.b 0 rfl) rfl fMS) (.k (ldc (.o 30 rfl rfl rfl) (.g 31 rfl) (.b 0 rfl) tyvS) (.k (mv (.o 30 rfl rfl rfl) (.b 1 rfl)) (.k (sub_ (.o 30 rfl rfl rfl) (.g 33 rfl) .c (show IntKind.i64.wrap ((i:Int) - 1)=((j:Nat):Int) by rw [IntWalk.i64_in _ (by omega)];omega)) (.k (idx_ (.o 30 rfl rfl rfl) rwS (.g 32 rfl) (.g 34 rfl) rfl (gm q1)) (.k (fat (.o 30 rfl rfl rfl) (.g 35 rfl) aSB rfl) (.k (ldc_at (.o 30 rfl rfl rfl) (.g 36 rfl) tyI) (.k (faddr (.o 30 rfl rfl rfl) (.b 2 rfl) rfl fSB) (.k (ldc (.o 30 rfl rfl rfl) (.g 38 rfl) (.b 2 rfl) tyI) (.k (ge_ (.o 30 rfl rfl rfl) (.g 37 rfl) (.g 39 rfl) (dF (by omega))) (.k (pickT (.o 19 rfl rfl rfl) (.g 30 rfl) (.g 40 rfl)) (.k (pickF (.o 8 rfl rfl rfl) (.g 19 rfl) (.g 41 rfl)) (.k (pickT (.o 5 rfl rfl rfl) (.g 8 rfl) (.g 42 rfl)) (.k (pickF .k (.g 5 rfl) (.g 43 rfl)) .n))))))))))))))))))))))))))))))))))))))))))))) [0,1,2] [44] rfl rfl ?_
     refine Tr.cond 3 rfl nofun (fun _=>?_)
     refine Tr.skip (Nx.go (Tr.sub (Sub.all (.cons 0 rfl (.cons 1 rfl (.cons 2 rfl .nil)))) (H_ ⟨hlt,hr⟩)))
    ·
     have hr:=prev_one (R:=ltS) hj q1 (show ltS u s by unfold ltS;omega)
     refine Tr.ds hmx [] (.k (faddr .k (.b 2 rfl) rfl fSA) (.k (ldc .k (.g 0 rfl) (.b 2 rfl) tyI) (.k (faddr .k (.b 2 rfl) rfl fSB) (.k (ldc .k (.g 2 rfl) (.b 2 rfl) tyI) (.k (ge_ .k (.g 1 rfl) (.g 3 rfl) (dF (by omega))) (.k (mv .k (.g 4 rfl)) (.k (mv (.o 5 rfl rfl rfl) (.b 1 rfl)) (.k (gt_ (.o 5 rfl rfl rfl) (.g 6 rfl) .c (dT (by omega))) (.k (mv (.o 5 rfl rfl rfl) (.g 7 rfl)) (.k (faddr (.o 8 rfl rfl rfl) (.b 0 rfl) rfl fMS) (.k (ldc (.o 8 rfl rfl rfl) (.g 9 rfl) (.b 0 rfl) tyvS) (.k (mv (.o 8 rfl rfl rfl) (.b 1 rfl)) (.k (sub_ (.o 8 rfl rfl rfl) (.g 11 rfl) .c (show IntKind.i64.wrap ((i:Int) - 1)=((j:Nat):Int) by rw [IntWalk.i64_in _ (by omega)];omega)) (.k (idx_ (.o 8 rfl rfl rfl) rwS (.g 10 rfl) (.g 12 rfl) rfl (gm q1)) (.k (fat (.o 8 rfl rfl rfl) (.g 13 rfl) aSA rfl) (.k (ldc_at (.o 8 rfl rfl rfl) (.g 14 rfl) tyI) (.k (faddr (.o 8 rfl rfl rfl) (.b 2 rfl) rfl fSA) (.k (ldc (.o 8 rfl rfl rfl) (.g 16 rfl) (.b 2 rfl) tyI) (.k (gt_ (.o 8 rfl rfl rfl) (.g 15 rfl) (.g 17 rfl) (dF (by omega))) (.k (mv (.o 8 rfl rfl rfl) (.g 18 rfl)) (.k (faddr (.o 19 rfl rfl rfl) (.b 0 rfl) rfl fMS) (.k (ldc (.o 19 rfl rfl rfl) (.g 20 rfl) (.b 0 rfl) tyvS) (.k (mv (.o 19 rfl rfl rfl) (.b 1 rfl)) (.k (sub_ (.o 19 rfl rfl rfl) (.g 22 rfl) .c (show IntKind.i64.wrap ((i:Int) - 1)=((j:Nat):Int) by rw [IntWalk.i64_in _ (by omega)];omega)) (.k (idx_ (.o 19 rfl rfl rfl) rwS (.g 21 rfl) (.g 23 rfl) rfl (gm q1)) (.k (fat (.o 19 rfl rfl rfl) (.g 24 rfl) aSA rfl) (.k (ldc_at (.o 19 rfl rfl rfl) (.g 25 rfl) tyI) (.k (faddr (.o 19 rfl rfl rfl) (.b 2 rfl) rfl fSA) (.k (ldc (.o 19 rfl rfl rfl) (.g 27 rfl) (.b 2 rfl) tyI) (.k (eq_ (.o 19 rfl rfl rfl) (.g 26 rfl) (.g 28 rfl) (beq_eq_false_iff_ne.2 (by omega))) (.k (mv (.o 19 rfl rfl rfl) (.g 29 rfl)) (.k (skp (.o 30 rfl rfl rfl)) (.k (skp (.o 30 rfl rfl rfl)) (.k (skp (.o 30 rfl rfl rfl)) (.k (skp (.o 30 rfl rfl rfl)) (.k (skp (.o 30 rfl rfl rfl)) (.k (skp (.o 30 rfl rfl rfl)) (.k (skp (.o 30 rfl rfl rfl)) (.k (skp (.o 30 rfl rfl rfl)) (.k (skp (.o 30 rfl rfl rfl)) (.k (skp (.o 30 rfl rfl rfl)) (.k (pickF (.o 19 rfl rfl rfl) (.g 30 rfl) .c) (.k (pickF (.o 8 rfl rfl rfl) (.g 19 rfl) (.g 41 rfl)) (.k (pickT (.o 5 rfl rfl rfl) (.g 8 rfl) (.g 42 rfl)) (.k (pickF .k (.g 5 rfl) (.g 43 rfl)) .n))))))))))))))))))))))))))))))))))))))))))))) [0,1,2] [44] rfl rfl ?_
     refine Tr.cond 3 rfl nofun (fun _=>?_)
     refine Tr.skip (Nx.go (Tr.sub (Sub.all (.cons 0 rfl (.cons 1 rfl (.cons 2 rfl .nil)))) (H_ ⟨hlt,hr⟩)))
  ·
   obtain rfl:i=S.length:=by have:=of_decide_eq_false e122;have:=hB.le;omega
   refine Tr.exit (Nx.thX (Nx.thX (Nx.bkX (Nx.go (?_)))))
   rw [chk_end (oP_ori P) hinv hB]
   refine Tr.rs [] (.k (asg .k .c) .n) [] [0] rfl rfl ?_
   refine Tr.ret (end_tmp 0 rfl rfl)
end Go.Proofs.YtkgagdjogedoiaaGreat

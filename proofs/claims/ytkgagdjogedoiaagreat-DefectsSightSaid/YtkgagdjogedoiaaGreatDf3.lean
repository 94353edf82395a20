import Derived.Test.YtkgagdjogedoiaaGreatDb
import Derived.Test.YtkgagdjogedoiaaGreatDp3
set_option linter.unusedVariables false
set_option linter.unusedSimpArgs false
set_option maxRecDepth 100000
set_option maxHeartbeats 8000000
namespace Go.Proofs.YtkgagdjogedoiaaGreat
open Go Go.RowKit Go.Proofs.YtkgagdjogedoiaaGreat.Fx Go.Proofs.YtkgagdjogedoiaaGreatW.PrintWords
theorem fn_isNaN {a:Int}:FnC Tryz.prog 113 [iv a] (bv false):=by
 refine FnC.of (N:=6) Tryz.func113 rfl rfl (Nat.le_of_ble_eq_true rfl) (fun w0 ok0=>?_)
 refine Tr.rs [] (.k (asg .k .c) .n) [0] [] rfl rfl ?_
 refine Tr.rs [] (.k (mv .k (.b 0 rfl)) (.k (mv .k (.b 0 rfl)) (.k (ne_ .k (.g 0 rfl) (.g 1 rfl) (bne_self_eq_false _)) (.k (asg .k (.g 2 rfl)) .n)))) [] [3] rfl rfl ?_
 refine Tr.ret (end_tmp 0 rfl rfl)
theorem fn_compare {a b:Int}:FnC Tryz.prog 90 [iv a,iv b] (iv (sgn (a - b))):=by
 refine FnC.of (N:=20) Tryz.func90 rfl rfl (Nat.le_of_ble_eq_true rfl) (fun w0 ok0=>?_)
 refine Tr.rs [] (.k (asg .k .c) .n) [0,1] [] rfl rfl ?_
 rcases (show a < b∨a > b∨a=b by omega) with h|h|h
 ·
  rw [show sgn (a - b) = -1 from (sgn_cases (a - b)).elim (fun h=>h.1) (fun h=>by omega)]
  refine Tr.rs [] (.k (mv .k (.b 0 rfl)) (.k (cal .k Tryz.func113 rfl fn_isNaN (.k (.g 0 rfl) .n)) (.k (asg .k (.g 1 rfl)) .n))) [0,1] [2] rfl rfl ?_
  refine Tr.rs [] (.k (mv .k (.b 1 rfl)) (.k (cal .k Tryz.func113 rfl fn_isNaN (.k (.g 0 rfl) .n)) (.k (asg .k (.g 1 rfl)) .n))) [0,1,2] [2] rfl rfl ?_
  refine Tr.seq (Tr.rs [] (.k (mv .k (.b 2 rfl)) .n) [0,1,3] [0] rfl rfl ?_)
  refine Tr.cond 3 rfl nofun (fun _=>?_)
  refine Tr.skip (Nx.go (Tr.seq (Tr.rs [] (.k (mv .k (.b 2 rfl)) .n) [0,1] [0] rfl rfl ?_)))
  refine Tr.cond 2 rfl nofun (fun _=>?_)
  refine Tr.skip (Nx.go (Tr.seq (Tr.rs [] (.k (mv .k (.b 0 rfl)) (.k (mv .k (.b 1 rfl)) (.k (lt_ .k (.g 0 rfl) (.g 1 rfl) (decide_eq_true h)) .n))) [0,1] [2] rfl rfl ?_)))
  refine Tr.cond 2 rfl (fun _=>?_) nofun
  refine Tr.rs [] (.k (asg .k .c) .n) [] [0] rfl rfl ?_
  refine Tr.ret (end_tmp 0 rfl rfl)
 ·
  rw [show sgn (a - b)=1 from (sgn_cases (a - b)).elim (fun h=>by omega) (fun h=>h.elim (fun h=>by omega) (fun h=>h.1))]
  refine Tr.rs [] (.k (mv .k (.b 0 rfl)) (.k (cal .k Tryz.func113 rfl fn_isNaN (.k (.g 0 rfl) .n)) (.k (asg .k (.g 1 rfl)) .n))) [0,1] [2] rfl rfl ?_
  refine Tr.rs [] (.k (mv .k (.b 1 rfl)) (.k (cal .k Tryz.func113 rfl fn_isNaN (.k (.g 0 rfl) .n)) (.k (asg .k (.g 1 rfl)) .n))) [0,1,2] [2] rfl rfl ?_
  refine Tr.seq (Tr.rs [] (.k (mv .k (.b 2 rfl)) .n) [0,1,3] [0] rfl rfl ?_)
  refine Tr.cond 3 rfl nofun (fun _=>?_)
  refine Tr.skip (Nx.go (Tr.seq (Tr.rs [] (.k (mv .k (.b 2 rfl)) .n) [0,1] [0] rfl rfl ?_)))
  refine Tr.cond 2 rfl nofun (fun _=>?_)
  refine Tr.skip (Nx.go (Tr.seq (Tr.rs [] (.k (mv .k (.b 0 rfl)) (.k (mv .k (.b 1 rfl)) (.k (lt_ .k (.g 0 rfl) (.g 1 rfl) (dF (by omega))) .n))) [0,1] [2] rfl rfl ?_)))
  refine Tr.cond 2 rfl nofun (fun _=>?_)
  refine Tr.skip (Nx.go (Tr.seq (Tr.rs [] (.k (mv .k (.b 0 rfl)) (.k (mv .k (.b 1 rfl)) (.k (gt_ .k (.g 0 rfl) (.g 1 rfl) (decide_eq_true h)) .n))) [] [2] rfl rfl ?_)))
  refine Tr.cond 0 rfl (fun _=>?_) nofun
  refine Tr.rs [] (.k (asg .k .c) .n) [] [0] rfl rfl ?_
  refine Tr.ret (end_tmp 0 rfl rfl)
 ·
  rw [show sgn (a - b)=0 from (sgn_cases (a - b)).elim (fun h=>by omega) (fun h=>h.elim (fun h=>h.1) (fun h=>by omega))]
  refine Tr.rs [] (.k (mv .k (.b 0 rfl)) (.k (cal .k Tryz.func113 rfl fn_isNaN (.k (.g 0 rfl) .n)) (.k (asg .k (.g 1 rfl)) .n))) [0,1] [2] rfl rfl ?_
  refine Tr.rs [] (.k (mv .k (.b 1 rfl)) (.k (cal .k Tryz.func113 rfl fn_isNaN (.k (.g 0 rfl) .n)) (.k (asg .k (.g 1 rfl)) .n))) [0,1,2] [2] rfl rfl ?_
  refine Tr.seq (Tr.rs [] (.k (mv .k (.b 2 rfl)) .n) [0,1,3] [0] rfl rfl ?_)
  refine Tr.cond 3 rfl nofun (fun _=>?_)
  refine Tr.skip (Nx.go (Tr.seq (Tr.rs [] (.k (mv .k (.b 2 rfl)) .n) [0,1] [0] rfl rfl ?_)))
  refine Tr.cond 2 rfl nofun (fun _=>?_)
  refine Tr.skip (Nx.go (Tr.seq (Tr.rs [] (.k (mv .k (.b 0 rfl)) (.k (mv .k (.b 1 rfl)) (.k (lt_ .k (.g 0 rfl) (.g 1 rfl) (dF (by omega))) .n))) [0,1] [2] rfl rfl ?_)))
  refine Tr.cond 2 rfl nofun (fun _=>?_)
  refine Tr.skip (Nx.go (Tr.seq (Tr.rs [] (.k (mv .k (.b 0 rfl)) (.k (mv .k (.b 1 rfl)) (.k (gt_ .k (.g 0 rfl) (.g 1 rfl) (dF (by omega))) .n))) [] [2] rfl rfl ?_)))
  refine Tr.cond 0 rfl nofun (fun _=>?_)
  refine Tr.skip (Nx.go (Tr.rs [] (.k (asg .k .c) .n) [] [0] rfl rfl ?_))
  refine Tr.ret (end_tmp 0 rfl rfl)
def orR:List Int→Int
  | []=>0
  | x :: l=>if x≠0 then x else orR l
theorem or_yes {l:List Int} {k:Nat} {x:Int} (h:l[k]?=some x) (hx:x≠0):orR (l.drop k)=x:=by
  have hk:=(List.getElem?_eq_some_iff.1 h).1
  rw [List.drop_eq_getElem_cons hk,(List.getElem?_eq_some_iff.1 h).2]
  exact if_pos hx
theorem or_no {l:List Int} {k:Nat} {x:Int} (h:l[k]?=some x) (hx:x=0):orR (l.drop (k+1))=orR (l.drop k):=by
  have hk:=(List.getElem?_eq_some_iff.1 h).1
  rw [List.drop_eq_getElem_cons hk,(List.getElem?_eq_some_iff.1 h).2]
  exact (if_neg (by simp [hx])).symm
def bySegR (a b:Int × Int):Int:=orR [sgn (a.1 - b.1),sgn (a.2 - b.2)]
def byTriR (a b:Int × Int × Int):Int:=orR [sgn (a.1 - b.1),sgn (a.2.1 - b.2.1),sgn (a.2.2 - b.2.2)]
theorem bySeg_lt (a b:Int × Int):bySegR a b ≥ 0↔¬ ltS a b:=by
  unfold bySegR ltS orR orR orR
  rcases sgn_cases (a.1 - b.1) with ⟨e,h⟩|⟨e,h⟩|⟨e,h⟩<;>rcases sgn_cases (a.2 - b.2) with ⟨e',h'⟩|⟨e',h'⟩|⟨e',h'⟩<;>rw [e,e']<;>simp<;>omega
theorem byTri_lt (a b:Int × Int × Int):byTriR a b ≥ 0↔¬ ltT a b:=by
  unfold byTriR ltT orR orR orR orR
  rcases sgn_cases (a.1 - b.1) with ⟨e,h⟩|⟨e,h⟩|⟨e,h⟩<;>rcases sgn_cases (a.2.1 - b.2.1) with ⟨e',h'⟩|⟨e',h'⟩|⟨e',h'⟩<;>rcases sgn_cases (a.2.2 - b.2.2) with ⟨e2,h2⟩|⟨e2,h2⟩|⟨e2,h2⟩<;>rw [e,e',e2]<;>simp<;>omega
theorem min_if2 (a b:Int):(if b < a then b else a)=min a b:=by split<;>omega
theorem max_if2 (a b:Int):(if a < b then b else a)=max a b:=by split<;>omega
theorem fn_up {s:Int × Int}:FnC Tryz.prog 58 [.is (sgv s)] (.is (sgv (nrm s))):=by
 refine FnC.of (N:=14) Tryz.func58 rfl rfl (Nat.le_of_ble_eq_true rfl) (fun w0 ok0=>?_)
 refine Tr.rs [] (.k (bxx .k (.b 0 rfl)) (.k (alc .k zS) .n)) [] [0,1] rfl rfl ?_
 refine Tr.rs [(1,11)] (.k (faddr .k (.b 0 rfl) rfl fSA) (.k (ldc .k (.g 0 rfl) (.b 0 rfl) tyI) (.k (faddr .k (.b 0 rfl) rfl fSB) (.k (ldc .k (.g 2 rfl) (.b 0 rfl) tyI) (.k (minb_ .k (.g 1 rfl) (.g 3 rfl) (min_if2 _ _)) (.k (faddr .k (.b 0 rfl) rfl fSA) (.k (ldc .k (.g 5 rfl) (.b 0 rfl) tyI) (.k (faddr .k (.b 0 rfl) rfl fSB) (.k (ldc .k (.g 7 rfl) (.b 0 rfl) tyI) (.k (max_ .k (.g 6 rfl) (.g 8 rfl) (max_if2 _ _)) (.k (bld .k (.k (.g 4 rfl) (.k (.g 9 rfl) .n)) (bS _ _) (aS _ _)) (.k (sto .k (.b 1 rfl) (.g 10 rfl) tyS) .n)))))))))))) [] [11] rfl rfl ?_
 refine Tr.ret (end_cell 0 rfl rfl tyS)
theorem fn_or {l:List Int} (hl:l.length≤1000000):FnC Tryz.prog 89 [ivec l] (iv (orR l)):=by
 refine FnC.of (N:=18) Tryz.func89 rfl rfl (Nat.le_of_ble_eq_true rfl) (fun w0 ok0=>?_)
 refine Tr.rs [] (.k (asg .k .c) .n) [0] [] rfl rfl ?_
 refine Tr.rs [] (.k (asg .k .c) .n) [0] [0] rfl rfl ?_
 refine Tr.seq (Tr.rs [] (.k (mv .k (.b 0 rfl)) (.k (len_ .k rwI (.g 0 rfl) (by rw [List.length_map])) (.k (mv .k .c) .n))) [1] [0,1,2] rfl rfl ?_)
 refine Tr.block (?_)
 refine Tr.loop (fun n_ F_=>∃ k:Nat,(k≤l.length∧orR (l.drop k)=orR l)∧n_=l.length - k∧F_=[.s 3 (iv 0),.s 6 (ivec l),.s 7 (iv ((l.length:Nat):Int)),.s 8 (iv ((k:Nat):Int))]) (l.length - 0) (F0:=[.s 3 (iv 0),.s 6 (ivec l),.s 7 (iv ((l.length:Nat):Int)),.s 8 (iv ((0:Nat):Int))]) ⟨0,⟨Nat.zero_le _,rfl⟩,rfl,rfl⟩ (Sub.all (.cons 0 rfl (.cons 1 rfl (.cons 2 rfl (.cons 3 rfl .nil))))) (fun n_ F_ hI=>?_)
 obtain ⟨k,hinv,rfl,rfl⟩:=hI
 refine Tr.rs [] (.k (lt_ .k (.b 3 rfl) (.b 2 rfl) rfl) .n) [0,1,2,3] [0] rfl rfl ?_
 refine Tr.seq (Tr.cond 4 rfl (fun e9=>?_) (fun e9=>?_))
 ·
  have hk2:k < l.length:=by have:=of_decide_eq_true e9;omega
  refine Tr.skip (Nx.go (Tr.seq (Tr.block (?_))))
  obtain ⟨x,p1⟩:∃ x,l[k]?=some x:=⟨_,List.getElem?_eq_getElem hk2⟩;by_cases hx:x=0
  ·
   refine Tr.rs [] (.k (idx_ .k rwI (.b 1 rfl) (.b 3 rfl) rfl (gm p1)) (.k (ldc_at .k (.g 0 rfl) tyI) (.k (asg .k (.g 1 rfl)) .n))) [0,1,2,3] [2] rfl rfl ?_
   refine Tr.rs [] (.k (mv .k (.b 4 rfl)) (.k (mv .k (.b 0 rfl)) (.k (ne_ .k (.g 0 rfl) (.g 1 rfl) (bne_eq_false_iff_eq.2 hx)) .n))) [0,1,2,3,4] [2] rfl rfl ?_
   refine Tr.cond 5 rfl nofun (fun _=>?_)
   refine Tr.skip (Nx.bkN (Nx.go (Tr.reg [(3,1)] (.k (add_ .k (.b 3 rfl) .c (wr1 (by omega))) (.k (mv .k (.g 0 rfl)) .n)) [0,1,2] [1] rfl rfl (Nx.again (l.length - (k+1)) (by omega) [.s 3 (iv 0),.s 6 (ivec l),.s 7 (iv ((l.length:Nat):Int)),.s 8 (iv (((k+1):Nat):Int))] ⟨(k+1),⟨by omega,(or_no p1 hx).trans hinv.2⟩,rfl,rfl⟩ (Sub.all (.cons 0 rfl (.cons 1 rfl (.cons 2 rfl (.cons 3 rfl .nil)))))))))
  ·
   rw [← hinv.2,or_yes p1 hx]
   refine Tr.rs [] (.k (idx_ .k rwI (.b 1 rfl) (.b 3 rfl) rfl (gm p1)) (.k (ldc_at .k (.g 0 rfl) tyI) (.k (asg .k (.g 1 rfl)) .n))) [0,1,2,3] [2] rfl rfl ?_
   refine Tr.rs [] (.k (mv .k (.b 4 rfl)) (.k (mv .k (.b 0 rfl)) (.k (ne_ .k (.g 0 rfl) (.g 1 rfl) (bne_iff_ne.2 hx)) .n))) [0,1,2,3,4] [2] rfl rfl ?_
   refine Tr.cond 5 rfl (fun _=>?_) nofun
   refine Tr.rs [] (.k (mv .k (.b 4 rfl)) (.k (asg .k (.g 0 rfl)) .n)) [] [1] rfl rfl ?_
   refine Tr.ret (end_tmp 0 rfl rfl)
 ·
  obtain rfl:k=l.length:=by have:=of_decide_eq_false e9;omega
  refine Tr.exit (Nx.thX (Nx.thX (Nx.bkX (Nx.go (?_)))))
  have hz:=hinv.2
  rw [List.drop_length] at hz
  rw [← hz,show orR []=0 from rfl]
  refine Tr.rs [] (.k (mv .k (.b 0 rfl)) (.k (asg .k (.g 0 rfl)) .n)) [] [1] rfl rfl ?_
  refine Tr.ret (end_tmp 0 rfl rfl)
theorem fn_bySeg {a b:Int × Int}:FnC Tryz.prog 57 [.is (sgv a),.is (sgv b)] (iv (bySegR a b)):=by
 refine FnC.of (N:=17) Tryz.func57 rfl rfl (Nat.le_of_ble_eq_true rfl) (fun w0 ok0=>?_)
 refine Tr.rs [] (.k (bxx .k (.b 0 rfl)) (.k (bxx .k (.b 1 rfl)) (.k (asg .k .c) .n))) [] [0,1] rfl rfl ?_
 refine Tr.ds hmx [] (.k (faddr .k (.b 0 rfl) rfl fSA) (.k (ldc .k (.g 0 rfl) (.b 0 rfl) tyI) (.k (faddr .k (.b 1 rfl) rfl fSA) (.k (ldc .k (.g 2 rfl) (.b 1 rfl) tyI) (.k (cal .k Tryz.func90 rfl fn_compare (.k (.g 1 rfl) (.k (.g 3 rfl) .n))) (.k (faddr .k (.b 0 rfl) rfl fSB) (.k (ldc .k (.g 5 rfl) (.b 0 rfl) tyI) (.k (faddr .k (.b 1 rfl) rfl fSB) (.k (ldc .k (.g 7 rfl) (.b 1 rfl) tyI) (.k (cal .k Tryz.func90 rfl fn_compare (.k (.g 6 rfl) (.k (.g 8 rfl) .n))) (.k (mkrow .k rwI (.k (.g 4 rfl) (.k (.g 9 rfl) .n)) rfl rfl (by kernel_rfl)) (.k (cal .k Tryz.func89 rfl (show FnC _ _ [.vec 1 [[ic (sgn (a.1 - b.1))],[ic (sgn (a.2 - b.2))]]] _ from fn_or (l:=[sgn (a.1 - b.1),sgn (a.2 - b.2)]) (by show 2≤1000000;decide)) (.k (.g 10 rfl) .n)) (.k (asg .k (.g 11 rfl)) .n))))))))))))) [] [12] rfl rfl ?_
 refine Tr.ret (end_tmp 0 rfl rfl)
theorem fn_byTri {a b:Int × Int × Int}:FnC Tryz.prog 55 [.is (trv a),.is (trv b)] (iv (byTriR a b)):=by
 refine FnC.of (N:=22) Tryz.func55 rfl rfl (Nat.le_of_ble_eq_true rfl) (fun w0 ok0=>?_)
 refine Tr.rs [] (.k (bxx .k (.b 0 rfl)) (.k (bxx .k (.b 1 rfl)) (.k (asg .k .c) .n))) [] [0,1] rfl rfl ?_
 refine Tr.ds hmx [] (.k (faddr .k (.b 0 rfl) rfl fTA) (.k (ldc .k (.g 0 rfl) (.b 0 rfl) tyI) (.k (faddr .k (.b 1 rfl) rfl fTA) (.k (ldc .k (.g 2 rfl) (.b 1 rfl) tyI) (.k (cal .k Tryz.func90 rfl fn_compare (.k (.g 1 rfl) (.k (.g 3 rfl) .n))) (.k (faddr .k (.b 0 rfl) rfl fTB) (.k (ldc .k (.g 5 rfl) (.b 0 rfl) tyI) (.k (faddr .k (.b 1 rfl) rfl fTB) (.k (ldc .k (.g 7 rfl) (.b 1 rfl) tyI) (.k (cal .k Tryz.func90 rfl fn_compare (.k (.g 6 rfl) (.k (.g 8 rfl) .n))) (.k (faddr .k (.b 0 rfl) rfl fTC) (.k (ldc .k (.g 10 rfl) (.b 0 rfl) tyI) (.k (faddr .k (.b 1 rfl) rfl fTC) (.k (ldc .k (.g 12 rfl) (.b 1 rfl) tyI) (.k (cal .k Tryz.func90 rfl fn_compare (.k (.g 11 rfl) (.k (.g 13 rfl) .n))) (.k (mkrow .k rwI (.k (.g 4 rfl) (.k (.g 9 rfl) (.k (.g 14 rfl) .n))) rfl rfl (by kernel_rfl)) (.k (cal .k Tryz.func89 rfl (show FnC _ _ [.vec 1 [[ic (sgn (a.1 - b.1))],[ic (sgn (a.2.1 - b.2.1))],[ic (sgn (a.2.2 - b.2.2))]]] _ from fn_or (l:=[sgn (a.1 - b.1),sgn (a.2.1 - b.2.1),sgn (a.2.2 - b.2.2)]) (by show 3≤1000000;decide)) (.k (.g 15 rfl) .n)) (.k (asg .k (.g 16 rfl)) .n)))))))))))))))))) [] [17] rfl rfl ?_
 refine Tr.ret (end_tmp 0 rfl rfl)
end Go.Proofs.YtkgagdjogedoiaaGreat

set_option linter.unusedVariables false
set_option linter.unusedSimpArgs false
set_option maxRecDepth 100000
set_option maxHeartbeats 8000000
namespace Go.Proofs.YtkgagdjogedoiaaGreat
open Go Go.RowKit Go.Proofs.YtkgagdjogedoiaaGreat.Fx Go.Proofs.YtkgagdjogedoiaaGreatW.PrintWords
theorem fn_before {a b:Int × Int × Int}:FnC Tryz.prog 51 [.is (trv a),.is (trv b)] (bv (decide (ltT a b))):=by
 refine FnC.of (N:=30) Tryz.func51 rfl rfl (Nat.le_of_ble_eq_true rfl) (fun w0 ok0=>?_)
 refine Tr.rs [] (.k (bxx .k (.b 0 rfl)) (.k (bxx .k (.b 1 rfl)) (.k (asg .k .c) .n))) [] [0,1] rfl rfl ?_
 rcases (show a.1≠b.1∨(a.1=b.1∧a.2.1≠b.2.1)∨(a.1=b.1∧a.2.1=b.2.1) by omega) with h|⟨h,h2⟩|⟨h,h2⟩
 ·
  rw [show decide (ltT a b)=decide (a.1 < b.1) from decide_eq_decide.2 (by unfold ltT;omega)]
  refine Tr.seq (Tr.rs [] (.k (faddr .k (.b 0 rfl) rfl fTA) (.k (ldc .k (.g 0 rfl) (.b 0 rfl) tyI) (.k (faddr .k (.b 1 rfl) rfl fTA) (.k (ldc .k (.g 2 rfl) (.b 1 rfl) tyI) (.k (ne_ .k (.g 1 rfl) (.g 3 rfl) (bne_iff_ne.2 h)) .n))))) [0,1] [4] rfl rfl ?_)
  refine Tr.cond 2 rfl (fun _=>?_) nofun
  refine Tr.rs [] (.k (faddr .k (.b 0 rfl) rfl fTA) (.k (ldc .k (.g 0 rfl) (.b 0 rfl) tyI) (.k (faddr .k (.b 1 rfl) rfl fTA) (.k (ldc .k (.g 2 rfl) (.b 1 rfl) tyI) (.k (lt_ .k (.g 1 rfl) (.g 3 rfl) rfl) (.k (asg .k (.g 4 rfl)) .n)))))) [] [5] rfl rfl ?_
  refine Tr.ret (end_tmp 0 rfl rfl)
 ·
  rw [show decide (ltT a b)=decide (a.2.1 < b.2.1) from decide_eq_decide.2 (by unfold ltT;omega)]
  refine Tr.seq (Tr.rs [] (.k (faddr .k (.b 0 rfl) rfl fTA) (.k (ldc .k (.g 0 rfl) (.b 0 rfl) tyI) (.k (faddr .k (.b 1 rfl) rfl fTA) (.k (ldc .k (.g 2 rfl) (.b 1 rfl) tyI) (.k (ne_ .k (.g 1 rfl) (.g 3 rfl) (bne_eq_false_iff_eq.2 h)) .n))))) [0,1] [4] rfl rfl ?_)
  refine Tr.cond 2 rfl nofun (fun _=>?_)
  refine Tr.skip (Nx.go (Tr.seq (Tr.rs [] (.k (faddr .k (.b 0 rfl) rfl fTB) (.k (ldc .k (.g 0 rfl) (.b 0 rfl) tyI) (.k (faddr .k (.b 1 rfl) rfl fTB) (.k (ldc .k (.g 2 rfl) (.b 1 rfl) tyI) (.k (ne_ .k (.g 1 rfl) (.g 3 rfl) (bne_iff_ne.2 h2)) .n))))) [0,1] [4] rfl rfl ?_)))
  refine Tr.cond 2 rfl (fun _=>?_) nofun
  refine Tr.rs [] (.k (faddr .k (.b 0 rfl) rfl fTB) (.k (ldc .k (.g 0 rfl) (.b 0 rfl) tyI) (.k (faddr .k (.b 1 rfl) rfl fTB) (.k (ldc .k (.g 2 rfl) (.b 1 rfl) tyI) (.k (lt_ .k (.g 1 rfl) (.g 3 rfl) rfl) (.k (asg .k (.g 4 rfl)) .n)))))) [] [5] rfl rfl ?_
  refine Tr.ret (end_tmp 0 rfl rfl)
 ·
  rw [show decide (ltT a b)=decide (a.2.2 < b.2.2) from decide_eq_decide.2 (by unfold ltT;omega)]
  refine Tr.seq (Tr.rs [] (.k (faddr .k (.b 0 rfl) rfl fTA) (.k (ldc .k (.g 0 rfl) (.b 0 rfl) tyI) (.k (faddr .k (.b 1 rfl) rfl fTA) (.k (ldc .k (.g 2 rfl) (.b 1 rfl) tyI) (.k (ne_ .k (.g 1 rfl) (.g 3 rfl) (bne_eq_false_iff_eq.2 h)) .n))))) [0,1] [4] rfl rfl ?_)
  refine Tr.cond 2 rfl nofun (fun _=>?_)
  refine Tr.skip (Nx.go (Tr.seq (Tr.rs [] (.k (faddr .k (.b 0 rfl) rfl fTB) (.k (ldc .k (.g 0 rfl) (.b 0 rfl) tyI) (.k (faddr .k (.b 1 rfl) rfl fTB) (.k (ldc .k (.g 2 rfl) (.b 1 rfl) tyI) (.k (ne_ .k (.g 1 rfl) (.g 3 rfl) (bne_eq_false_iff_eq.2 h2)) .n))))) [0,1] [4] rfl rfl ?_)))
  refine Tr.cond 2 rfl nofun (fun _=>?_)
  refine Tr.skip (Nx.go (Tr.rs [] (.k (faddr .k (.b 0 rfl) rfl fTC) (.k (ldc .k (.g 0 rfl) (.b 0 rfl) tyI) (.k (faddr .k (.b 1 rfl) rfl fTC) (.k (ldc .k (.g 2 rfl) (.b 1 rfl) tyI) (.k (lt_ .k (.g 1 rfl) (.g 3 rfl) rfl) (.k (asg .k (.g 4 rfl)) .n)))))) [] [5] rfl rfl ?_))
  refine Tr.ret (end_tmp 0 rfl rfl)
theorem has_yes {l:List (Int × Int)} {k:Nat} {a b:Int} {s:Int × Int} (h:l[k]?=some s) (hs:(s.1=a∧s.2=b)∨(s.1=b∧s.2=a)):decide ((a,b)∈l∨(b,a)∈l)=true:=by
  have hm:=List.mem_of_getElem? h
  refine decide_eq_true ?_
  rcases hs with ⟨rfl,rfl⟩|⟨rfl,rfl⟩
  · exact .inl hm
  · exact .inr hm
theorem has_succ {l:List (Int × Int)} {k:Nat} {a b:Int} {s:Int × Int} (h:l[k]?=some s) (hs:¬ ((s.1=a∧s.2=b)∨(s.1=b∧s.2=a))) (hi:(a,b) ∉ l.take k∧(b,a) ∉ l.take k):(a,b) ∉ l.take (k+1)∧(b,a) ∉ l.take (k+1):=by
  rw [take_succ' h]
  simp only [List.mem_append,List.mem_singleton,not_or]
  exact ⟨⟨hi.1,fun e=>hs (.inl (by rw [← e];exact ⟨rfl,rfl⟩))⟩,hi.2,fun e=>hs (.inr (by rw [← e];exact ⟨rfl,rfl⟩))⟩
theorem fn_Has {l:List (Int × Int)} {a b:Int} (hl:l.length≤1000000):FnC Tryz.prog 53 [svec l,iv a,iv b] (bv (decide ((a,b)∈l∨(b,a)∈l))):=by
 refine FnC.of (N:=48) Tryz.func53 rfl rfl (Nat.le_of_ble_eq_true rfl) (fun w0 ok0=>?_)
 refine Tr.rs [] (.k (asg .k .c) .n) [0,1,2] [] rfl rfl ?_
 refine Tr.seq (Tr.rs [] (.k (asg .k .c) .n) [0,1,2] [0] rfl rfl ?_)
 refine Tr.block (?_)
 refine Tr.loop (fun n_ F_=>∃ k:Nat,(k≤l.length∧(a,b) ∉ l.take k∧(b,a) ∉ l.take k)∧n_=l.length - k∧F_=[.s 0 (svec l),.s 1 (iv a),.s 2 (iv b),.s 7 (iv ((k:Nat):Int))]) (l.length - 0) (F0:=[.s 0 (svec l),.s 1 (iv a),.s 2 (iv b),.s 7 (iv ((0:Nat):Int))]) ⟨0,⟨Nat.zero_le _,by simp,by simp⟩,rfl,rfl⟩ (Sub.all (.cons 0 rfl (.cons 1 rfl (.cons 2 rfl (.cons 3 rfl .nil))))) (fun n_ F_ hI=>?_)
 obtain ⟨k,hinv,rfl,rfl⟩:=hI
 refine Tr.seq (Tr.rs [] (.k (mv .k (.b 3 rfl)) (.k (mv .k (.b 0 rfl)) (.k (len_ .k rwS (.g 1 rfl) (by rw [List.length_map])) (.k (lt_ .k (.g 0 rfl) (.g 2 rfl) rfl) .n)))) [0,1,2,3] [3] rfl rfl ?_)
 refine Tr.cond 4 rfl (fun e11=>?_) (fun e11=>?_)
 ·
  have hk2:k < l.length:=by have:=of_decide_eq_true e11;omega
  refine Tr.skip (Nx.go (Tr.seq (Tr.block (?_))))
  obtain ⟨s,p1⟩:∃ s,l[k]?=some s:=⟨_,List.getElem?_eq_getElem hk2⟩;rcases (show (s.1=a∧s.2=b)∨(s.1=a∧s.2≠b∧s.1=b∧s.2=a)∨(s.1=a∧s.2≠b∧s.1=b∧s.2≠a)∨(s.1=a∧s.2≠b∧s.1≠b)∨(s.1≠a∧s.1=b∧s.2=a)∨(s.1≠a∧s.1=b∧s.2≠a)∨(s.1≠a∧s.1≠b) by omega) with ⟨h1,h2⟩|⟨h1,h2,h3,h4⟩|⟨h1,h2,h3,h4⟩|⟨h1,h2,h3⟩|⟨h1,h3,h4⟩|⟨h1,h3,h4⟩|⟨h1,h3⟩
  ·
   rw [has_yes p1 (by omega)]
   refine Tr.rs [] (.k (mv .k (.b 0 rfl)) (.k (mv .k (.b 3 rfl)) (.k (idx_ .k rwS (.g 0 rfl) (.g 1 rfl) rfl (gm p1)) (.k (fat .k (.g 2 rfl) aSA rfl) (.k (ldc_at .k (.g 3 rfl) tyI) (.k (mv .k (.b 1 rfl)) (.k (eq_ .k (.g 4 rfl) (.g 5 rfl) (beq_iff_eq.2 h1)) (.k (mv .k (.g 6 rfl)) (.k (mv (.o 7 rfl rfl rfl) (.b 0 rfl)) (.k (mv (.o 7 rfl rfl rfl) (.b 3 rfl)) (.k (idx_ (.o 7 rfl rfl rfl) rwS (.g 8 rfl) (.g 9 rfl) rfl (gm p1)) (.k (fat (.o 7 rfl rfl rfl) (.g 10 rfl) aSB rfl) (.k (ldc_at (.o 7 rfl rfl rfl) (.g 11 rfl) tyI) (.k (mv (.o 7 rfl rfl rfl) (.b 2 rfl)) (.k (eq_ (.o 7 rfl rfl rfl) (.g 12 rfl) (.g 13 rfl) (beq_iff_eq.2 h2)) (.k (pickT .k (.g 7 rfl) (.g 14 rfl)) (.k (mv .k (.g 15 rfl)) (.k (skp (.o 16 rfl rfl rfl)) (.k (skp (.o 16 rfl rfl rfl)) (.k (skp (.o 16 rfl rfl rfl)) (.k (skp (.o 16 rfl rfl rfl)) (.k (skp (.o 16 rfl rfl rfl)) (.k (skp (.o 16 rfl rfl rfl)) (.k (skp (.o 16 rfl rfl rfl)) (.k (skpu (.o 16 rfl rfl rfl)) (.k (skpn (.g 24 rfl) rfl) (.k (skpn (.g 24 rfl) rfl) (.k (skpn (.g 24 rfl) rfl) (.k (skpn (.g 24 rfl) rfl) (.k (skpn (.g 24 rfl) rfl) (.k (skpn (.g 24 rfl) rfl) (.k (skpn (.g 24 rfl) rfl) (.k (skp (.o 16 rfl rfl rfl)) (.k (pickT .k (.g 16 rfl) .c) .n)))))))))))))))))))))))))))))))))) [0,1,2,3] [33] rfl rfl ?_
   refine Tr.cond 4 rfl (fun _=>?_) nofun
   refine Tr.rs [] (.k (asg .k .c) .n) [] [0] rfl rfl ?_
   refine Tr.ret (end_tmp 0 rfl rfl)
  ·
   rw [has_yes p1 (by omega)]
   refine Tr.rs [] (.k (mv .k (.b 0 rfl)) (.k (mv .k (.b 3 rfl)) (.k (idx_ .k rwS (.g 0 rfl) (.g 1 rfl) rfl (gm p1)) (.k (fat .k (.g 2 rfl) aSA rfl) (.k (ldc_at .k (.g 3 rfl) tyI) (.k (mv .k (.b 1 rfl)) (.k (eq_ .k (.g 4 rfl) (.g 5 rfl) (beq_iff_eq.2 h1)) (.k (mv .k (.g 6 rfl)) (.k (mv (.o 7 rfl rfl rfl) (.b 0 rfl)) (.k (mv (.o 7 rfl rfl rfl) (.b 3 rfl)) (.k (idx_ (.o 7 rfl rfl rfl) rwS (.g 8 rfl) (.g 9 rfl) rfl (gm p1)) (.k (fat (.o 7 rfl rfl rfl) (.g 10 rfl) aSB rfl) (.k (ldc_at (.o 7 rfl rfl rfl) (.g 11 rfl) tyI) (.k (mv (.o 7 rfl rfl rfl) (.b 2 rfl)) (.k (eq_ (.o 7 rfl rfl rfl) (.g 12 rfl) (.g 13 rfl) (beq_eq_false_iff_ne.2 h2)) (.k (pickT .k (.g 7 rfl) (.g 14 rfl)) (.k (mv .k (.g 15 rfl)) (.k (mv (.o 16 rfl rfl rfl) (.b 0 rfl)) (.k (mv (.o 16 rfl rfl rfl) (.b 3 rfl)) (.k (idx_ (.o 16 rfl rfl rfl) rwS (.g 17 rfl) (.g 18 rfl) rfl (gm p1)) (.k (fat (.o 16 rfl rfl rfl) (.g 19 rfl) aSA rfl) (.k (ldc_at (.o 16 rfl rfl rfl) (.g 20 rfl) tyI) (.k (mv (.o 16 rfl rfl rfl) (.b 2 rfl)) (.k (eq_ (.o 16 rfl rfl rfl) (.g 21 rfl) (.g 22 rfl) (beq_iff_eq.2 h3)) (.k (mv (.o 16 rfl rfl rfl) (.g 23 rfl)) (.k (mv (.o 24 rfl rfl rfl) (.b 0 rfl)) (.k (mv (.o 24 rfl rfl rfl) (.b 3 rfl)) (.k (idx_ (.o 24 rfl rfl rfl) rwS (.g 25 rfl) (.g 26 rfl) rfl (gm p1)) (.k (fat (.o 24 rfl rfl rfl) (.g 27 rfl) aSB rfl) (.k (ldc_at (.o 24 rfl rfl rfl) (.g 28 rfl) tyI) (.k (mv (.o 24 rfl rfl rfl) (.b 1 rfl)) (.k (eq_ (.o 24 rfl rfl rfl) (.g 29 rfl) (.g 30 rfl) (beq_iff_eq.2 h4)) (.k (pickT (.o 16 rfl rfl rfl) (.g 24 rfl) (.g 31 rfl)) (.k (pickF .k (.g 16 rfl) (.g 32 rfl)) .n)))))))))))))))))))))))))))))))))) [0,1,2,3] [33] rfl rfl ?_
   refine Tr.cond 4 rfl (fun _=>?_) nofun
   refine Tr.rs [] (.k (asg .k .c) .n) [] [0] rfl rfl ?_
   refine Tr.ret (end_tmp 0 rfl rfl)
  ·
   refine Tr.rs [] (.k (mv .k (.b 0 rfl)) (.k (mv .k (.b 3 rfl)) (.k (idx_ .k rwS (.g 0 rfl) (.g 1 rfl) rfl (gm p1)) (.k (fat .k (.g 2 rfl) aSA rfl) (.k (ldc_at .k (.g 3 rfl) tyI) (.k (mv .k (.b 1 rfl)) (.k (eq_ .k (.g 4 rfl) (.g 5 rfl) (beq_iff_eq.2 h1)) (.k (mv .k (.g 6 rfl)) (.k (mv (.o 7 rfl rfl rfl) (.b 0 rfl)) (.k (mv (.o 7 rfl rfl rfl) (.b 3 rfl)) (.k (idx_ (.o 7 rfl rfl rfl) rwS (.g 8 rfl) (.g 9 rfl) rfl (gm p1)) (.k (fat (.o 7 rfl rfl rfl) (.g 10 rfl) aSB rfl) (.k (ldc_at (.o 7 rfl rfl rfl) (.g 11 rfl) tyI) (.k (mv (.o 7 rfl rfl rfl) (.b 2 rfl)) (.k (eq_ (.o 7 rfl rfl rfl) (.g 12 rfl) (.g 13 rfl) (beq_eq_false_iff_ne.2 h2)) (.k (pickT .k (.g 7 rfl) (.g 14 rfl)) (.k (mv .k (.g 15 rfl)) (.k (mv (.o 16 rfl rfl rfl) (.b 0 rfl)) (.k (mv (.o 16 rfl rfl rfl) (.b 3 rfl)) (.k (idx_ (.o 16 rfl rfl rfl) rwS (.g 17 rfl) (.g 18 rfl) rfl (gm p1)) (.k (fat (.o 16 rfl rfl rfl) (.g 19 rfl) aSA rfl) (.k (ldc_at (.o 16 rfl rfl rfl) (.g 20 rfl) tyI) (.k (mv (.o 16 rfl rfl rfl) (.b 2 rfl)) (.k (eq_ (.o 16 rfl rfl rfl) (.g 21 rfl) (.g 22 rfl) (beq_iff_eq.2 h3)) (.k (mv (.o 16 rfl rfl rfl) (.g 23 rfl)) (.k (mv (.o 24 rfl rfl rfl) (.b 0 rfl)) (.k (mv (.o 24 rfl rfl rfl) (.b 3 rfl)) (.k (idx_ (.o 24 rfl rfl rfl) rwS (.g 25 rfl) (.g 26 rfl) rfl (gm p1)) (.k (fat (.o 24 rfl rfl rfl) (.g 27 rfl) aSB rfl) (.k (ldc_at (.o 24 rfl rfl rfl) (.g 28 rfl) tyI) (.k (mv (.o 24 rfl rfl rfl) (.b 1 rfl)) (.k (eq_ (.o 24 rfl rfl rfl) (.g 29 rfl) (.g 30 rfl) (beq_eq_false_iff_ne.2 h4)) (.k (pickT (.o 16 rfl rfl rfl) (.g 24 rfl) (.g 31 rfl)) (.k (pickF .k (.g 16 rfl) (.g 32 rfl)) .n)))))))))))))))))))))))))))))))))) [0,1,2,3] [33] rfl rfl ?_
   refine Tr.cond 4 rfl nofun (fun _=>?_)
   refine Tr.skip (Nx.bkN (Nx.go (Tr.reg [(3,2)] (.k (mv .k (.b 3 rfl)) (.k (add_ .k (.g 0 rfl) .c (wr1 (by omega))) (.k (asg .k (.g 1 rfl)) .n))) [0,1,2] [2] rfl rfl (Nx.again (l.length - (k+1)) (by omega) [.s 0 (svec l),.s 1 (iv a),.s 2 (iv b),.s 7 (iv (((k+1):Nat):Int))] ⟨(k+1),⟨by omega,has_succ p1 (by omega) hinv.2⟩,rfl,rfl⟩ (Sub.all (.cons 0 rfl (.cons 1 rfl (.cons 2 rfl (.cons 3 rfl .nil)))))))))
  ·
   refine Tr.rs [] (.k (mv .k (.b 0 rfl)) (.k (mv .k (.b 3 rfl)) (.k (idx_ .k rwS (.g 0 rfl) (.g 1 rfl) rfl (gm p1)) (.k (fat .k (.g 2 rfl) aSA rfl) (.k (ldc_at .k (.g 3 rfl) tyI) (.k (mv .k (.b 1 rfl)) (.k (eq_ .k (.g 4 rfl) (.g 5 rfl) (beq_iff_eq.2 h1)) (.k (mv .k (.g 6 rfl)) (.k (mv (.o 7 rfl rfl rfl) (.b 0 rfl)) (.k (mv (.o 7 rfl rfl rfl) (.b 3 rfl)) (.k (idx_ (.o 7 rfl rfl rfl) rwS (.g 8 rfl) (.g 9 rfl) rfl (gm p1)) (.k (fat (.o 7 rfl rfl rfl) (.g 10 rfl) aSB rfl) (.k (ldc_at (.o 7 rfl rfl rfl) (.g 11 rfl) tyI) (.k (mv (.o 7 rfl rfl rfl) (.b 2 rfl)) (.k (eq_ (.o 7 rfl rfl rfl) (.g 12 rfl) (.g 13 rfl) (beq_eq_false_iff_ne.2 h2)) (.k (pickT .k (.g 7 rfl) (.g 14 rfl)) (.k (mv .k (.g 15 rfl)) (.k (mv (.o 16 rfl rfl rfl) (.b 0 rfl)) (.k (mv (.o 16 rfl rfl rfl) (.b 3 rfl)) (.k (idx_ (.o 16 rfl rfl rfl) rwS (.g 17 rfl) (.g 18 rfl) rfl (gm p1)) (.k (fat (.o 16 rfl rfl rfl) (.g 19 rfl) aSA rfl) (.k (ldc_at (.o 16 rfl rfl rfl) (.g 20 rfl) tyI) (.k (mv (.o 16 rfl rfl rfl) (.b 2 rfl)) (.k (eq_ (.o 16 rfl rfl rfl) (.g 21 rfl) (.g 22 rfl) (beq_eq_false_iff_ne.2 h3)) (.k (mv (.o 16 rfl rfl rfl) (.g 23 rfl)) (.k (skp (.o 24 rfl rfl rfl)) (.k (skp (.o 24 rfl rfl rfl)) (.k (skp (.o 24 rfl rfl rfl)) (.k (skp (.o 24 rfl rfl rfl)) (.k (skp (.o 24 rfl rfl rfl)) (.k (skp (.o 24 rfl rfl rfl)) (.k (skp (.o 24 rfl rfl rfl)) (.k (pickF (.o 16 rfl rfl rfl) (.g 24 rfl) .c) (.k (pickF .k (.g 16 rfl) (.g 32 rfl)) .n)))))))))))))))))))))))))))))))))) [0,1,2,3] [33] rfl rfl ?_
   refine Tr.cond 4 rfl nofun (fun _=>?_)
   refine Tr.skip (Nx.bkN (Nx.go (Tr.reg [(3,2)] (.k (mv .k (.b 3 rfl)) (.k (add_ .k (.g 0 rfl) .c (wr1 (by omega))) (.k (asg .k (.g 1 rfl)) .n))) [0,1,2] [2] rfl rfl (Nx.again (l.length - (k+1)) (by omega) [.s 0 (svec l),.s 1 (iv a),.s 2 (iv b),.s 7 (iv (((k+1):Nat):Int))] ⟨(k+1),⟨by omega,has_succ p1 (by omega) hinv.2⟩,rfl,rfl⟩ (Sub.all (.cons 0 rfl (.cons 1 rfl (.cons 2 rfl (.cons 3 rfl .nil)))))))))
  ·
   rw [has_yes p1 (by omega)]
   refine Tr.rs [] (.k (mv .k (.b 0 rfl)) (.k (mv .k (.b 3 rfl)) (.k (idx_ .k rwS (.g 0 rfl) (.g 1 rfl) rfl (gm p1)) (.k (fat .k (.g 2 rfl) aSA rfl) (.k (ldc_at .k (.g 3 rfl) tyI) (.k (mv .k (.b 1 rfl)) (.k (eq_ .k (.g 4 rfl) (.g 5 rfl) (beq_eq_false_iff_ne.2 h1)) (.k (mv .k (.g 6 rfl)) (.k (skp (.o 7 rfl rfl rfl)) (.k (skp (.o 7 rfl rfl rfl)) (.k (skp (.o 7 rfl rfl rfl)) (.k (skp (.o 7 rfl rfl rfl)) (.k (skp (.o 7 rfl rfl rfl)) (.k (skp (.o 7 rfl rfl rfl)) (.k (skp (.o 7 rfl rfl rfl)) (.k (pickF .k (.g 7 rfl) .c) (.k (mv .k (.g 15 rfl)) (.k (mv (.o 16 rfl rfl rfl) (.b 0 rfl)) (.k (mv (.o 16 rfl rfl rfl) (.b 3 rfl)) (.k (idx_ (.o 16 rfl rfl rfl) rwS (.g 17 rfl) (.g 18 rfl) rfl (gm p1)) (.k (fat (.o 16 rfl rfl rfl) (.g 19 rfl) aSA rfl) (.k (ldc_at (.o 16 rfl rfl rfl) (.g 20 rfl) tyI) (.k (mv (.o 16 rfl rfl rfl) (.b 2 rfl)) (.k (eq_ (.o 16 rfl rfl rfl) (.g 21 rfl) (.g 22 rfl) (beq_iff_eq.2 h3)) (.k (mv (.o 16 rfl rfl rfl) (.g 23 rfl)) (.k (mv (.o 24 rfl rfl rfl) (.b 0 rfl)) (.k (mv (.o 24 rfl rfl rfl) (.b 3 rfl)) (.k (idx_ (.o 24 rfl rfl rfl) rwS (.g 25 rfl) (.g 26 rfl) rfl (gm p1)) (.k (fat (.o 24 rfl rfl rfl) (.g 27 rfl) aSB rfl) (.k (ldc_at (.o 24 rfl rfl rfl) (.g 28 rfl) tyI) (.k (mv (.o 24 rfl rfl rfl) (.b 1 rfl)) (.k (eq_ (.o 24 rfl rfl rfl) (.g 29 rfl) (.g 30 rfl) (beq_iff_eq.2 h4)) (.k (pickT (.o 16 rfl rfl rfl) (.g 24 rfl) (.g 31 rfl)) (.k (pickF .k (.g 16 rfl) (.g 32 rfl)) .n)))))))))))))))))))))))))))))))))) [0,1,2,3] [33] rfl rfl ?_
   refine Tr.cond 4 rfl (fun _=>?_) nofun
   refine Tr.rs [] (.k (asg .k .c) .n) [] [0] rfl rfl ?_
   refine Tr.ret (end_tmp 0 rfl rfl)
  ·
   refine Tr.rs [] (.k (mv .k (.b 0 rfl)) (.k (mv .k (.b 3 rfl)) (.k (idx_ .k rwS (.g 0 rfl) (.g 1 rfl) rfl (gm p1)) (.k (fat .k (.g 2 rfl) aSA rfl) (.k (ldc_at .k (.g 3 rfl) tyI) (.k (mv .k (.b 1 rfl)) (.k (eq_ .k (.g 4 rfl) (.g 5 rfl) (beq_eq_false_iff_ne.2 h1)) (.k (mv .k (.g 6 rfl)) (.k (skp (.o 7 rfl rfl rfl)) (.k (skp (.o 7 rfl rfl rfl)) (.k (skp (.o 7 rfl rfl rfl)) (.k (skp (.o 7 rfl rfl rfl)) (.k (skp (.o 7 rfl rfl rfl)) (.k (skp (.o 7 rfl rfl rfl)) (.k (skp (.o 7 rfl rfl rfl)) (.k (pickF .k (.g 7 rfl) .c) (.k (mv .k (.g 15 rfl)) (.k (mv (.o 16 rfl rfl rfl) (.b 0 rfl)) (.k (mv (.o 16 rfl rfl rfl) (.b 3 rfl)) (.k (idx_ (.o 16 rfl rfl rfl) rwS (.g 17 rfl) (.g 18 rfl) rfl (gm p1)) (.k (fat (.o 16 rfl rfl rfl) (.g 19 rfl) aSA rfl) (.k (ldc_at (.o 16 rfl rfl rfl) (.g 20 rfl) tyI) (.k (mv (.o 16 rfl rfl rfl) (.b 2 rfl)) (.k (eq_ (.o 16 rfl rfl rfl) (.g 21 rfl) (.g 22 rfl) (beq_iff_eq.2 h3)) (.k (mv (.o 16 rfl rfl rfl) (.g 23 rfl)) (.k (mv (.o 24 rfl rfl rfl) (.b 0 rfl)) (.k (mv (.o 24 rfl rfl rfl) (.b 3 rfl)) (.k (idx_ (.o 24 rfl rfl rfl) rwS (.g 25 rfl) (.g 26 rfl) rfl (gm p1)) (.k (fat (.o 24 rfl rfl rfl) (.g 27 rfl) aSB rfl) (.k (ldc_at (.o 24 rfl rfl rfl) (.g 28 rfl) tyI) (.k (mv (.o 24 rfl rfl rfl) (.b 1 rfl)) (.k (eq_ (.o 24 rfl rfl rfl) (.g 29 rfl) (.g 30 rfl) (beq_eq_false_iff_ne.2 h4)) (.k (pickT (.o 16 rfl rfl rfl) (.g 24 rfl) (.g 31 rfl)) (.k (pickF .k (.g 16 rfl) (.g 32 rfl)) .n)))))))))))))))))))))))))))))))))) [0,1,2,3] [33] rfl rfl ?_
   refine Tr.cond 4 rfl nofun (fun _=>?_)
   refine Tr.skip (Nx.bkN (Nx.go (Tr.reg [(3,2)] (.k (mv .k (.b 3 rfl)) (.k (add_ .k (.g 0 rfl) .c (wr1 (by omega))) (.k (asg .k (.g 1 rfl)) .n))) [0,1,2] [2] rfl rfl (Nx.again (l.length - (k+1)) (by omega) [.s 0 (svec l),.s 1 (iv a),.s 2 (iv b),.s 7 (iv (((k+1):Nat):Int))] ⟨(k+1),⟨by omega,has_succ p1 (by omega) hinv.2⟩,rfl,rfl⟩ (Sub.all (.cons 0 rfl (.cons 1 rfl (.cons 2 rfl (.cons 3 rfl .nil)))))))))
  ·
   refine Tr.rs [] (.k (mv .k (.b 0 rfl)) (.k (mv .k (.b 3 rfl)) (.k (idx_ .k rwS (.g 0 rfl) (.g 1 rfl) rfl (gm p1)) (.k (fat .k (.g 2 rfl) aSA rfl) (.k (ldc_at .k (.g 3 rfl) tyI) (.k (mv .k (.b 1 rfl)) (.k (eq_ .k (.g 4 rfl) (.g 5 rfl) (beq_eq_false_iff_ne.2 h1)) (.k (mv .k (.g 6 rfl)) (.k (skp (.o 7 rfl rfl rfl)) (.k (skp (.o 7 rfl rfl rfl)) (.k (skp (.o 7 rfl rfl rfl)) (.k (skp (.o 7 rfl rfl rfl)) (.k (skp (.o 7 rfl rfl rfl)) (.k (skp (.o 7 rfl rfl rfl)) (.k (skp (.o 7 rfl rfl rfl)) (.k (pickF .k (.g 7 rfl) .c) (.k (mv .k (.g 15 rfl)) (.k (mv (.o 16 rfl rfl rfl) (.b 0 rfl)) (.k (mv (.o 16 rfl rfl rfl) (.b 3 rfl)) (.k (idx_ (.o 16 rfl rfl rfl) rwS (.g 17 rfl) (.g 18 rfl) rfl (gm p1)) (.k (fat (.o 16 rfl rfl rfl) (.g 19 rfl) aSA rfl) (.k (ldc_at (.o 16 rfl rfl rfl) (.g 20 rfl) tyI) (.k (mv (.o 16 rfl rfl rfl) (.b 2 rfl)) (.k (eq_ (.o 16 rfl rfl rfl) (.g 21 rfl) (.g 22 rfl) (beq_eq_false_iff_ne.2 h3)) (.k (mv (.o 16 rfl rfl rfl) (.g 23 rfl)) (.k (skp (.o 24 rfl rfl rfl)) (.k (skp (.o 24 rfl rfl rfl)) (.k (skp (.o 24 rfl rfl rfl)) (.k (skp (.o 24 rfl rfl rfl)) (.k (skp (.o 24 rfl rfl rfl)) (.k (skp (.o 24 rfl rfl rfl)) (.k (skp (.o 24 rfl rfl rfl)) (.k (pickF (.o 16 rfl rfl rfl) (.g 24 rfl) .c) (.k (pickF .k (.g 16 rfl) (.g 32 rfl)) .n)))))))))))))))))))))))))))))))))) [0,1,2,3] [33] rfl rfl ?_
   refine Tr.cond 4 rfl nofun (fun _=>?_)
   refine Tr.skip (Nx.bkN (Nx.go (Tr.reg [(3,2)] (.k (mv .k (.b 3 rfl)) (.k (add_ .k (.g 0 rfl) .c (wr1 (by omega))) (.k (asg .k (.g 1 rfl)) .n))) [0,1,2] [2] rfl rfl (Nx.again (l.length - (k+1)) (by omega) [.s 0 (svec l),.s 1 (iv a),.s 2 (iv b),.s 7 (iv (((k+1):Nat):Int))] ⟨(k+1),⟨by omega,has_succ p1 (by omega) hinv.2⟩,rfl,rfl⟩ (Sub.all (.cons 0 rfl (.cons 1 rfl (.cons 2 rfl (.cons 3 rfl .nil)))))))))
 ·
  obtain rfl:k=l.length:=by have:=of_decide_eq_false e11;omega
  refine Tr.exit (Nx.thX (Nx.thX (Nx.bkX (Nx.go (?_)))))
  have hz:=hinv.2
  rw [List.take_length] at hz
  rw [decide_eq_false (show ¬ ((a,b)∈l∨(b,a)∈l) from fun h=>h.elim hz.1 hz.2)]
  refine Tr.rs [] (.k (asg .k .c) .n) [] [0] rfl rfl ?_
  refine Tr.ret (end_tmp 0 rfl rfl)
end Go.Proofs.YtkgagdjogedoiaaGreat

set_option linter.unusedVariables false
set_option linter.unusedSimpArgs false
set_option maxRecDepth 100000
set_option maxHeartbeats 8000000
namespace Go.Proofs.YtkgagdjogedoiaaGreat
open Go Go.RowKit Go.Proofs.YtkgagdjogedoiaaGreat.Fx Go.Proofs.YtkgagdjogedoiaaGreatW.PrintWords
theorem fn_Sides {t:Int × Int × Int}:FnC Tryz.prog 52 [.is (trv t)] (svec (edg t)):=by
 refine FnC.of (N:=19) Tryz.func52 rfl rfl (Nat.le_of_ble_eq_true rfl) (fun w0 ok0=>?_)
 refine Tr.rs [] (.k (bxx .k (.b 0 rfl)) (.k (asg .k .c) .n)) [] [0] rfl rfl ?_
 refine Tr.rs [] (.k (faddr .k (.b 0 rfl) rfl fTA) (.k (ldc .k (.g 0 rfl) (.b 0 rfl) tyI) (.k (faddr .k (.b 0 rfl) rfl fTB) (.k (ldc .k (.g 2 rfl) (.b 0 rfl) tyI) (.k (bld .k (.k (.g 1 rfl) (.k (.g 3 rfl) .n)) (bS _ _) (aS _ _)) (.k (faddr .k (.b 0 rfl) rfl fTB) (.k (ldc .k (.g 5 rfl) (.b 0 rfl) tyI) (.k (faddr .k (.b 0 rfl) rfl fTC) (.k (ldc .k (.g 7 rfl) (.b 0 rfl) tyI) (.k (bld .k (.k (.g 6 rfl) (.k (.g 8 rfl) .n)) (bS _ _) (aS _ _)) (.k (faddr .k (.b 0 rfl) rfl fTC) (.k (ldc .k (.g 10 rfl) (.b 0 rfl) tyI) (.k (faddr .k (.b 0 rfl) rfl fTA) (.k (ldc .k (.g 12 rfl) (.b 0 rfl) tyI) (.k (bld .k (.k (.g 11 rfl) (.k (.g 13 rfl) .n)) (bS _ _) (aS _ _)) (.k (mkrow .k rwS (.k (.g 4 rfl) (.k (.g 9 rfl) (.k (.g 14 rfl) .n))) rfl rfl (by kernel_rfl)) (.k (asg .k (.g 15 rfl)) .n))))))))))))))))) [] [16] rfl rfl ?_
 refine Tr.ret (end_tmp 0 rfl rfl)
theorem edg_not {t:Int × Int × Int} {j:Nat} {a b:Int} {s:Int × Int} (h:(edg t)[j]?=some s) (hs:¬ (s.1=a∧s.2=b)) (hi:(a,b) ∉ (edg t).take j):(a,b) ∉ (edg t).take (j+1):=by
  rw [take_succ' h]
  simp only [List.mem_append,List.mem_singleton,not_or]
  exact ⟨hi,fun e=>hs (by rw [← e];exact ⟨rfl,rfl⟩)⟩
theorem edg_yes {t:Int × Int × Int} {j:Nat} {a b:Int} {s:Int × Int} (h:(edg t)[j]?=some s) (h1:s.1=a) (h2:s.2=b):(a,b)∈edg t:=by
  subst h1 h2
  exact List.mem_of_getElem? h
theorem fn_Left {T:List (Int × Int × Int)} {a b:Int} (hl:T.length≤1000000):FnC Tryz.prog 48 [tvec T,iv a,iv b] (iv (leftR T a b)):=by
 refine FnC.of (N:=42) Tryz.func48 rfl rfl (Nat.le_of_ble_eq_true rfl) (fun w0 ok0=>?_)
 refine Tr.rs [] (.k (asg .k .c) .n) [0,1,2] [] rfl rfl ?_
 refine Tr.seq (Tr.rs [] (.k (asg .k .c) .n) [0,1,2] [0] rfl rfl ?_)
 refine Tr.block (?_)
 refine Tr.loop (fun n_ F_=>∃ k:Nat,(k≤T.length∧∀ j,0≤j→j < k→leftB T (a,b) j=false)∧n_=T.length - k∧F_=[.s 0 (tvec T),.s 1 (iv a),.s 2 (iv b),.s 7 (iv ((k:Nat):Int))]) (T.length - 0) (F0:=[.s 0 (tvec T),.s 1 (iv a),.s 2 (iv b),.s 7 (iv ((0:Nat):Int))]) ⟨0,⟨Nat.zero_le _,fun j _ h=>by omega⟩,rfl,rfl⟩ (Sub.all (.cons 0 rfl (.cons 1 rfl (.cons 2 rfl (.cons 3 rfl .nil))))) (fun n_ F_ hI=>?_)
 obtain ⟨k,hinv,rfl,rfl⟩:=hI
 refine Tr.seq (Tr.rs [] (.k (mv .k (.b 3 rfl)) (.k (mv .k (.b 0 rfl)) (.k (len_ .k rwT (.g 1 rfl) (by rw [List.length_map])) (.k (lt_ .k (.g 0 rfl) (.g 2 rfl) rfl) .n)))) [0,1,2,3] [3] rfl rfl ?_)
 refine Tr.cond 4 rfl (fun e13=>?_) (fun e13=>?_)
 ·
  have hk2:k < T.length:=by have:=of_decide_eq_true e13;omega
  refine Tr.skip (Nx.go (Tr.seq (Tr.block (?_))))
  obtain ⟨t,p1⟩:∃ t,T[k]?=some t:=⟨_,List.getElem?_eq_getElem hk2⟩
  refine Tr.rs [] (.k (mv .k (.b 0 rfl)) (.k (mv .k (.b 3 rfl)) (.k (idx_ .k rwT (.g 0 rfl) (.g 1 rfl) rfl (gm p1)) (.k (ld_at .k (.g 2 rfl) tyT rfl (show _=trv (_,_,_) from rfl)) (.k (cal .k Tryz.func52 rfl fn_Sides (.k (.g 3 rfl) .n)) (.k (asg .k (.g 4 rfl)) .n)))))) [0,1,2,3] [5] rfl rfl ?_
  refine Tr.rs [] (.k (asg .k .c) .n) [0,1,2,3,4] [0] rfl rfl ?_
  refine Tr.block (?_)
  refine Tr.loop (fun n_ F_=>∃ j:Nat,(j≤3∧(a,b) ∉ (edg t).take j)∧n_=3 - j∧F_=[.s 0 (tvec T),.s 1 (iv a),.s 2 (iv b),.s 7 (iv ((k:Nat):Int)),.s 8 (svec (edg t)),.s 9 (iv ((j:Nat):Int))]) (3 - 0) (F0:=[.s 0 (tvec T),.s 1 (iv a),.s 2 (iv b),.s 7 (iv ((k:Nat):Int)),.s 8 (svec (edg t)),.s 9 (iv ((0:Nat):Int))]) ⟨0,⟨Nat.zero_le _,by simp⟩,rfl,rfl⟩ (Sub.all (.cons 0 rfl (.cons 1 rfl (.cons 2 rfl (.cons 3 rfl (.cons 4 rfl (.cons 5 rfl .nil))))))) (fun n_ F_ hI=>?_)
  obtain ⟨j,hjv,rfl,rfl⟩:=hI
  refine Tr.seq (Tr.rs [] (.k (mv .k (.b 5 rfl)) (.k (lt_ .k (.g 0 rfl) .c rfl) .n)) [0,1,2,3,4,5] [1] rfl rfl ?_)
  refine Tr.cond 6 rfl (fun e22=>?_) (fun e22=>?_)
  ·
   have hj2:j < 3:=by have:=of_decide_eq_true e22;omega
   refine Tr.skip (Nx.go (Tr.seq (Tr.block (?_))))
   obtain ⟨s,p2⟩:∃ s,(edg t)[j]?=some s:=⟨_,List.getElem?_eq_getElem (show j < (edg t).length from hj2)⟩;rcases (show (s.1=a∧s.2=b)∨(s.1=a∧s.2≠b)∨s.1≠a by omega) with ⟨h1,h2⟩|⟨h1,h2⟩|h1
   ·
    rw [show leftR T a b=(k:Int) from first_at hinv.2 ((leftB_at p1).trans (decide_eq_true (edg_yes p2 h1 h2))) (Nat.zero_le _) (by omega)]
    refine Tr.rs [] (.k (mv .k (.b 4 rfl)) (.k (mv .k (.b 5 rfl)) (.k (idx_ .k rwS (.g 0 rfl) (.g 1 rfl) rfl (gm p2)) (.k (fat .k (.g 2 rfl) aSA rfl) (.k (ldc_at .k (.g 3 rfl) tyI) (.k (mv .k (.b 1 rfl)) (.k (eq_ .k (.g 4 rfl) (.g 5 rfl) (beq_iff_eq.2 h1)) (.k (mv .k (.g 6 rfl)) (.k (mv (.o 7 rfl rfl rfl) (.b 4 rfl)) (.k (mv (.o 7 rfl rfl rfl) (.b 5 rfl)) (.k (idx_ (.o 7 rfl rfl rfl) rwS (.g 8 rfl) (.g 9 rfl) rfl (gm p2)) (.k (fat (.o 7 rfl rfl rfl) (.g 10 rfl) aSB rfl) (.k (ldc_at (.o 7 rfl rfl rfl) (.g 11 rfl) tyI) (.k (mv (.o 7 rfl rfl rfl) (.b 2 rfl)) (.k (eq_ (.o 7 rfl rfl rfl) (.g 12 rfl) (.g 13 rfl) (beq_iff_eq.2 h2)) (.k (pickT .k (.g 7 rfl) (.g 14 rfl)) .n)))))))))))))))) [0,1,2,3,4,5] [15] rfl rfl ?_
    refine Tr.cond 6 rfl (fun _=>?_) nofun
    refine Tr.rs [] (.k (mv .k (.b 3 rfl)) (.k (asg .k (.g 0 rfl)) .n)) [] [1] rfl rfl ?_
    refine Tr.ret (end_tmp 0 rfl rfl)
   ·
    refine Tr.rs [] (.k (mv .k (.b 4 rfl)) (.k (mv .k (.b 5 rfl)) (.k (idx_ .k rwS (.g 0 rfl) (.g 1 rfl) rfl (gm p2)) (.k (fat .k (.g 2 rfl) aSA rfl) (.k (ldc_at .k (.g 3 rfl) tyI) (.k (mv .k (.b 1 rfl)) (.k (eq_ .k (.g 4 rfl) (.g 5 rfl) (beq_iff_eq.2 h1)) (.k (mv .k (.g 6 rfl)) (.k (mv (.o 7 rfl rfl rfl) (.b 4 rfl)) (.k (mv (.o 7 rfl rfl rfl) (.b 5 rfl)) (.k (idx_ (.o 7 rfl rfl rfl) rwS (.g 8 rfl) (.g 9 rfl) rfl (gm p2)) (.k (fat (.o 7 rfl rfl rfl) (.g 10 rfl) aSB rfl) (.k (ldc_at (.o 7 rfl rfl rfl) (.g 11 rfl) tyI) (.k (mv (.o 7 rfl rfl rfl) (.b 2 rfl)) (.k (eq_ (.o 7 rfl rfl rfl) (.g 12 rfl) (.g 13 rfl) (beq_eq_false_iff_ne.2 h2)) (.k (pickT .k (.g 7 rfl) (.g 14 rfl)) .n)))))))))))))))) [0,1,2,3,4,5] [15] rfl rfl ?_
    refine Tr.cond 6 rfl nofun (fun _=>?_)
    refine Tr.skip (Nx.bkN (Nx.go (Tr.reg [(5,2)] (.k (mv .k (.b 5 rfl)) (.k (add_ .k (.g 0 rfl) .c (wr1 (by omega))) (.k (asg .k (.g 1 rfl)) .n))) [0,1,2,3,4] [2] rfl rfl (Nx.again (3 - (j+1)) (by omega) [.s 0 (tvec T),.s 1 (iv a),.s 2 (iv b),.s 7 (iv ((k:Nat):Int)),.s 8 (svec (edg t)),.s 9 (iv (((j+1):Nat):Int))] ⟨(j+1),⟨by omega,edg_not p2 (by omega) hjv.2⟩,rfl,rfl⟩ (Sub.all (.cons 0 rfl (.cons 1 rfl (.cons 2 rfl (.cons 3 rfl (.cons 4 rfl (.cons 5 rfl .nil)))))))))))
   ·
    refine Tr.rs [] (.k (mv .k (.b 4 rfl)) (.k (mv .k (.b 5 rfl)) (.k (idx_ .k rwS (.g 0 rfl) (.g 1 rfl) rfl (gm p2)) (.k (fat .k (.g 2 rfl) aSA rfl) (.k (ldc_at .k (.g 3 rfl) tyI) (.k (mv .k (.b 1 rfl)) (.k (eq_ .k (.g 4 rfl) (.g 5 rfl) (beq_eq_false_iff_ne.2 h1)) (.k (mv .k (.g 6 rfl)) (.k (skp (.o 7 rfl rfl rfl)) (.k (skp (.o 7 rfl rfl rfl)) (.k (skp (.o 7 rfl rfl rfl)) (.k (skp (.o 7 rfl rfl rfl)) (.k (skp (.o 7 rfl rfl rfl)) (.k (skp (.o 7 rfl rfl rfl)) (.k (skp (.o 7 rfl rfl rfl)) (.k (pickF .k (.g 7 rfl) .c) .n)))))))))))))))) [0,1,2,3,4,5] [15] rfl rfl ?_
    refine Tr.cond 6 rfl nofun (fun _=>?_)
    refine Tr.skip (Nx.bkN (Nx.go (Tr.reg [(5,2)] (.k (mv .k (.b 5 rfl)) (.k (add_ .k (.g 0 rfl) .c (wr1 (by omega))) (.k (asg .k (.g 1 rfl)) .n))) [0,1,2,3,4] [2] rfl rfl (Nx.again (3 - (j+1)) (by omega) [.s 0 (tvec T),.s 1 (iv a),.s 2 (iv b),.s 7 (iv ((k:Nat):Int)),.s 8 (svec (edg t)),.s 9 (iv (((j+1):Nat):Int))] ⟨(j+1),⟨by omega,edg_not p2 (by omega) hjv.2⟩,rfl,rfl⟩ (Sub.all (.cons 0 rfl (.cons 1 rfl (.cons 2 rfl (.cons 3 rfl (.cons 4 rfl (.cons 5 rfl .nil)))))))))))
  ·
   obtain rfl:j=3:=by have:=of_decide_eq_false e22;omega
   refine Tr.exit (Nx.thX (Nx.thX (Nx.bkX (Nx.bkN (Nx.go (?_))))))
   have hno:(a,b) ∉ edg t:=hjv.2
   refine Tr.reg [(3,2)] (.k (mv .k (.b 3 rfl)) (.k (add_ .k (.g 0 rfl) .c (wr1 (by omega))) (.k (asg .k (.g 1 rfl)) .n))) [0,1,2] [2] rfl rfl (Nx.again (T.length - (k+1)) (by omega) [.s 0 (tvec T),.s 1 (iv a),.s 2 (iv b),.s 7 (iv (((k+1):Nat):Int))] ⟨(k+1),⟨by omega,none_succ hinv.2 ((leftB_at p1).trans (decide_eq_false hno))⟩,rfl,rfl⟩ (Sub.all (.cons 0 rfl (.cons 1 rfl (.cons 2 rfl (.cons 3 rfl .nil))))))
 ·
  obtain rfl:k=T.length:=by have:=of_decide_eq_false e13;omega
  refine Tr.exit (Nx.thX (Nx.thX (Nx.bkX (Nx.go (?_)))))
  rw [show leftR T a b = -1 from first_none fun j h0 h=>hinv.2 j h0 (by omega)]
  refine Tr.rs [] (.k (asg .k .c) .n) [] [0] rfl rfl ?_
  refine Tr.ret (end_tmp 0 rfl rfl)
end Go.Proofs.YtkgagdjogedoiaaGreat

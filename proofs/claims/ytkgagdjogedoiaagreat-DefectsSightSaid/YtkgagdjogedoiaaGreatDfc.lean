import Derived.Test.YtkgagdjogedoiaaGreatDf9
import Derived.Test.YtkgagdjogedoiaaGreatDp9
import Derived.Test.YtkgagdjogedoiaaGreatCx
set_option linter.unusedVariables false
set_option linter.unusedSimpArgs false
set_option maxRecDepth 100000
set_option maxHeartbeats 8000000
namespace Go.Proofs.YtkgagdjogedoiaaGreat
open Go Go.RowKit Go.Proofs.YtkgagdjogedoiaaGreat.Fx Go.Proofs.YtkgagdjogedoiaaGreatW.PrintWords
theorem fn_Check' {P:List (Int × Int)} {T:List (Int × Int × Int)} {S:List (Int × Int)} (hP:P.length≤1000000) (hT:T.length≤1000000) (hS:S.length≤1000000) (hw:∀ s∈S,(Lit.int .i64 s.1).wf=true∧(Lit.int .i64 s.2).wf=true):FnC Tryz.prog 26 [SP.mesh P T S] (iv (mC P T S)):=fn_Check hP hT hS hw
theorem fn_Crowded {P:List (Int × Int)} {T:List (Int × Int × Int)} {S:List (Int × Int)} (hP:P.length≤1000000) (hT:T.length≤1000000) (hS:S.length≤1000000) (hw:∀ s∈S,(Lit.int .i64 s.1).wf=true∧(Lit.int .i64 s.2).wf=true):FnC Tryz.prog 9 [SP.mesh P T S] (.tup [ivec (crdL P T S),iv (mC P T S)]):=by
 refine FnC.of (N:=14) Tryz.func9 rfl rfl (Nat.le_of_ble_eq_true rfl) (fun w0 ok0=>?_)
 refine Tr.rs [] (.k (bxx .k (.b 0 rfl)) (.k (nilv (sz:=1) .k (.inl rfl)) (.k (asg .k .c) .n))) [] [0] rfl rfl ?_
 refine Tr.seq (Tr.rs [] (.k (ld .k (.b 0 rfl) tyM) (.k (cal .k Tryz.func26 rfl (fn_Check' hP hT hS hw) (.k (.g 0 rfl) .n)) (.k (asg .k (.g 1 rfl)) .n))) [0] [2] rfl rfl ?_)
 rcases mC_two (P:=P) (T:=T) (S:=S) with hc|hc
 ·
  rw [crdL_of hc,hc]
  refine Tr.rs [] (.k (mv .k (.b 1 rfl)) (.k (ne_ .k (.g 0 rfl) .c rfl) .n)) [0,1] [1] rfl rfl ?_
  refine Tr.cond 2 rfl nofun (fun _=>?_)
  refine Tr.skip (Nx.go (?_))
  refine Tr.frzb 0 [1,2] rfl rfl ?_
  refine Tr.rs [] (.k (fap .k (.b 0 rfl) fMS) (.k (ldv .k (.g 0 rfl) tyvS) (.k (mkf .k (.k (.b 0 rfl) .n)) (.k (cal .k Tryz.func27 rfl (fn_whichS (p:=fun s=>decide (((crw P T s).length:Int) > 0)) hS Tryz.func28 rfl (fun s hs=>fn_CrF hP hT (mC_ok hc) hs)) (.k (.g 1 rfl) (.k (.g 2 rfl) .n))) (.k (asg .k (.g 3 rfl)) (.k (asg .k .c) .n)))))) [] [4,5] rfl rfl ?_
  refine Tr.ret (end_tmp2 0 1 rfl rfl rfl)
 ·
  rw [crdL_no hc]
  refine Tr.rs [] (.k (mv .k (.b 1 rfl)) (.k (ne_ .k (.g 0 rfl) .c (bne_iff_ne.2 (by rw [hc];decide))) .n)) [0,1] [1] rfl rfl ?_
  refine Tr.cond 2 rfl (fun _=>?_) nofun
  refine Tr.rs [] (.k (mv .k (.b 1 rfl)) (.k (nilv (sz:=1) .k (.inl rfl)) (.k (asg .k (.g 0 rfl)) .n))) [] [1,2] rfl rfl ?_
  refine Tr.ret (end_tmp2 0 1 rfl rfl rfl)
theorem fn_SkinnyM {P:List (Int × Int)} {T:List (Int × Int × Int)} {S:List (Int × Int)} (hP:P.length≤1000000) (hT:T.length≤1000000) (hS:S.length≤1000000) (hw:∀ s∈S,(Lit.int .i64 s.1).wf=true∧(Lit.int .i64 s.2).wf=true):FnC Tryz.prog 11 [SP.mesh P T S] (.tup [ivec (sknL P T S),iv (mC P T S)]):=by
 refine FnC.of (N:=14) Tryz.func11 rfl rfl (Nat.le_of_ble_eq_true rfl) (fun w0 ok0=>?_)
 refine Tr.rs [] (.k (bxx .k (.b 0 rfl)) (.k (nilv (sz:=1) .k (.inl rfl)) (.k (asg .k .c) .n))) [] [0] rfl rfl ?_
 refine Tr.seq (Tr.rs [] (.k (ld .k (.b 0 rfl) tyM) (.k (cal .k Tryz.func26 rfl (fn_Check' hP hT hS hw) (.k (.g 0 rfl) .n)) (.k (asg .k (.g 1 rfl)) .n))) [0] [2] rfl rfl ?_)
 rcases mC_two (P:=P) (T:=T) (S:=S) with hc|hc
 ·
  rw [sknL_of hc,hc]
  refine Tr.rs [] (.k (mv .k (.b 1 rfl)) (.k (ne_ .k (.g 0 rfl) .c rfl) .n)) [0,1] [1] rfl rfl ?_
  refine Tr.cond 2 rfl nofun (fun _=>?_)
  refine Tr.skip (Nx.go (?_))
  refine Tr.frzb 0 [1,2] rfl rfl ?_
  refine Tr.rs [] (.k (fap .k (.b 0 rfl) fMT) (.k (ldv .k (.g 0 rfl) tyvT) (.k (mkf .k (.k (.b 0 rfl) .n)) (.k (cal .k Tryz.func31 rfl (fn_whichT (p:=sP P) hT Tryz.func32 rfl (fun t ht=>fn_SkF (mC_ok hc) ht)) (.k (.g 1 rfl) (.k (.g 2 rfl) .n))) (.k (asg .k (.g 3 rfl)) (.k (asg .k .c) .n)))))) [] [4,5] rfl rfl ?_
  refine Tr.ret (end_tmp2 0 1 rfl rfl rfl)
 ·
  rw [sknL_no hc]
  refine Tr.rs [] (.k (mv .k (.b 1 rfl)) (.k (ne_ .k (.g 0 rfl) .c (bne_iff_ne.2 (by rw [hc];decide))) .n)) [0,1] [1] rfl rfl ?_
  refine Tr.cond 2 rfl (fun _=>?_) nofun
  refine Tr.rs [] (.k (mv .k (.b 1 rfl)) (.k (nilv (sz:=1) .k (.inl rfl)) (.k (asg .k (.g 0 rfl)) .n))) [] [1,2] rfl rfl ?_
  refine Tr.ret (end_tmp2 0 1 rfl rfl rfl)
theorem fn_Near {P:List (Int × Int)} {T:List (Int × Int × Int)} {S:List (Int × Int)} {q:Int × Int} (hP:P.length≤1000000) (hT:T.length≤1000000) (hS:S.length≤1000000) (hw:∀ s∈S,(Lit.int .i64 s.1).wf=true∧(Lit.int .i64 s.2).wf=true):FnC Tryz.prog 13 [SP.mesh P T S,.is (ptv q.1 q.2)] (.tup [iv (nerR P T S q).1,bv (nerR P T S q).2]):=by
 refine FnC.of (N:=20) Tryz.func13 rfl rfl (Nat.le_of_ble_eq_true rfl) (fun w0 ok0=>?_)
 refine Tr.rs [] (.k (bxx .k (.b 0 rfl)) (.k (bxx .k (.b 1 rfl)) (.k (asg .k .c) (.k (asg .k .c) .n)))) [] [0,1] rfl rfl ?_
 rcases mC_two (P:=P) (T:=T) (S:=S) with hc|hc
 ·
  refine Tr.seq (Tr.rs [] (.k (ld .k (.b 0 rfl) tyM) (.k (cal .k Tryz.func26 rfl (fn_Check' hP hT hS hw) (.k (.g 0 rfl) .n)) (.k (ne_ .k (.g 1 rfl) .c (bne_eq_false_iff_eq.2 hc)) .n))) [0,1] [2] rfl rfl ?_)
  refine Tr.cond 2 rfl nofun (fun _=>?_)
  refine Tr.skip (Nx.go (?_))
  refine Tr.frzb 0 [1,2] rfl rfl ?_
  refine Tr.frzb 1 [0,2] rfl rfl ?_
  refine Tr.rs [] (.k (fap .k (.b 1 rfl) fMS) (.k (ldv .k (.g 0 rfl) tyvS) (.k (mkf .k (.k (.b 1 rfl) (.k (.b 0 rfl) .n))) (.k (cal .k Tryz.func27 rfl (fn_whichS (p:=nP P q) hS Tryz.func35 rfl (fun s hs=>fn_NeF (mC_ok hc) hs)) (.k (.g 1 rfl) (.k (.g 2 rfl) .n))) (.k (asg .k (.g 3 rfl)) .n))))) [] [4] rfl rfl ?_
  rcases idxs_first (b:=atB S (nP P q)) (n:=S.length) with ⟨h1,h2⟩|⟨k,r,h1,h2,h3,h4⟩
  ·
   rw [nerR_of hc,fst_no h2,h1]
   refine Tr.seq (Tr.rs [] (.k (mv .k (.b 0 rfl)) (.k (len_ .k rwI (.g 0 rfl) rfl) (.k (eq_ .k (.g 1 rfl) .c (beq_iff_eq.2 rfl)) .n))) [0] [2] rfl rfl ?_)
   refine Tr.cond 1 rfl (fun _=>?_) nofun
   refine Tr.rs [] (.k (asg .k .c) (.k (asg .k .c) .n)) [] [0,1] rfl rfl ?_
   refine Tr.ret (end_tmp2 0 1 rfl rfl rfl)
  ·
   rw [nerR_of hc,fst_at h2 h3 h4,h1]
   refine Tr.seq (Tr.rs [] (.k (mv .k (.b 0 rfl)) (.k (len_ .k rwI (.g 0 rfl) rfl) (.k (eq_ .k (.g 1 rfl) .c (beq_eq_false_iff_ne.2 (by simp;omega))) .n))) [0] [2] rfl rfl ?_)
   refine Tr.cond 1 rfl nofun (fun _=>?_)
   refine Tr.skip (Nx.go (Tr.rs [] (.k (mv .k (.b 0 rfl)) (.k (idx_ .k rwI (.g 0 rfl) .c rfl rfl) (.k (ldc_at .k (.g 1 rfl) tyI) (.k (asg .k (.g 2 rfl)) (.k (asg .k .c) .n))))) [] [3,4] rfl rfl ?_))
   refine Tr.ret (end_tmp2 0 1 rfl rfl rfl)
 ·
  rw [nerR_no hc]
  refine Tr.seq (Tr.rs [] (.k (ld .k (.b 0 rfl) tyM) (.k (cal .k Tryz.func26 rfl (fn_Check' hP hT hS hw) (.k (.g 0 rfl) .n)) (.k (ne_ .k (.g 1 rfl) .c (bne_iff_ne.2 (by rw [hc];decide))) .n))) [0,1] [2] rfl rfl ?_)
  refine Tr.cond 2 rfl (fun _=>?_) nofun
  refine Tr.rs [] (.k (asg .k .c) (.k (asg .k .c) .n)) [] [0,1] rfl rfl ?_
  refine Tr.ret (end_tmp2 0 1 rfl rfl rfl)
theorem crdL_len (P:List (Int × Int)) (T:List (Int × Int × Int)) (S:List (Int × Int)):(crdL P T S).length≤S.length:=by
  unfold crdL
  split
  · exact idxs_len _ _
  · simp
theorem sknL_len (P:List (Int × Int)) (T:List (Int × Int × Int)) (S:List (Int × Int)):(sknL P T S).length≤T.length:=by
  unfold sknL
  split
  · exact idxs_len _ _
  · simp
theorem goodR_of {P:List (Int × Int)} {T:List (Int × Int × Int)} {S:List (Int × Int)} (h:mC P T S=0):goodR P T S=(((crdL P T S).length:Int)+((sknL P T S).length:Int)==0):=by
  unfold goodR
  rw [decide_eq_true h,Bool.true_and]
theorem goodR_no {P:List (Int × Int)} {T:List (Int × Int × Int)} {S:List (Int × Int)} (h:mC P T S=2):goodR P T S=false:=by
  unfold goodR
  rw [decide_eq_false (by omega),Bool.false_and]
theorem crwL_of {P:List (Int × Int)} {T:List (Int × Int × Int)} {S:List (Int × Int)} {s:Int × Int} (h:mC P T S=0) (hs:s∈S):crwL P T S s=crw P T s:=if_pos ⟨h,hs⟩
theorem crwL_no {P:List (Int × Int)} {T:List (Int × Int × Int)} {S:List (Int × Int)} {s:Int × Int} (h:mC P T S=2∨s ∉ S):crwL P T S s=[]:=if_neg fun hh=>by
  rcases h with h|h
  · have:=hh.1;omega
  · exact h hh.2
theorem fn_Good {P:List (Int × Int)} {T:List (Int × Int × Int)} {S:List (Int × Int)} (hP:P.length≤1000000) (hT:T.length≤1000000) (hS:S.length≤1000000) (hw:∀ s∈S,(Lit.int .i64 s.1).wf=true∧(Lit.int .i64 s.2).wf=true):FnC Tryz.prog 18 [SP.mesh P T S] (bv (goodR P T S)):=by
 refine FnC.of (N:=27) Tryz.func18 rfl rfl (Nat.le_of_ble_eq_true rfl) (fun w0 ok0=>?_)
 refine Tr.rs [] (.k (bxx .k (.b 0 rfl)) (.k (asg .k .c) .n)) [] [0] rfl rfl ?_
 refine Tr.rs [] (.k (ld .k (.b 0 rfl) tyM) (.k (cal .k Tryz.func9 rfl (fn_Crowded hP hT hS hw) (.k (.g 0 rfl) .n)) (.k (mv .k (.g 1 rfl)) (.k (exx .k (.g 2 rfl) rfl) (.k (exx .k (.g 2 rfl) rfl) (.k (asg .k (.g 3 rfl)) (.k (asg .k (.g 4 rfl)) .n))))))) [0] [5,6] rfl rfl ?_
 refine Tr.rs [] (.k (ld .k (.b 0 rfl) tyM) (.k (cal .k Tryz.func11 rfl (fn_SkinnyM hP hT hS hw) (.k (.g 0 rfl) .n)) (.k (mv .k (.g 1 rfl)) (.k (exx .k (.g 2 rfl) rfl) (.k (exx .k (.g 2 rfl) rfl) (.k (asg .k (.g 3 rfl)) (.k (asg .k (.g 4 rfl)) .n))))))) [1,2] [5] rfl rfl ?_
 rcases mC_two (P:=P) (T:=T) (S:=S) with hc|hc
 ·
  rw [goodR_of hc]
  have l1:=crdL_len P T S
  have l2:=sknL_len P T S
  refine Tr.rs [] (.k (mv .k (.b 1 rfl)) (.k (eq_ .k (.g 0 rfl) .c (beq_iff_eq.2 hc)) (.k (mv .k (.g 1 rfl)) (.k (mv (.o 2 rfl rfl rfl) (.b 0 rfl)) (.k (len_ (.o 2 rfl rfl rfl) rwI (.g 3 rfl) (by rw [List.length_map])) (.k (mv (.o 2 rfl rfl rfl) (.b 2 rfl)) (.k (len_ (.o 2 rfl rfl rfl) rwI (.g 5 rfl) (by rw [List.length_map])) (.k (add_ (.o 2 rfl rfl rfl) (.g 4 rfl) (.g 6 rfl) (show IntKind.i64.wrap (((crdL P T S).length:Int)+((sknL P T S).length:Int))=_ from IntWalk.i64_in _ (by omega))) (.k (eq_ (.o 2 rfl rfl rfl) (.g 7 rfl) .c rfl) (.k (pickT .k (.g 2 rfl) (.g 8 rfl)) (.k (asg .k (.g 9 rfl)) .n))))))))))) [] [10] rfl rfl ?_
  refine Tr.ret (end_tmp 0 rfl rfl)
 ·
  rw [goodR_no hc]
  refine Tr.rs [] (.k (mv .k (.b 1 rfl)) (.k (eq_ .k (.g 0 rfl) .c (beq_eq_false_iff_ne.2 (by rw [hc];decide))) (.k (mv .k (.g 1 rfl)) (.k (skp (.o 2 rfl rfl rfl)) (.k (skp (.o 2 rfl rfl rfl)) (.k (skp (.o 2 rfl rfl rfl)) (.k (skp (.o 2 rfl rfl rfl)) (.k (skp (.o 2 rfl rfl rfl)) (.k (skp (.o 2 rfl rfl rfl)) (.k (pickF .k (.g 2 rfl) .c) (.k (asg .k (.g 9 rfl)) .n))))))))))) [] [10] rfl rfl ?_
  refine Tr.ret (end_tmp 0 rfl rfl)
theorem crds_ways (P:List (Int × Int)) (T:List (Int × Int × Int)) (S:List (Int × Int)) (s:Int × Int):mC P T S=2∨(mC P T S=0∧s ∉ S)∨(mC P T S=0∧s∈S):=by
  rcases mC_two (P:=P) (T:=T) (S:=S) with h|h
  · by_cases hs:s∈S
    · exact .inr (.inr ⟨h,hs⟩)
    · exact .inr (.inl ⟨h,hs⟩)
  · exact .inl h
theorem fn_ContainsT {l:List (Int × Int)} {s:Int × Int} (hl:l.length≤1000000) (h:s∈l):FnC Tryz.prog 37 [svec l,.is (sgv s)] (bv true):=decide_eq_true h ▸ fn_Contains hl
theorem fn_ContainsF {l:List (Int × Int)} {s:Int × Int} (hl:l.length≤1000000) (h:s ∉ l):FnC Tryz.prog 37 [svec l,.is (sgv s)] (bv false):=decide_eq_false h ▸ fn_Contains hl
theorem fn_Crowds {P:List (Int × Int)} {T:List (Int × Int × Int)} {S:List (Int × Int)} {s:Int × Int} (hP:P.length≤1000000) (hT:T.length≤1000000) (hS:S.length≤1000000) (hw:∀ s∈S,(Lit.int .i64 s.1).wf=true∧(Lit.int .i64 s.2).wf=true):FnC Tryz.prog 15 [SP.mesh P T S,.is (sgv s)] (ivec (crwL P T S s)):=by
 refine FnC.of (N:=18) Tryz.func15 rfl rfl (Nat.le_of_ble_eq_true rfl) (fun w0 ok0=>?_)
 refine Tr.rs [] (.k (bxx .k (.b 0 rfl)) (.k (bxx .k (.b 1 rfl)) (.k (nilv (sz:=1) .k (.inl rfl)) .n))) [] [0,1] rfl rfl ?_
 rcases crds_ways P T S s with hc|⟨hc,hs⟩|⟨hc,hs⟩
 ·
  rw [crwL_no (.inl hc)]
  refine Tr.seq (Tr.rs [] (.k (ld .k (.b 0 rfl) tyM) (.k (cal .k Tryz.func26 rfl (fn_Check' hP hT hS hw) (.k (.g 0 rfl) .n)) (.k (ne_ .k (.g 1 rfl) .c (bne_iff_ne.2 (by rw [hc];decide))) (.k (mv .k (.g 2 rfl)) (.k (skp (.o 3 rfl rfl rfl)) (.k (skp (.o 3 rfl rfl rfl)) (.k (skp (.o 3 rfl rfl rfl)) (.k (skp (.o 3 rfl rfl rfl)) (.k (skp (.o 3 rfl rfl rfl)) (.k (pickT .k (.g 3 rfl) .c) .n)))))))))) [0,1] [9] rfl rfl ?_)
  refine Tr.cond 2 rfl (fun _=>?_) nofun
  refine Tr.rs [] (.k (nilv (sz:=1) .k (.inl rfl)) .n) [] [0] rfl rfl ?_
  refine Tr.ret (end_tmp 0 rfl rfl)
 ·
  rw [crwL_no (.inr hs)]
  refine Tr.seq (Tr.rs [] (.k (ld .k (.b 0 rfl) tyM) (.k (cal .k Tryz.func26 rfl (fn_Check' hP hT hS hw) (.k (.g 0 rfl) .n)) (.k (ne_ .k (.g 1 rfl) .c (bne_eq_false_iff_eq.2 hc)) (.k (mv .k (.g 2 rfl)) (.k (faddr (.o 3 rfl rfl rfl) (.b 0 rfl) rfl fMS) (.k (ldc (.o 3 rfl rfl rfl) (.g 4 rfl) (.b 0 rfl) tyvS) (.k (ld (.o 3 rfl rfl rfl) (.b 1 rfl) tyS) (.k (cal (.o 3 rfl rfl rfl) Tryz.func37 rfl (fn_ContainsF hS hs) (.k (.g 5 rfl) (.k (.g 6 rfl) .n))) (.k (not_ (.o 3 rfl rfl rfl) (.g 7 rfl)) (.k (pickF .k (.g 3 rfl) (.g 8 rfl)) .n)))))))))) [0,1] [9] rfl rfl ?_)
  refine Tr.cond 2 rfl (fun _=>?_) nofun
  refine Tr.rs [] (.k (nilv (sz:=1) .k (.inl rfl)) .n) [] [0] rfl rfl ?_
  refine Tr.ret (end_tmp 0 rfl rfl)
 ·
  rw [crwL_of hc hs]
  refine Tr.seq (Tr.rs [] (.k (ld .k (.b 0 rfl) tyM) (.k (cal .k Tryz.func26 rfl (fn_Check' hP hT hS hw) (.k (.g 0 rfl) .n)) (.k (ne_ .k (.g 1 rfl) .c (bne_eq_false_iff_eq.2 hc)) (.k (mv .k (.g 2 rfl)) (.k (faddr (.o 3 rfl rfl rfl) (.b 0 rfl) rfl fMS) (.k (ldc (.o 3 rfl rfl rfl) (.g 4 rfl) (.b 0 rfl) tyvS) (.k (ld (.o 3 rfl rfl rfl) (.b 1 rfl) tyS) (.k (cal (.o 3 rfl rfl rfl) Tryz.func37 rfl (fn_ContainsT hS hs) (.k (.g 5 rfl) (.k (.g 6 rfl) .n))) (.k (not_ (.o 3 rfl rfl rfl) (.g 7 rfl)) (.k (pickF .k (.g 3 rfl) (.g 8 rfl)) .n)))))))))) [0,1] [9] rfl rfl ?_)
  refine Tr.cond 2 rfl nofun (fun _=>?_)
  refine Tr.skip (Nx.go (Tr.rs [] (.k (ld .k (.b 0 rfl) tyM) (.k (ld .k (.b 1 rfl) tyS) (.k (cal .k Tryz.func29 rfl (fn_crowds hP hT (mC_ok hc) hs) (.k (.g 0 rfl) (.k (.g 1 rfl) .n))) (.k (asg .k (.g 2 rfl)) .n)))) [] [3] rfl rfl ?_))
  refine Tr.ret (end_tmp 0 rfl rfl)
end Go.Proofs.YtkgagdjogedoiaaGreat

set_option linter.unusedVariables false
set_option linter.unusedSimpArgs false
set_option maxRecDepth 100000
set_option maxHeartbeats 8000000
namespace Go.Proofs.YtkgagdjogedoiaaGreat
open Go Go.RowKit Go.Proofs.YtkgagdjogedoiaaGreat.Fx Go.Proofs.YtkgagdjogedoiaaGreatW.PrintWords
section
variable {w0:World} {ok0:Nat→Prop} {N:Nat} {R:Rg} {ops:Array Oper} {Q:Exit→Act→World→Prop} {i:Nat} {o:Oper}
theorem built_mesh (A B C:Option Addr) (a b c a' b' c':Nat):Tryz.prog.built 26 [(0,.slice A a a'),(1,.slice B b b'),(2,.slice C c c')]=some #[.slice A a a',.slice B b b',.slice C c c']:=by kernel_rfl
theorem built_meshT (B:Option Addr) (b b':Nat):Tryz.prog.built 26 [(1,.slice B b b')]=some #[.slice none 0 0,.slice B b b',.slice none 0 0]:=by kernel_rfl
theorem bldM {d:Tmp} {x y z:Operand} {P:List (Int × Int)} {T:List (Int × Int × Int)} {S:List (Int × Int)} (hh:Pl R ops i o (some d) (.build 26 #[(0,x),(1,y),(2,z)]) true) (hx:Vl R i x (pvec P)) (hy:Vl R i y (tvec T)) (hz:Vl R i z (svec S)):Does Tryz.prog w0 ok0 N R ops Q i o (some (.s d (SP.mesh P T S))) :=
  does_s hh fun ok a W hf hk K hK=>by
    have h1:=hx.H hf
    have h2:=hy.H hf
    have h3:=hz.H hf
    obtain ⟨A,c,e1⟩:=SP.vec_val h1
    obtain ⟨A',c',e2⟩:=SP.vec_val h2
    obtain ⟨A2,c2,e3⟩:=SP.vec_val h3
    have hb:=built_mesh A A' A2 (P.map pc).length (T.map trc).length (S.map sgc).length c c' c2
    have er:∀ cs,Tryz.prog.built 26 [(0,a.eval x),(1,a.eval y),(2,a.eval z)]=some cs→(execOp a.eval o).run Tryz.prog W = .ok (.value (.agg cs)) W:=fun cs hcs=>run_bldp hh.op (by rw [show ((#[(0,x),(1,y),(2,z)]:Array (Nat × Operand)).map fun p:Nat × Operand=>(p.1,a.eval p.2)).toList=[(0,a.eval x),(1,a.eval y),(2,a.eval z)] from by simp];exact hcs)
    have hb':Tryz.prog.built 26 [(0,a.eval x),(1,a.eval y),(2,a.eval z)]=some #[a.eval x,a.eval y,a.eval z]:=by rw [e1,e2,e3];exact hb
    unfold Oper.wp
    rw [er _ hb']
    exact hK _ W (Below.refl _ _) ⟨_,_,_,rfl,h1,h2,h3,trivial⟩
theorem bldMt {d:Tmp} {y:Operand} {T:List (Int × Int × Int)} (hh:Pl R ops i o (some d) (.build 26 #[(1,y)]) true) (hy:Vl R i y (tvec T)):Does Tryz.prog w0 ok0 N R ops Q i o (some (.s d (SP.mesh [] T []))) :=
  does_s hh fun ok a W hf hk K hK=>by
    have h2:=hy.H hf
    obtain ⟨A',c',e2⟩:=SP.vec_val h2
    have hb:=built_meshT A' (T.map trc).length c'
    have er:∀ cs,Tryz.prog.built 26 [(1,a.eval y)]=some cs→(execOp a.eval o).run Tryz.prog W = .ok (.value (.agg cs)) W:=fun cs hcs=>run_bldp hh.op (by rw [show ((#[(1,y)]:Array (Nat × Operand)).map fun p:Nat × Operand=>(p.1,a.eval p.2)).toList=[(1,a.eval y)] from by simp];exact hcs)
    have hb':Tryz.prog.built 26 [(1,a.eval y)]=some #[.slice none 0 0,a.eval y,.slice none 0 0]:=by rw [e2];exact hb
    unfold Oper.wp
    rw [er _ hb']
    exact hK _ W (Below.refl _ _) ⟨_,_,_,rfl,vec_nil,h2,vec_nil,trivial⟩
end
instance : AggSP (.is (.agg #[.slice none 0 0,.slice none 0 0,.slice none 0 0])) 3:=⟨fun h=>⟨_,h,rfl,by simp [Value.oneCell']⟩⟩
theorem zM (W:World):(zeroValue 26).run Tryz.prog W = .ok (.agg #[.slice none 0 0,.slice none 0 0,.slice none 0 0]) W:=by kernel_rfl
theorem fn_SameInts (a b:List Int) (ha:a.length≤9000000):FnC Tryz.prog 16 [ivec a,ivec b] (bv (decide (a=b))):=by
 refine FnC.of (N:=26) Tryz.func16 rfl rfl (Nat.le_of_ble_eq_true rfl) (fun w0 ok0=>?_)
 refine Tr.rs [] (.k (asg .k .c) .n) [0,1] [] rfl rfl ?_
 by_cases hl:a.length=b.length
 ·
  refine Tr.seq (Tr.rs [] (.k (mv .k (.b 0 rfl)) (.k (len_ .k rwI (.g 0 rfl) (by rw [List.length_map])) (.k (mv .k (.b 1 rfl)) (.k (len_ .k rwI (.g 2 rfl) (by rw [List.length_map])) (.k (ne_ .k (.g 1 rfl) (.g 3 rfl) (bne_eq_false_iff_eq.2 (by omega))) .n))))) [0,1] [4] rfl rfl ?_)
  refine Tr.cond 2 rfl nofun (fun _=>?_)
  refine Tr.skip (Nx.go (Tr.seq (Tr.rs [] (.k (asg .k .c) .n) [0,1] [0] rfl rfl ?_)))
  refine Tr.block (?_)
  refine Tr.loop (fun n_ F_=>∃ k:Nat,(k≤a.length∧a.take k=b.take k)∧n_=a.length - k∧F_=[.s 0 (ivec a),.s 1 (ivec b),.s 5 (iv ((k:Nat):Int))]) (a.length - 0) (F0:=[.s 0 (ivec a),.s 1 (ivec b),.s 5 (iv ((0:Nat):Int))]) ⟨0,⟨Nat.zero_le _,rfl⟩,rfl,rfl⟩ (Sub.all (.cons 0 rfl (.cons 1 rfl (.cons 2 rfl .nil)))) (fun n_ F_ hI=>?_)
  obtain ⟨k,hinv,rfl,rfl⟩:=hI
  refine Tr.seq (Tr.rs [] (.k (mv .k (.b 2 rfl)) (.k (mv .k (.b 0 rfl)) (.k (len_ .k rwI (.g 1 rfl) (by rw [List.length_map])) (.k (lt_ .k (.g 0 rfl) (.g 2 rfl) rfl) .n)))) [0,1,2] [3] rfl rfl ?_)
  refine Tr.cond 3 rfl (fun e14=>?_) (fun e14=>?_)
  ·
   have hk2:k < a.length:=by have:=of_decide_eq_true e14;omega
   refine Tr.skip (Nx.go (Tr.seq (Tr.block (?_))))
   obtain ⟨⟨x,p1⟩,y,p2⟩:(∃ x,a[k]?=some x)∧∃ y,b[k]?=some y:=⟨⟨_,List.getElem?_eq_getElem hk2⟩,_,List.getElem?_eq_getElem (by omega)⟩;by_cases hxy:x=y
   ·
    refine Tr.ds hmx [] (.k (mv .k (.b 0 rfl)) (.k (mv .k (.b 2 rfl)) (.k (idx_ .k rwI (.g 0 rfl) (.g 1 rfl) rfl (gm p1)) (.k (ldc_at .k (.g 2 rfl) tyI) (.k (mv .k (.b 1 rfl)) (.k (mv .k (.b 2 rfl)) (.k (idx_ .k rwI (.g 4 rfl) (.g 5 rfl) rfl (gm p2)) (.k (ldc_at .k (.g 6 rfl) tyI) (.k (ne_ .k (.g 3 rfl) (.g 7 rfl) (bne_eq_false_iff_eq.2 hxy)) .n))))))))) [0,1,2] [8] rfl rfl ?_
    refine Tr.cond 3 rfl nofun (fun _=>?_)
    refine Tr.skip (Nx.bkN (Nx.go (Tr.reg [(2,2)] (.k (mv .k (.b 2 rfl)) (.k (add_ .k (.g 0 rfl) .c (wr1 (by omega))) (.k (asg .k (.g 1 rfl)) .n))) [0,1] [2] rfl rfl (Nx.again (a.length - (k+1)) (by omega) [.s 0 (ivec a),.s 1 (ivec b),.s 5 (iv (((k+1):Nat):Int))] ⟨(k+1),⟨by omega,take_same hinv.2 p1 p2 hxy⟩,rfl,rfl⟩ (Sub.all (.cons 0 rfl (.cons 1 rfl (.cons 2 rfl .nil))))))))
   ·
    rw [decide_eq_false (at_apart p1 p2 hxy)]
    refine Tr.ds hmx [] (.k (mv .k (.b 0 rfl)) (.k (mv .k (.b 2 rfl)) (.k (idx_ .k rwI (.g 0 rfl) (.g 1 rfl) rfl (gm p1)) (.k (ldc_at .k (.g 2 rfl) tyI) (.k (mv .k (.b 1 rfl)) (.k (mv .k (.b 2 rfl)) (.k (idx_ .k rwI (.g 4 rfl) (.g 5 rfl) rfl (gm p2)) (.k (ldc_at .k (.g 6 rfl) tyI) (.k (ne_ .k (.g 3 rfl) (.g 7 rfl) (bne_iff_ne.2 hxy)) .n))))))))) [0,1,2] [8] rfl rfl ?_
    refine Tr.cond 3 rfl (fun _=>?_) nofun
    refine Tr.rs [] (.k (asg .k .c) .n) [] [0] rfl rfl ?_
    refine Tr.ret (end_tmp 0 rfl rfl)
  ·
   have hk2:k=a.length:=by have:=of_decide_eq_false e14;omega
   refine Tr.exit (Nx.thX (Nx.thX (Nx.bkX (Nx.go (?_)))))
   subst hk2
   rw [decide_eq_true (take_whole hl hinv.2)]
   refine Tr.rs [] (.k (asg .k .c) .n) [] [0] rfl rfl ?_
   refine Tr.ret (end_tmp 0 rfl rfl)
 ·
  rw [decide_eq_false (p:=a=b) (fun h=>hl (by rw [h]))]
  refine Tr.seq (Tr.rs [] (.k (mv .k (.b 0 rfl)) (.k (len_ .k rwI (.g 0 rfl) (by rw [List.length_map])) (.k (mv .k (.b 1 rfl)) (.k (len_ .k rwI (.g 2 rfl) (by rw [List.length_map])) (.k (ne_ .k (.g 1 rfl) (.g 3 rfl) (bne_iff_ne.2 (by omega))) .n))))) [0,1] [4] rfl rfl ?_)
  refine Tr.cond 2 rfl (fun _=>?_) nofun
  refine Tr.rs [] (.k (asg .k .c) .n) [] [0] rfl rfl ?_
  refine Tr.ret (end_tmp 0 rfl rfl)
theorem fn_SameT (a:List Int) (ha:a.length≤9000000):FnC Tryz.prog 16 [ivec a,ivec a] (bv true):=decide_eq_true (Eq.refl a) ▸ fn_SameInts a a ha
section
variable {P:List (Int × Int)} {T:List (Int × Int × Int)} {S:List (Int × Int)} (hP:P.length≤1000000) (hT:T.length≤1000000) (hS:S.length≤1000000) (hw:∀ s∈S,(Lit.int .i64 s.1).wf=true∧(Lit.int .i64 s.2).wf=true)
include hP hT hS hw
theorem fn_CrowdedL {l:List Int} {e:Int} (h1:crdL P T S=l) (h2:mC P T S=e):FnC Tryz.prog 9 [SP.mesh P T S] (.tup [ivec l,iv e]):=by
  have h:=fn_Crowded hP hT hS hw
  rw [h1,h2] at h
  exact h
theorem fn_SkinnyL {l:List Int} {e:Int} (h1:sknL P T S=l) (h2:mC P T S=e):FnC Tryz.prog 11 [SP.mesh P T S] (.tup [ivec l,iv e]):=by
  have h:=fn_SkinnyM hP hT hS hw
  rw [h1,h2] at h
  exact h
theorem fn_CrowdsL {s:Int × Int} {l:List Int} (h1:crwL P T S s=l):FnC Tryz.prog 15 [SP.mesh P T S,.is (sgv s)] (ivec l):=by
  have h:=fn_Crowds (s:=s) hP hT hS hw
  rw [h1] at h
  exact h
theorem fn_NearL {q:Int × Int} {n:Int} {r:Bool} (h1:nerR P T S q=(n,r)):FnC Tryz.prog 13 [SP.mesh P T S,.is (ptv q.1 q.2)] (.tup [iv n,bv r]):=by
  have h:=fn_Near (q:=q) hP hT hS hw
  rw [h1] at h
  exact h
theorem fn_GoodL {r:Bool} (h1:goodR P T S=r):FnC Tryz.prog 18 [SP.mesh P T S] (bv r):=by
  have h:=fn_Good hP hT hS hw
  rw [h1] at h
  exact h
end
theorem S1_wf:∀ s∈S1,(Lit.int .i64 s.1).wf=true∧(Lit.int .i64 s.2).wf=true:=by decide
theorem no_wf:∀ s∈([]:List (Int × Int)),(Lit.int .i64 s.1).wf=true∧(Lit.int .i64 s.2).wf=true:=fun s h=>by cases h
theorem fn_known  : FnC Tryz.prog 7 [] (bv true):=by
 refine FnC.of (N:=83) Tryz.func7 rfl rfl (Nat.le_of_ble_eq_true rfl) (fun w0 ok0=>?_)
 refine Tr.rs [] (.k (asg .k .c) .n) [] [] rfl rfl ?_
 refine Tr.rs [] (.k (bld .k .n bP0 (aP 0 0)) (.k (bld .k (.k .c .n) (bPx _) (aP _ 0)) (.k (bld .k (.k .c (.k .c .n)) (bP _ _) (aP _ _)) (.k (mkrow .k rwP (.k (.g 0 rfl) (.k (.g 1 rfl) (.k (.g 2 rfl) .n))) rfl rfl (by kernel_rfl)) (.k (bld .k (.k .c (.k .c (.k .c .n))) (bT _ _ _) (aT _ _ _)) (.k (mkrow .k rwT (.k (.g 4 rfl) .n) rfl rfl (by kernel_rfl)) (.k (bld .k (.k .c (.k .c .n)) (bS _ _) (aS _ _)) (.k (bld .k (.k .c (.k .c .n)) (bS _ _) (aS _ _)) (.k (bld .k (.k .c (.k .c .n)) (bS _ _) (aS _ _)) (.k (mkrow .k rwS (.k (.g 6 rfl) (.k (.g 7 rfl) (.k (.g 8 rfl) .n))) rfl rfl (by kernel_rfl)) (.k (bldM (P:=P0) (T:=T1) (S:=S1) .k (.g 3 rfl) (.g 5 rfl) (.g 9 rfl)) (.k (ala .k zM) (.k (sta .k (.g 11 rfl) (.g 10 rfl) tyM) .n))))))))))))) [] [12] rfl rfl ?_
 refine Tr.rs [] (.k (ld .k (.b 0 rfl) tyM) (.k (cal .k Tryz.func9 rfl (fn_CrowdedL (show P0.length≤1000000 by decide) (show T1.length≤1000000 by decide) (show S1.length≤1000000 by decide) S1_wf kn_crd kn_mC) (.k (.g 0 rfl) .n)) (.k (mv .k (.g 1 rfl)) (.k (exx .k (.g 2 rfl) rfl) (.k (exx .k (.g 2 rfl) rfl) (.k (asg .k (.g 3 rfl)) (.k (asg .k (.g 4 rfl)) .n))))))) [0] [5,6] rfl rfl ?_
 refine Tr.rs [] (.k (ld .k (.b 0 rfl) tyM) (.k (cal .k Tryz.func11 rfl (fn_SkinnyL (show P0.length≤1000000 by decide) (show T1.length≤1000000 by decide) (show S1.length≤1000000 by decide) S1_wf kn_skn kn_mC) (.k (.g 0 rfl) .n)) (.k (mv .k (.g 1 rfl)) (.k (exx .k (.g 2 rfl) rfl) (.k (exx .k (.g 2 rfl) rfl) (.k (asg .k (.g 3 rfl)) (.k (asg .k (.g 4 rfl)) .n))))))) [0,1,2] [5,6] rfl rfl ?_
 refine Tr.rs [] (.k (ld .k (.b 0 rfl) tyM) (.k (bld .k (.k .c (.k .c .n)) (bP _ _) (aP _ _)) (.k (cal .k Tryz.func13 rfl (fn_NearL (q:=(4,1)) (show P0.length≤1000000 by decide) (show T1.length≤1000000 by decide) (show S1.length≤1000000 by decide) S1_wf kn_ner) (.k (.g 0 rfl) (.k (.g 1 rfl) .n))) (.k (mv .k (.g 2 rfl)) (.k (exx .k (.g 3 rfl) rfl) (.k (exx .k (.g 3 rfl) rfl) (.k (asg .k (.g 4 rfl)) (.k (asg .k (.g 5 rfl)) .n)))))))) [0,1,2,3,4] [6,7] rfl rfl ?_
 refine Tr.rs [] (.k (bld .k .n bT0 (aT 0 0 0)) (.k (mkrow .k rwT (.k (.g 0 rfl) .n) rfl rfl (by kernel_rfl)) (.k (bldMt (T:=[(0,0,0)]) .k (.g 1 rfl)) (.k (cal .k Tryz.func11 rfl (fn_SkinnyL (show ([]:List (Int × Int)).length≤1000000 by decide) (show ([(0,0,0)]:List (Int × Int × Int)).length≤1000000 by decide) (show ([]:List (Int × Int)).length≤1000000 by decide) no_wf rfl kn_bad) (.k (.g 2 rfl) .n)) (.k (mv .k (.g 3 rfl)) (.k (exx .k (.g 4 rfl) rfl) (.k (exx .k (.g 4 rfl) rfl) (.k (asg .k (.g 5 rfl)) (.k (asg .k (.g 6 rfl)) .n))))))))) [0,1,2,3,4,5,6] [8] rfl rfl ?_
 refine Tr.rs [] (.k (mv .k (.b 1 rfl)) (.k (mkrow .k rwI (.k .c .n) rfl rfl (by kernel_rfl)) (.k (cal .k Tryz.func16 rfl (fn_SameT [0] (by decide)) (.k (.g 0 rfl) (.k (.g 1 rfl) .n))) (.k (mv .k (.g 2 rfl)) (.k (mv (.o 3 rfl rfl rfl) (.b 2 rfl)) (.k (eq_ (.o 3 rfl rfl rfl) (.g 4 rfl) .c (beq_iff_eq.2 rfl)) (.k (pickT .k (.g 3 rfl) (.g 5 rfl)) (.k (mv .k (.g 6 rfl)) (.k (mv (.o 7 rfl rfl rfl) (.b 3 rfl)) (.k (mkrow (.o 7 rfl rfl rfl) rwI (.k .c .n) rfl rfl (by kernel_rfl)) (.k (cal (.o 7 rfl rfl rfl) Tryz.func16 rfl (fn_SameT [0] (by decide)) (.k (.g 8 rfl) (.k (.g 9 rfl) .n))) (.k (pickT .k (.g 7 rfl) (.g 10 rfl)) (.k (mv .k (.g 11 rfl)) (.k (mv (.o 12 rfl rfl rfl) (.b 4 rfl)) (.k (eq_ (.o 12 rfl rfl rfl) (.g 13 rfl) .c (beq_iff_eq.2 rfl)) (.k (pickT .k (.g 12 rfl) (.g 14 rfl)) (.k (mv .k (.g 15 rfl)) (.k (ld (.o 16 rfl rfl rfl) (.b 0 rfl) tyM) (.k (bld (.o 16 rfl rfl rfl) (.k .c .n) (bSb _) (aS 0 _)) (.k (cal (.o 16 rfl rfl rfl) Tryz.func15 rfl (fn_CrowdsL (s:=(0,1)) (show P0.length≤1000000 by decide) (show T1.length≤1000000 by decide) (show S1.length≤1000000 by decide) S1_wf kn_crw) (.k (.g 17 rfl) (.k (.g 18 rfl) .n))) (.k (mkrow (.o 16 rfl rfl rfl) rwI (.k .c .n) rfl rfl (by kernel_rfl)) (.k (cal (.o 16 rfl rfl rfl) Tryz.func16 rfl (fn_SameT [2] (by decide)) (.k (.g 19 rfl) (.k (.g 20 rfl) .n))) (.k (pickT .k (.g 16 rfl) (.g 21 rfl)) (.k (mv .k (.g 22 rfl)) (.k (mv (.o 23 rfl rfl rfl) (.b 5 rfl)) (.k (eq_ (.o 23 rfl rfl rfl) (.g 24 rfl) .c (beq_iff_eq.2 rfl)) (.k (pickT .k (.g 23 rfl) (.g 25 rfl)) (.k (mv .k (.g 26 rfl)) (.k (mv (.o 27 rfl rfl rfl) (.b 6 rfl)) (.k (pickT .k (.g 27 rfl) (.g 28 rfl)) (.k (mv .k (.g 29 rfl)) (.k (ld (.o 30 rfl rfl rfl) (.b 0 rfl) tyM) (.k (cal (.o 30 rfl rfl rfl) Tryz.func18 rfl (fn_GoodL (show P0.length≤1000000 by decide) (show T1.length≤1000000 by decide) (show S1.length≤1000000 by decide) S1_wf kn_good) (.k (.g 31 rfl) .n)) (.k (not_ (.o 30 rfl rfl rfl) (.g 32 rfl)) (.k (pickT .k (.g 30 rfl) (.g 33 rfl)) (.k (mv .k (.g 34 rfl)) (.k (mv (.o 35 rfl rfl rfl) (.b 7 rfl)) (.k (eq_ (.o 35 rfl rfl rfl) (.g 36 rfl) .c (beq_iff_eq.2 rfl)) (.k (pickT .k (.g 35 rfl) (.g 37 rfl)) (.k (asg .k (.g 38 rfl)) .n)))))))))))))))))))))))))))))))))))))))) [] [39] rfl rfl ?_
 refine Tr.ret (end_tmp 0 rfl rfl)
end Go.Proofs.YtkgagdjogedoiaaGreat

set_option linter.unusedVariables false
set_option linter.unusedSimpArgs false
namespace Go.Proofs.YtkgagdjogedoiaaGreat
open Go Go.RowKit Go.Proofs.YtkgagdjogedoiaaGreat.Fx Go.Proofs.YtkgagdjogedoiaaGreatW.PrintWords
theorem aPX:∃ fs fl,Tryz.prog.underlying 30=some (.struct fs)∧fs[0]?=some fl∧∀ ad W,(fieldPlace ad fl).run Tryz.prog W = .ok (ad.add 0) W:=⟨_,_,Tryz.underlying30,rfl,fun ad W=>by kernel_rfl⟩
theorem aPY:∃ fs fl,Tryz.prog.underlying 30=some (.struct fs)∧fs[1]?=some fl∧∀ ad W,(fieldPlace ad fl).run Tryz.prog W = .ok (ad.add 1) W:=⟨_,_,Tryz.underlying30,rfl,fun ad W=>by kernel_rfl⟩
theorem szvP:(Tryz.prog.info? 22).map (·.size)=some 1:=by kernel_rfl
theorem szvT:(Tryz.prog.info? 23).map (·.size)=some 1:=by kernel_rfl
theorem szvS:(Tryz.prog.info? 24).map (·.size)=some 1:=by kernel_rfl
theorem bM0:Tryz.prog.built 26 []=some #[.slice none 0 0,.slice none 0 0,.slice none 0 0]:=by kernel_rfl
theorem apP:AppTy Tryz.prog 22 30 2 16:=apTy Tryz.underlying22 (by decide) (by kernel_rfl)
theorem apT:AppTy Tryz.prog 23 55 3 24:=apTy Tryz.underlying23 (by decide) (by kernel_rfl)
theorem pt_all (l:List (Int × Int)):((l.map pc).all fun r=>r.length==2 && r.all (·.oneCell'))=true:=by
  rw [List.all_eq_true]
  intro r hr
  obtain ⟨z,_,rfl⟩:=List.mem_map.1 hr
  rfl
theorem tri_all (l:List (Int × Int × Int)):((l.map trc).all fun r=>r.length==3 && r.all (·.oneCell'))=true:=by
  rw [List.all_eq_true]
  intro r hr
  obtain ⟨z,_,rfl⟩:=List.mem_map.1 hr
  rfl
instance {A B C:Option Addr} {a b c a' b' c':Nat}:AggSP (.is (.agg #[.slice A a a',.slice B b b',.slice C c c'])) 3:=⟨fun h=>⟨_,h,rfl,by simp [Value.oneCell']⟩⟩
section
variable {w0:World} {ok0:Nat→Prop} {N:Nat} {ops:Array Oper} {Q:Exit→Act→World→Prop} {F:List Fact} {i:Nat} {r:List Oper} {K:Act→World→Prop}
theorem Nx.mesh {t:Tmp} {a b d:Value} {P:List (Int × Int)} {T:List (Int × Int × Int)} {S:List (Int × Int)} (k j1 j2 j3:Nat) (hk:F[k]?=some (.s t (.is (.agg #[a,b,d])))) (h1:F[j1]?=some (.v [a] [pvec P])) (h2:F[j2]?=some (.v [b] [tvec T])) (h3:F[j3]?=some (.v [d] [svec S])) (h:Nx w0 ok0 N (.s t (SP.mesh P T S) :: F) K):Nx w0 ok0 N F K :=
  Nx.more (f' := .s t (SP.mesh P T S)) rfl rfl (fun ok x W hh=>by
    have e:x.tmps.getD t undef = .agg #[a,b,d]:=hh _ (List.mem_of_getElem? hk)
    have a1:Args ok W [pvec P] [a]:=hh _ (List.mem_of_getElem? h1)
    have a2:Args ok W [tvec T] [b]:=hh _ (List.mem_of_getElem? h2)
    have a3:Args ok W [svec S] [d]:=hh _ (List.mem_of_getElem? h3)
    show (SP.mesh P T S).H ok _ W
    rw [e]
    exact ⟨a,b,d,rfl,a1.1,a2.1,a3.1,trivial⟩) h
theorem Go.mesh {t:Tmp} {a b d:Value} {P:List (Int × Int)} {T:List (Int × Int × Int)} {S:List (Int × Int)} (k j1 j2 j3:Nat) (hk:F[k]?=some (.s t (.is (.agg #[a,b,d])))) (h1:F[j1]?=some (.v [a] [pvec P])) (h2:F[j2]?=some (.v [b] [tvec T])) (h3:F[j3]?=some (.v [d] [svec S])) (h:Go Tryz.prog w0 ok0 N ops Q i r (.s t (SP.mesh P T S) :: F)):Go Tryz.prog w0 ok0 N ops Q i r F :=
  Go.ghost (α:=Unit) (fun K hh=>Nx.mesh k j1 j2 j3 hk h1 h2 h3 (hh ())) fun _=>h
end
set_option maxRecDepth 100000 in
set_option maxHeartbeats 8000000 in
theorem fn_Copy {P:List (Int × Int)} {T:List (Int × Int × Int)} {S:List (Int × Int)} (hP:P.length≤1000000) (hT:T.length≤1000000) (hS:S.length≤1000000):FnC Tryz.prog 8 [SP.mesh P T S] (SP.mesh P T S):=by
 refine FnC.of (N:=24) Tryz.func8 rfl rfl (Nat.le_of_ble_eq_true rfl) (fun w0 ok0=>?_)
 refine Tr.rs [] (.k (bxx .k (.b 0 rfl)) (.k (alc .k zM) .n)) [] [0,1] rfl rfl ?_
 refine Tr.rs [] (.k (bld .k .n bM0 rfl) (.k (ala .k zM) (.k (sta .k (.g 1 rfl) (.g 0 rfl) tyM) .n))) [0,1] [2] rfl rfl ?_
 refine Tr.boxh [.slice none 0 0,.slice none 0 0,.slice none 0 0] 1 2 [0,1] rfl rfl rfl (fun g1=>?_)
 refine Tr.gos (Go.k (fadh .k (.b 0 rfl) fMP) [0,1,2,3] rfl rfl (Go.k (ldn .k (.b 0 rfl) (.b 2 rfl) tyvP rfl) [1,2,3,4] rfl rfl (Go.k (faddr .k (.b 3 rfl) rfl fMP) [0,1,2,3,4] rfl rfl (Go.k (ldc .k (.b 0 rfl) (.b 4 rfl) tyvP) [1,2,3,4,5] rfl rfl (Go.k (apn .k apP (.b 1 rfl) (.b 0 rfl) (pt_all _) (by decide) (by rw [List.length_map];omega)) [2,3,4,5] rfl rfl (Go.frzo 0 [1,2,3,4] rfl rfl (Go.name 0 rfl fun A2 c2=>(Go.k (fadh .k (.b 3 rfl) fMP) [0,1,2,3,4,5,6] rfl rfl (Go.k (sth1 .k (.b 0 rfl) (.b 5 rfl) (.b 1 rfl) szvP rfl (show 0 < 3 by decide) rfl rfl) [2,4,6,7] rfl rfl (Go.end_ (Nx.go (?_))))))))))))
 refine Tr.gos (Go.k (fadh .k (.b 2 rfl) fMT) [0,1,2,3,4] rfl rfl (Go.k (ldn .k (.b 0 rfl) (.b 1 rfl) tyvT rfl) [1,2,3,4,5] rfl rfl (Go.k (faddr .k (.b 4 rfl) rfl fMT) [0,1,2,3,4,5] rfl rfl (Go.k (ldc .k (.b 0 rfl) (.b 5 rfl) tyvT) [1,2,3,4,5,6] rfl rfl (Go.k (apn .k apT (.b 1 rfl) (.b 0 rfl) (tri_all _) (by decide) (by rw [List.length_map];omega)) [2,3,4,5,6] rfl rfl (Go.frzo 0 [1,2,3,4,5] rfl rfl (Go.name 0 rfl fun A3 c3=>(Go.k (fadh .k (.b 5 rfl) fMT) [0,1,2,3,4,5,6,7] rfl rfl (Go.k (sth1 .k (.b 0 rfl) (.b 4 rfl) (.b 1 rfl) szvT rfl (show 1 < 3 by decide) rfl rfl) [2,5,6,7,8] rfl rfl (Go.end_ (Nx.go (?_))))))))))))
 refine Tr.gos (Go.k (fadh .k (.b 3 rfl) fMS) [0,1,2,3,4,5] rfl rfl (Go.k (ldn .k (.b 0 rfl) (.b 1 rfl) tyvS rfl) [1,2,3,4,5,6] rfl rfl (Go.k (faddr .k (.b 5 rfl) rfl fMS) [0,1,2,3,4,5,6] rfl rfl (Go.k (ldc .k (.b 0 rfl) (.b 6 rfl) tyvS) [1,2,3,4,5,7] rfl rfl (Go.k (apn .k apS (.b 1 rfl) (.b 0 rfl) (seg_all _) (by decide) (by rw [List.length_map];omega)) [2,3,4,5,6] rfl rfl (Go.frzo 0 [1,2,3,4,5] rfl rfl (Go.name 0 rfl fun A4 c4=>(Go.k (fadh .k (.b 6 rfl) fMS) [0,1,2,3,4,5,6,7] rfl rfl (Go.k (sth1 .k (.b 0 rfl) (.b 4 rfl) (.b 1 rfl) szvS rfl (show 2 < 3 by decide) rfl rfl) [2,5,6,7,8] rfl rfl (Go.end_ (Nx.go (?_))))))))))))
 refine Tr.gos (Go.k (ldna .k (.b 4 rfl) (.b 0 rfl) tyM [.slice A2 _ c2,.slice A3 _ c3,.slice A4 _ c4] rfl (fun j u h=>by rw [Nat.zero_add];exact h) rfl) [0,1,2,3,5] rfl rfl (Go.mesh 0 4 3 2 rfl rfl rfl rfl (Go.k (sto .k (.b 6 rfl) (.b 0 rfl) tyM) [2,3,4,5] rfl rfl (Go.end_ (Nx.go (?_))))))
 refine Tr.ret (end_cell 0 rfl rfl tyM)
end Go.Proofs.YtkgagdjogedoiaaGreat

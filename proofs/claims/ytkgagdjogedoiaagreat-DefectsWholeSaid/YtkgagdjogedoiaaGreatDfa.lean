/- The package defects: Crowded, Skinny, Near, Good, Crowds; walked. -/
import Derived.Test.YtkgagdjogedoiaaGreatDf9
set_option linter.unusedVariables false
set_option linter.unusedSimpArgs false
set_option maxRecDepth 100000
set_option maxHeartbeats 8000000
namespace Go.Proofs.YtkgagdjogedoiaaGreat
open Go Go.RowKit Go.Proofs.YtkgagdjogedoiaaGreat.Fx Go.Proofs.YtkgagdjogedoiaaGreatW.PrintWords
theorem fn_Check' {P:List (Int × Int)} {T:List (Int × Int × Int)} {S:List (Int × Int)} (hP:P.length≤1000000) (hT:T.length≤1000000) (hS:S.length≤1000000) (hw:∀ s∈S,(Lit.int .i64 s.1).wf=true∧(Lit.int .i64 s.2).wf=true):FnC Tryz.prog 26 [SP.mesh P T S] (iv (mC P T S)):=fn_Check hP hT hS hw
theorem fn_Crowded {P:List (Int × Int)} {T:List (Int × Int × Int)} {S:List (Int × Int)} (hP:P.length≤1000000) (hT:T.length≤1000000) (hS:S.length≤1000000) (hw:∀ s∈S,(Lit.int .i64 s.1).wf=true∧(Lit.int .i64 s.2).wf=true):FnC Tryz.prog 9 [SP.mesh P T S] (.tup [ivec (crdL P T S),iv (mC P T S)]):=by
 refine FnC.of (N:=14) Tryz.func9 rfl rfl (Nat.le_of_ble_eq_true rfl) (fun w0 ok0=>?_)
 refine Tr.rs [] (.k (bxx .k (.b 0 rfl)) (.k (nilv (sz:=1) .k (.inl rfl)) (.k (asg .k .c) .n))) [] [0] rfl rfl ?_
 refine Tr.seq (Tr.rs [] (.k (ld .k (.b 0 rfl) tyM) (.k (cal .k Tryz.func26 rfl (fn_Check' hP hT hS hw) (.k (.g 0 rfl) .n)) (.k (asg .k (.g 1 rfl)) .n))) [0] [2] rfl rfl ?_)
 rcases mC_two (P:=P) (T:=T) (S:=S) with hc|hc
 ·
  rw [crdL_of hc,hc]
  refine Tr.rs [] (.k (mv .k (.b 1 rfl)) (.k (ne_ .k (.g 0 rfl) .c rfl) .n)) [0,1] [1] rfl rfl ?_
  refine Tr.cond 2 rfl nofun (fun _=>?_)
  refine Tr.skip (Nx.go (?_))
  refine Tr.frzb 0 [1,2] rfl rfl ?_
  refine Tr.rs [] (.k (fap .k (.b 0 rfl) fMS) (.k (ldv .k (.g 0 rfl) tyvS) (.k (mkf .k (.k (.b 0 rfl) .n)) (.k (cal .k Tryz.func27 rfl (fn_whichS (p:=fun s=>decide (((crw P T s).length:Int) > 0)) hS Tryz.func28 rfl (fun s hs=>fn_CrF hP hT (mC_ok hc) hs)) (.k (.g 1 rfl) (.k (.g 2 rfl) .n))) (.k (asg .k (.g 3 rfl)) (.k (asg .k .c) .n)))))) [] [4,5] rfl rfl ?_
  refine Tr.ret (end_tmp2 0 1 rfl rfl rfl)
 ·
  rw [crdL_no hc]
  refine Tr.rs [] (.k (mv .k (.b 1 rfl)) (.k (ne_ .k (.g 0 rfl) .c (bne_iff_ne.2 (by rw [hc];decide))) .n)) [0,1] [1] rfl rfl ?_
  refine Tr.cond 2 rfl (fun _=>?_) nofun
  refine Tr.rs [] (.k (mv .k (.b 1 rfl)) (.k (nilv (sz:=1) .k (.inl rfl)) (.k (asg .k (.g 0 rfl)) .n))) [] [1,2] rfl rfl ?_
  refine Tr.ret (end_tmp2 0 1 rfl rfl rfl)
theorem fn_SkinnyM {P:List (Int × Int)} {T:List (Int × Int × Int)} {S:List (Int × Int)} (hP:P.length≤1000000) (hT:T.length≤1000000) (hS:S.length≤1000000) (hw:∀ s∈S,(Lit.int .i64 s.1).wf=true∧(Lit.int .i64 s.2).wf=true):FnC Tryz.prog 11 [SP.mesh P T S] (.tup [ivec (sknL P T S),iv (mC P T S)]):=by
 refine FnC.of (N:=14) Tryz.func11 rfl rfl (Nat.le_of_ble_eq_true rfl) (fun w0 ok0=>?_)
 refine Tr.rs [] (.k (bxx .k (.b 0 rfl)) (.k (nilv (sz:=1) .k (.inl rfl)) (.k (asg .k .c) .n))) [] [0] rfl rfl ?_
 refine Tr.seq (Tr.rs [] (.k (ld .k (.b 0 rfl) tyM) (.k (cal .k Tryz.func26 rfl (fn_Check' hP hT hS hw) (.k (.g 0 rfl) .n)) (.k (asg .k (.g 1 rfl)) .n))) [0] [2] rfl rfl ?_)
 rcases mC_two (P:=P) (T:=T) (S:=S) with hc|hc
 ·
  rw [sknL_of hc,hc]
  refine Tr.rs [] (.k (mv .k (.b 1 rfl)) (.k (ne_ .k (.g 0 rfl) .c rfl) .n)) [0,1] [1] rfl rfl ?_
  refine Tr.cond 2 rfl nofun (fun _=>?_)
  refine Tr.skip (Nx.go (?_))
  refine Tr.frzb 0 [1,2] rfl rfl ?_
  refine Tr.rs [] (.k (fap .k (.b 0 rfl) fMT) (.k (ldv .k (.g 0 rfl) tyvT) (.k (mkf .k (.k (.b 0 rfl) .n)) (.k (cal .k Tryz.func31 rfl (fn_whichT (p:=sP P) hT Tryz.func32 rfl (fun t ht=>fn_SkF (mC_ok hc) ht)) (.k (.g 1 rfl) (.k (.g 2 rfl) .n))) (.k (asg .k (.g 3 rfl)) (.k (asg .k .c) .n)))))) [] [4,5] rfl rfl ?_
  refine Tr.ret (end_tmp2 0 1 rfl rfl rfl)
 ·
  rw [sknL_no hc]
  refine Tr.rs [] (.k (mv .k (.b 1 rfl)) (.k (ne_ .k (.g 0 rfl) .c (bne_iff_ne.2 (by rw [hc];decide))) .n)) [0,1] [1] rfl rfl ?_
  refine Tr.cond 2 rfl (fun _=>?_) nofun
  refine Tr.rs [] (.k (mv .k (.b 1 rfl)) (.k (nilv (sz:=1) .k (.inl rfl)) (.k (asg .k (.g 0 rfl)) .n))) [] [1,2] rfl rfl ?_
  refine Tr.ret (end_tmp2 0 1 rfl rfl rfl)
theorem fn_Near {P:List (Int × Int)} {T:List (Int × Int × Int)} {S:List (Int × Int)} {q:Int × Int} (hP:P.length≤1000000) (hT:T.length≤1000000) (hS:S.length≤1000000) (hw:∀ s∈S,(Lit.int .i64 s.1).wf=true∧(Lit.int .i64 s.2).wf=true):FnC Tryz.prog 13 [SP.mesh P T S,.is (ptv q.1 q.2)] (.tup [iv (nerR P T S q).1,bv (nerR P T S q).2]):=by
 refine FnC.of (N:=20) Tryz.func13 rfl rfl (Nat.le_of_ble_eq_true rfl) (fun w0 ok0=>?_)
 refine Tr.rs [] (.k (bxx .k (.b 0 rfl)) (.k (bxx .k (.b 1 rfl)) (.k (asg .k .c) (.k (asg .k .c) .n)))) [] [0,1] rfl rfl ?_
 rcases mC_two (P:=P) (T:=T) (S:=S) with hc|hc
 ·
  refine Tr.seq (Tr.rs [] (.k (ld .k (.b 0 rfl) tyM) (.k (cal .k Tryz.func26 rfl (fn_Check' hP hT hS hw) (.k (.g 0 rfl) .n)) (.k (ne_ .k (.g 1 rfl) .c (bne_eq_false_iff_eq.2 hc)) .n))) [0,1] [2] rfl rfl ?_)
  refine Tr.cond 2 rfl nofun (fun _=>?_)
  refine Tr.skip (Nx.go (?_))
  refine Tr.frzb 0 [1,2] rfl rfl ?_
  refine Tr.frzb 1 [0,2] rfl rfl ?_
  refine Tr.rs [] (.k (fap .k (.b 1 rfl) fMS) (.k (ldv .k (.g 0 rfl) tyvS) (.k (mkf .k (.k (.b 1 rfl) (.k (.b 0 rfl) .n))) (.k (cal .k Tryz.func27 rfl (fn_whichS (p:=nP P q) hS Tryz.func35 rfl (fun s hs=>fn_NeF (mC_ok hc) hs)) (.k (.g 1 rfl) (.k (.g 2 rfl) .n))) (.k (asg .k (.g 3 rfl)) .n))))) [] [4] rfl rfl ?_
  rcases idxs_first (b:=atB S (nP P q)) (n:=S.length) with ⟨h1,h2⟩|⟨k,r,h1,h2,h3,h4⟩
  ·
   rw [nerR_of hc,fst_no h2,h1]
   refine Tr.seq (Tr.rs [] (.k (mv .k (.b 0 rfl)) (.k (len_ .k rwI (.g 0 rfl) rfl) (.k (eq_ .k (.g 1 rfl) .c (beq_iff_eq.2 rfl)) .n))) [0] [2] rfl rfl ?_)
   refine Tr.cond 1 rfl (fun _=>?_) nofun
   refine Tr.rs [] (.k (asg .k .c) (.k (asg .k .c) .n)) [] [0,1] rfl rfl ?_
   refine Tr.ret (end_tmp2 0 1 rfl rfl rfl)
  ·
   rw [nerR_of hc,fst_at h2 h3 h4,h1]
   refine Tr.seq (Tr.rs [] (.k (mv .k (.b 0 rfl)) (.k (len_ .k rwI (.g 0 rfl) rfl) (.k (eq_ .k (.g 1 rfl) .c (beq_eq_false_iff_ne.2 (by simp;omega))) .n))) [0] [2] rfl rfl ?_)
   refine Tr.cond 1 rfl nofun (fun _=>?_)
   refine Tr.skip (Nx.go (Tr.rs [] (.k (mv .k (.b 0 rfl)) (.k (idx_ .k rwI (.g 0 rfl) .c rfl rfl) (.k (ldc_at .k (.g 1 rfl) tyI) (.k (asg .k (.g 2 rfl)) (.k (asg .k .c) .n))))) [] [3,4] rfl rfl ?_))
   refine Tr.ret (end_tmp2 0 1 rfl rfl rfl)
 ·
  rw [nerR_no hc]
  refine Tr.seq (Tr.rs [] (.k (ld .k (.b 0 rfl) tyM) (.k (cal .k Tryz.func26 rfl (fn_Check' hP hT hS hw) (.k (.g 0 rfl) .n)) (.k (ne_ .k (.g 1 rfl) .c (bne_iff_ne.2 (by rw [hc];decide))) .n))) [0,1] [2] rfl rfl ?_)
  refine Tr.cond 2 rfl (fun _=>?_) nofun
  refine Tr.rs [] (.k (asg .k .c) (.k (asg .k .c) .n)) [] [0,1] rfl rfl ?_
  refine Tr.ret (end_tmp2 0 1 rfl rfl rfl)
theorem crdL_len (P:List (Int × Int)) (T:List (Int × Int × Int)) (S:List (Int × Int)):(crdL P T S).length≤S.length:=by
  unfold crdL
  split
  · exact idxs_len _ _
  · simp
theorem sknL_len (P:List (Int × Int)) (T:List (Int × Int × Int)) (S:List (Int × Int)):(sknL P T S).length≤T.length:=by
  unfold sknL
  split
  · exact idxs_len _ _
  · simp
theorem goodR_of {P:List (Int × Int)} {T:List (Int × Int × Int)} {S:List (Int × Int)} (h:mC P T S=0):goodR P T S=(((crdL P T S).length:Int)+((sknL P T S).length:Int)==0):=by
  unfold goodR
  rw [decide_eq_true h,Bool.true_and]
theorem goodR_no {P:List (Int × Int)} {T:List (Int × Int × Int)} {S:List (Int × Int)} (h:mC P T S=2):goodR P T S=false:=by
  unfold goodR
  rw [decide_eq_false (by omega),Bool.false_and]
theorem crwL_of {P:List (Int × Int)} {T:List (Int × Int × Int)} {S:List (Int × Int)} {s:Int × Int} (h:mC P T S=0) (hs:s∈S):crwL P T S s=crw P T s:=if_pos ⟨h,hs⟩
theorem crwL_no {P:List (Int × Int)} {T:List (Int × Int × Int)} {S:List (Int × Int)} {s:Int × Int} (h:mC P T S=2∨s ∉ S):crwL P T S s=[]:=if_neg fun hh=>by
  rcases h with h|h
  · have:=hh.1;omega
  · exact h hh.2
theorem fn_Good {P:List (Int × Int)} {T:List (Int × Int × Int)} {S:List (Int × Int)} (hP:P.length≤1000000) (hT:T.length≤1000000) (hS:S.length≤1000000) (hw:∀ s∈S,(Lit.int .i64 s.1).wf=true∧(Lit.int .i64 s.2).wf=true):FnC Tryz.prog 18 [SP.mesh P T S] (bv (goodR P T S)):=by
 refine FnC.of (N:=27) Tryz.func18 rfl rfl (Nat.le_of_ble_eq_true rfl) (fun w0 ok0=>?_)
 refine Tr.rs [] (.k (bxx .k (.b 0 rfl)) (.k (asg .k .c) .n)) [] [0] rfl rfl ?_
 refine Tr.rs [] (.k (ld .k (.b 0 rfl) tyM) (.k (cal .k Tryz.func9 rfl (fn_Crowded hP hT hS hw) (.k (.g 0 rfl) .n)) (.k (mv .k (.g 1 rfl)) (.k (exx .k (.g 2 rfl) rfl) (.k (exx .k (.g 2 rfl) rfl) (.k (asg .k (.g 3 rfl)) (.k (asg .k (.g 4 rfl)) .n))))))) [0] [5,6] rfl rfl ?_
 refine Tr.rs [] (.k (ld .k (.b 0 rfl) tyM) (.k (cal .k Tryz.func11 rfl (fn_SkinnyM hP hT hS hw) (.k (.g 0 rfl) .n)) (.k (mv .k (.g 1 rfl)) (.k (exx .k (.g 2 rfl) rfl) (.k (exx .k (.g 2 rfl) rfl) (.k (asg .k (.g 3 rfl)) (.k (asg .k (.g 4 rfl)) .n))))))) [1,2] [5] rfl rfl ?_
 rcases mC_two (P:=P) (T:=T) (S:=S) with hc|hc
 ·
  rw [goodR_of hc]
  have l1:=crdL_len P T S
  have l2:=sknL_len P T S
  refine Tr.rs [] (.k (mv .k (.b 1 rfl)) (.k (eq_ .k (.g 0 rfl) .c (beq_iff_eq.2 hc)) (.k (mv .k (.g 1 rfl)) (.k (mv (.o 2 rfl rfl rfl) (.b 0 rfl)) (.k (len_ (.o 2 rfl rfl rfl) rwI (.g 3 rfl) (by rw [List.length_map])) (.k (mv (.o 2 rfl rfl rfl) (.b 2 rfl)) (.k (len_ (.o 2 rfl rfl rfl) rwI (.g 5 rfl) (by rw [List.length_map])) (.k (add_ (.o 2 rfl rfl rfl) (.g 4 rfl) (.g 6 rfl) (show IntKind.i64.wrap (((crdL P T S).length:Int)+((sknL P T S).length:Int))=_ from IntWalk.i64_in _ (by omega))) (.k (eq_ (.o 2 rfl rfl rfl) (.g 7 rfl) .c rfl) (.k (pickT .k (.g 2 rfl) (.g 8 rfl)) (.k (asg .k (.g 9 rfl)) .n))))))))))) [] [10] rfl rfl ?_
  refine Tr.ret (end_tmp 0 rfl rfl)
 ·
  rw [goodR_no hc]
  refine Tr.rs [] (.k (mv .k (.b 1 rfl)) (.k (eq_ .k (.g 0 rfl) .c (beq_eq_false_iff_ne.2 (by rw [hc];decide))) (.k (mv .k (.g 1 rfl)) (.k (skp (.o 2 rfl rfl rfl)) (.k (skp (.o 2 rfl rfl rfl)) (.k (skp (.o 2 rfl rfl rfl)) (.k (skp (.o 2 rfl rfl rfl)) (.k (skp (.o 2 rfl rfl rfl)) (.k (skp (.o 2 rfl rfl rfl)) (.k (pickF .k (.g 2 rfl) .c) (.k (asg .k (.g 9 rfl)) .n))))))))))) [] [10] rfl rfl ?_
  refine Tr.ret (end_tmp 0 rfl rfl)
theorem crds_ways (P:List (Int × Int)) (T:List (Int × Int × Int)) (S:List (Int × Int)) (s:Int × Int):mC P T S=2∨(mC P T S=0∧s ∉ S)∨(mC P T S=0∧s∈S):=by
  rcases mC_two (P:=P) (T:=T) (S:=S) with h|h
  · by_cases hs:s∈S
    · exact .inr (.inr ⟨h,hs⟩)
    · exact .inr (.inl ⟨h,hs⟩)
  · exact .inl h
theorem fn_ContainsT {l:List (Int × Int)} {s:Int × Int} (hl:l.length≤1000000) (h:s∈l):FnC Tryz.prog 37 [svec l,.is (sgv s)] (bv true):=decide_eq_true h ▸ fn_Contains hl
theorem fn_ContainsF {l:List (Int × Int)} {s:Int × Int} (hl:l.length≤1000000) (h:s ∉ l):FnC Tryz.prog 37 [svec l,.is (sgv s)] (bv false):=decide_eq_false h ▸ fn_Contains hl
theorem fn_Crowds {P:List (Int × Int)} {T:List (Int × Int × Int)} {S:List (Int × Int)} {s:Int × Int} (hP:P.length≤1000000) (hT:T.length≤1000000) (hS:S.length≤1000000) (hw:∀ s∈S,(Lit.int .i64 s.1).wf=true∧(Lit.int .i64 s.2).wf=true):FnC Tryz.prog 15 [SP.mesh P T S,.is (sgv s)] (ivec (crwL P T S s)):=by
 refine FnC.of (N:=18) Tryz.func15 rfl rfl (Nat.le_of_ble_eq_true rfl) (fun w0 ok0=>?_)
 refine Tr.rs [] (.k (bxx .k (.b 0 rfl)) (.k (bxx .k (.b 1 rfl)) (.k (nilv (sz:=1) .k (.inl rfl)) .n))) [] [0,1] rfl rfl ?_
 rcases crds_ways P T S s with hc|⟨hc,hs⟩|⟨hc,hs⟩
 ·
  rw [crwL_no (.inl hc)]
  refine Tr.seq (Tr.rs [] (.k (ld .k (.b 0 rfl) tyM) (.k (cal .k Tryz.func26 rfl (fn_Check' hP hT hS hw) (.k (.g 0 rfl) .n)) (.k (ne_ .k (.g 1 rfl) .c (bne_iff_ne.2 (by rw [hc];decide))) (.k (mv .k (.g 2 rfl)) (.k (skp (.o 3 rfl rfl rfl)) (.k (skp (.o 3 rfl rfl rfl)) (.k (skp (.o 3 rfl rfl rfl)) (.k (skp (.o 3 rfl rfl rfl)) (.k (skp (.o 3 rfl rfl rfl)) (.k (pickT .k (.g 3 rfl) .c) .n)))))))))) [0,1] [9] rfl rfl ?_)
  refine Tr.cond 2 rfl (fun _=>?_) nofun
  refine Tr.rs [] (.k (nilv (sz:=1) .k (.inl rfl)) .n) [] [0] rfl rfl ?_
  refine Tr.ret (end_tmp 0 rfl rfl)
 ·
  rw [crwL_no (.inr hs)]
  refine Tr.seq (Tr.rs [] (.k (ld .k (.b 0 rfl) tyM) (.k (cal .k Tryz.func26 rfl (fn_Check' hP hT hS hw) (.k (.g 0 rfl) .n)) (.k (ne_ .k (.g 1 rfl) .c (bne_eq_false_iff_eq.2 hc)) (.k (mv .k (.g 2 rfl)) (.k (faddr (.o 3 rfl rfl rfl) (.b 0 rfl) rfl fMS) (.k (ldc (.o 3 rfl rfl rfl) (.g 4 rfl) (.b 0 rfl) tyvS) (.k (ld (.o 3 rfl rfl rfl) (.b 1 rfl) tyS) (.k (cal (.o 3 rfl rfl rfl) Tryz.func37 rfl (fn_ContainsF hS hs) (.k (.g 5 rfl) (.k (.g 6 rfl) .n))) (.k (not_ (.o 3 rfl rfl rfl) (.g 7 rfl)) (.k (pickF .k (.g 3 rfl) (.g 8 rfl)) .n)))))))))) [0,1] [9] rfl rfl ?_)
  refine Tr.cond 2 rfl (fun _=>?_) nofun
  refine Tr.rs [] (.k (nilv (sz:=1) .k (.inl rfl)) .n) [] [0] rfl rfl ?_
  refine Tr.ret (end_tmp 0 rfl rfl)
 ·
  rw [crwL_of hc hs]
  refine Tr.seq (Tr.rs [] (.k (ld .k (.b 0 rfl) tyM) (.k (cal .k Tryz.func26 rfl (fn_Check' hP hT hS hw) (.k (.g 0 rfl) .n)) (.k (ne_ .k (.g 1 rfl) .c (bne_eq_false_iff_eq.2 hc)) (.k (mv .k (.g 2 rfl)) (.k (faddr (.o 3 rfl rfl rfl) (.b 0 rfl) rfl fMS) (.k (ldc (.o 3 rfl rfl rfl) (.g 4 rfl) (.b 0 rfl) tyvS) (.k (ld (.o 3 rfl rfl rfl) (.b 1 rfl) tyS) (.k (cal (.o 3 rfl rfl rfl) Tryz.func37 rfl (fn_ContainsT hS hs) (.k (.g 5 rfl) (.k (.g 6 rfl) .n))) (.k (not_ (.o 3 rfl rfl rfl) (.g 7 rfl)) (.k (pickF .k (.g 3 rfl) (.g 8 rfl)) .n)))))))))) [0,1] [9] rfl rfl ?_)
  refine Tr.cond 2 rfl nofun (fun _=>?_)
  refine Tr.skip (Nx.go (Tr.rs [] (.k (ld .k (.b 0 rfl) tyM) (.k (ld .k (.b 1 rfl) tyS) (.k (cal .k Tryz.func29 rfl (fn_crowds hP hT (mC_ok hc) hs) (.k (.g 0 rfl) (.k (.g 1 rfl) .n))) (.k (asg .k (.g 2 rfl)) .n)))) [] [3] rfl rfl ?_))
  refine Tr.ret (end_tmp 0 rfl rfl)
end Go.Proofs.YtkgagdjogedoiaaGreat

/- DefectsTells, walked. -/
import Derived.Test.YtkgagdjogedoiaaGreatDg1
import Derived.Test.YtkgagdjogedoiaaGreatMsRow
set_option linter.unusedVariables false
set_option linter.unusedSimpArgs false
namespace Go.Proofs.YtkgagdjogedoiaaGreat
open Go Go.RowKit Go.Proofs.YtkgagdjogedoiaaGreat.Fx Go.Proofs.YtkgagdjogedoiaaGreatW.PrintWords
theorem fn_manyK {P:List (Int × Int)} {T:List (Int × Int × Int)} {S:List (Int × Int)} {r:Bool} (h:manyB P T S=r):FnC Tryz.prog 6 [SP.mesh P T S] (bv r):=h ▸ fn_many
theorem crwL_len {P:List (Int × Int)} {T:List (Int × Int × Int)} {S:List (Int × Int)} (s:Int × Int):(crwL P T S s).length≤9000000:=by
  unfold crwL
  split
  · rename_i h
    have:=(crw_two (mC_ok h.1) h.2).2
    omega
  · simp
set_option maxRecDepth 100000 in
set_option maxHeartbeats 8000000 in
theorem lawTells_any {P:List (Int × Int)} {T:List (Int × Int × Int)} {S:List (Int × Int)} {s q:Int × Int} (hw:∀ s∈S,(Lit.int .i64 s.1).wf=true∧(Lit.int .i64 s.2).wf=true):FnC Tryz.prog 3 [SP.mesh P T S,.is (sgv s),.is (ptv q.1 q.2)] (bv true):=by
 refine FnC.of (N:=111) Tryz.func3 rfl rfl (Nat.le_of_ble_eq_true rfl) (fun w0 ok0=>?_)
 refine Tr.rs [] (.k (bxx .k (.b 0 rfl)) (.k (bxx .k (.b 1 rfl)) (.k (bxx .k (.b 2 rfl)) (.k (asg .k .c) .n)))) [] [0,1,2] rfl rfl ?_
 cases hm:manyB P T S
 ·
  have hl:=many_no hm
  have hP:P.length≤1000000:=by omega
  have hT:T.length≤1000000:=by omega
  have hS:S.length≤1000000:=by omega
  have l1:=crdL_len P T S
  have l2:=sknL_len P T S
  refine Tr.seq (Tr.rs [] (.k (ld .k (.b 0 rfl) tyM) (.k (cal .k Tryz.func6 rfl (fn_manyK hm) (.k (.g 0 rfl) .n)) .n)) [0,1,2] [1] rfl rfl ?_)
  refine Tr.cond 3 rfl nofun (fun _=>?_)
  refine Tr.skip (Nx.go (Tr.rs [] (.k (ld .k (.b 0 rfl) tyM) (.k (cal .k Tryz.func8 rfl (fn_Copy hP hT hS) (.k (.g 0 rfl) .n)) (.k (ala .k zM) (.k (sta .k (.g 2 rfl) (.g 1 rfl) tyM) .n)))) [0,1,2] [3] rfl rfl ?_))
  refine Tr.rs [] (.k (ld .k (.b 3 rfl) tyM) (.k (cal .k Tryz.func9 rfl (fn_Crowded hP hT hS hw) (.k (.g 0 rfl) .n)) (.k (mv .k (.g 1 rfl)) (.k (exx .k (.g 2 rfl) rfl) (.k (exx .k (.g 2 rfl) rfl) (.k (asg .k (.g 3 rfl)) (.k (asg .k (.g 4 rfl)) .n))))))) [0,1,2,3] [5,6] rfl rfl ?_
  refine Tr.rs [] (.k (ld .k (.b 0 rfl) tyM) (.k (cal .k Tryz.func10 rfl (fn_rCrowded hP hT hS) (.k (.g 0 rfl) .n)) (.k (mv .k (.g 1 rfl)) (.k (exx .k (.g 2 rfl) rfl) (.k (exx .k (.g 2 rfl) rfl) (.k (asg .k (.g 3 rfl)) (.k (asg .k (.g 4 rfl)) .n))))))) [0,1,2,3,4,5] [5,6] rfl rfl ?_
  refine Tr.rs [] (.k (ld .k (.b 3 rfl) tyM) (.k (cal .k Tryz.func11 rfl (fn_SkinnyM hP hT hS hw) (.k (.g 0 rfl) .n)) (.k (mv .k (.g 1 rfl)) (.k (exx .k (.g 2 rfl) rfl) (.k (exx .k (.g 2 rfl) rfl) (.k (asg .k (.g 3 rfl)) (.k (asg .k (.g 4 rfl)) .n))))))) [0,1,2,3,4,5,6,7] [5,6] rfl rfl ?_
  refine Tr.rs [] (.k (ld .k (.b 0 rfl) tyM) (.k (cal .k Tryz.func12 rfl (fn_rSkinnyM hP hT hS) (.k (.g 0 rfl) .n)) (.k (mv .k (.g 1 rfl)) (.k (exx .k (.g 2 rfl) rfl) (.k (exx .k (.g 2 rfl) rfl) (.k (asg .k (.g 3 rfl)) (.k (asg .k (.g 4 rfl)) .n))))))) [0,1,2,3,4,5,6,7,8,9] [5,6] rfl rfl ?_
  refine Tr.rs [] (.k (ld .k (.b 3 rfl) tyM) (.k (ld .k (.b 2 rfl) tyP) (.k (cal .k Tryz.func13 rfl (fn_Near (q:=q) hP hT hS hw) (.k (.g 0 rfl) (.k (.g 1 rfl) .n))) (.k (mv .k (.g 2 rfl)) (.k (exx .k (.g 3 rfl) rfl) (.k (exx .k (.g 3 rfl) rfl) (.k (asg .k (.g 4 rfl)) (.k (asg .k (.g 5 rfl)) .n)))))))) [0,1,2,3,4,5,6,7,8,9,10,11] [6,7] rfl rfl ?_
  refine Tr.rs [] (.k (ld .k (.b 0 rfl) tyM) (.k (ld .k (.b 2 rfl) tyP) (.k (cal .k Tryz.func14 rfl (fn_rNear (q0:=q) hP hT hS) (.k (.g 0 rfl) (.k (.g 1 rfl) .n))) (.k (mv .k (.g 2 rfl)) (.k (exx .k (.g 3 rfl) rfl) (.k (exx .k (.g 3 rfl) rfl) (.k (asg .k (.g 4 rfl)) (.k (asg .k (.g 5 rfl)) .n)))))))) [0,1,3,4,5,6,7,8,9,10,11,12,13] [6,7] rfl rfl ?_
  refine Tr.rs [] (.k (ld .k (.b 2 rfl) tyM) (.k (ld .k (.b 1 rfl) tyS) (.k (cal .k Tryz.func15 rfl (fn_Crowds (s:=s) hP hT hS hw) (.k (.g 0 rfl) (.k (.g 1 rfl) .n))) (.k (asg .k (.g 2 rfl)) .n)))) [0,1,2,3,4,5,6,7,8,9,10,11,12,13,14] [3] rfl rfl ?_
  refine Tr.ds hmx [] (.k (mv .k (.b 3 rfl)) (.k (mv .k (.b 5 rfl)) (.k (cal .k Tryz.func16 rfl (fn_SameT (crdL P T S) (by omega)) (.k (.g 0 rfl) (.k (.g 1 rfl) .n))) (.k (mv .k (.g 2 rfl)) (.k (mv (.o 3 rfl rfl rfl) (.b 4 rfl)) (.k (mv (.o 3 rfl rfl rfl) (.b 6 rfl)) (.k (eq_ (.o 3 rfl rfl rfl) (.g 4 rfl) (.g 5 rfl) (beq_self_eq_true _)) (.k (pickT .k (.g 3 rfl) (.g 6 rfl)) (.k (mv .k (.g 7 rfl)) (.k (mv (.o 8 rfl rfl rfl) (.b 7 rfl)) (.k (mv (.o 8 rfl rfl rfl) (.b 9 rfl)) (.k (cal (.o 8 rfl rfl rfl) Tryz.func16 rfl (fn_SameT (sknL P T S) (by omega)) (.k (.g 9 rfl) (.k (.g 10 rfl) .n))) (.k (pickT .k (.g 8 rfl) (.g 11 rfl)) (.k (mv .k (.g 12 rfl)) (.k (mv (.o 13 rfl rfl rfl) (.b 8 rfl)) (.k (mv (.o 13 rfl rfl rfl) (.b 10 rfl)) (.k (eq_ (.o 13 rfl rfl rfl) (.g 14 rfl) (.g 15 rfl) (beq_self_eq_true _)) (.k (pickT .k (.g 13 rfl) (.g 16 rfl)) (.k (mv .k (.g 17 rfl)) (.k (mv (.o 18 rfl rfl rfl) (.b 11 rfl)) (.k (mv (.o 18 rfl rfl rfl) (.b 13 rfl)) (.k (eq_ (.o 18 rfl rfl rfl) (.g 19 rfl) (.g 20 rfl) (beq_self_eq_true _)) (.k (pickT .k (.g 18 rfl) (.g 21 rfl)) (.k (mv .k (.g 22 rfl)) (.k (mv (.o 23 rfl rfl rfl) (.b 12 rfl)) (.k (mv (.o 23 rfl rfl rfl) (.b 14 rfl)) (.k (eqB_ (.o 23 rfl rfl rfl) Tryz.underlying4 (.g 24 rfl) (.g 25 rfl) (beq_self_eq_true _)) (.k (pickT .k (.g 23 rfl) (.g 26 rfl)) (.k (mv .k (.g 27 rfl)) (.k (mv (.o 28 rfl rfl rfl) (.b 15 rfl)) (.k (ld (.o 28 rfl rfl rfl) (.b 0 rfl) tyM) (.k (ld (.o 28 rfl rfl rfl) (.b 1 rfl) tyS) (.k (cal (.o 28 rfl rfl rfl) Tryz.func17 rfl (fn_rCrowds (s:=s) hP hT hS) (.k (.g 30 rfl) (.k (.g 31 rfl) .n))) (.k (cal (.o 28 rfl rfl rfl) Tryz.func16 rfl (fn_SameT (crwL P T S s) (crwL_len s)) (.k (.g 29 rfl) (.k (.g 32 rfl) .n))) (.k (pickT .k (.g 28 rfl) (.g 33 rfl)) (.k (mv .k (.g 34 rfl)) (.k (ld (.o 35 rfl rfl rfl) (.b 2 rfl) tyM) (.k (cal (.o 35 rfl rfl rfl) Tryz.func18 rfl (fn_Good hP hT hS hw) (.k (.g 36 rfl) .n)) (.k (ld (.o 35 rfl rfl rfl) (.b 0 rfl) tyM) (.k (cal (.o 35 rfl rfl rfl) Tryz.func19 rfl (fn_rGood hP hT hS) (.k (.g 38 rfl) .n)) (.k (eqB_ (.o 35 rfl rfl rfl) Tryz.underlying4 (.g 37 rfl) (.g 39 rfl) (beq_self_eq_true _)) (.k (pickT .k (.g 35 rfl) (.g 40 rfl)) (.k (mv .k (.g 41 rfl)) (.k (ld (.o 42 rfl rfl rfl) (.b 2 rfl) tyM) (.k (ld (.o 42 rfl rfl rfl) (.b 0 rfl) tyM) (.k (cal (.o 42 rfl rfl rfl) Tryz.func20 rfl (fn_Same hP hT hS) (.k (.g 43 rfl) (.k (.g 44 rfl) .n))) (.k (pickT .k (.g 42 rfl) (.g 45 rfl)) (.k (mv .k (.g 46 rfl)) (.k (cal (.o 47 rfl rfl rfl) Tryz.func7 rfl fn_known .n) (.k (pickT .k (.g 47 rfl) (.g 48 rfl)) (.k (asg .k (.g 49 rfl)) .n))))))))))))))))))))))))))))))))))))))))))))))))))) [] [50] rfl rfl ?_
  refine Tr.ret (end_tmp 0 rfl rfl)
 ·
  refine Tr.seq (Tr.rs [] (.k (ld .k (.b 0 rfl) tyM) (.k (cal .k Tryz.func6 rfl (fn_manyK hm) (.k (.g 0 rfl) .n)) .n)) [0,1,2] [1] rfl rfl ?_)
  refine Tr.cond 3 rfl (fun _=>?_) nofun
  refine Tr.rs [] (.k (cal .k Tryz.func7 rfl fn_known .n) (.k (asg .k (.g 0 rfl)) .n)) [] [1] rfl rfl ?_
  refine Tr.ret (end_tmp 0 rfl rfl)
theorem defectsTells_any (P:List (Int × Int)) (T:List (Int × Int × Int)) (S:List (Int × Int)) (v:Value) (s:Int × Int) (a b:Int) (W:World) (h:(SP.mesh P T S).H (fun _=>True) v W) (hw:∀ s∈S,(Lit.int .i64 s.1).wf=true∧(Lit.int .i64 s.2).wf=true) (w1:wfS s) (w2:I64 a∧I64 b):Calls Tryz.prog 3 #[v,sgv s,ptv a b] W fun e w'=>e = .returned (.bool true)∧Below W.heap.size W w' :=
  FnC.go (vs:=[v,sgv s,ptv a b]) (lawTells_any (s:=s) (q:=(a,b)) hw) W ⟨h,rfl,rfl,trivial⟩
end Go.Proofs.YtkgagdjogedoiaaGreat

/- Flips: the document's, walked. -/
import Derived.Test.YtkgagdjogedoiaaGreatSx4
import Derived.Test.YtkgagdjogedoiaaGreatSw6
set_option linter.unusedVariables false
set_option linter.unusedSimpArgs false
set_option maxRecDepth 100000
set_option maxHeartbeats 8000000
namespace Go.Proofs.YtkgagdjogedoiaaGreat
open Go Go.RowKit Go.Proofs.YtkgagdjogedoiaaGreat.Fx Go.Proofs.YtkgagdjogedoiaaGreatW.PrintWords
theorem fn_third13 {t:Int × Int × Int} {a b:Int}:FnC Tryz.prog 152 [.is (trv t),iv a,iv b] (iv (thd t a b)):=by
 refine FnC.of (N:=33) Tryz.func152 rfl rfl (Nat.le_of_ble_eq_true rfl) (fun w0 ok0=>?_)
 refine Tr.rs [] (.k (bxx .k (.b 0 rfl)) (.k (asg .k .c) .n)) [1,2] [0] rfl rfl ?_
 unfold thd
 refine Tr.seq (?_)
 refine Tr.share0 (p:=¬ (t.1≠a∧t.1≠b)) [.b 3 (.is (trv t)) 55 3,.s 1 (iv a),.s 2 (iv b)] (fun hn=>?_) (fun H_=>?_)
 ·
  rw [if_neg hn]
  rcases and_ways2 (t.2.1≠a) (t.2.1≠b) with d1|⟨d1,d2⟩|⟨d1,d2⟩
  ·
   rw [if_neg (fun h=>d1 h.1)]
   refine Tr.seq (Tr.rs [] (.k (faddr .k (.b 0 rfl) rfl fTB) (.k (ldc .k (.g 0 rfl) (.b 0 rfl) tyI) (.k (mv .k (.b 1 rfl)) (.k (ne_ .k (.g 1 rfl) (.g 2 rfl) (bne_eq_false_iff_eq.2 (Classical.not_not.1 d1))) (.k (mv .k (.g 3 rfl)) (.k (skp (.o 4 rfl rfl rfl)) (.k (skp (.o 4 rfl rfl rfl)) (.k (skp (.o 4 rfl rfl rfl)) (.k (skp (.o 4 rfl rfl rfl)) (.k (pickF .k (.g 4 rfl) .c) .n)))))))))) [0] [9] rfl rfl ?_)
   refine Tr.cond 1 rfl nofun (fun _=>?_)
   refine Tr.skip (Nx.go (Tr.rs [] (.k (faddr .k (.b 0 rfl) rfl fTC) (.k (ldc .k (.g 0 rfl) (.b 0 rfl) tyI) (.k (asg .k (.g 1 rfl)) .n))) [] [2] rfl rfl ?_))
   refine Tr.ret (end_tmp 0 rfl rfl)
  ·
   rw [if_neg (fun h=>d2 h.2)]
   refine Tr.seq (Tr.rs [] (.k (faddr .k (.b 0 rfl) rfl fTB) (.k (ldc .k (.g 0 rfl) (.b 0 rfl) tyI) (.k (mv .k (.b 1 rfl)) (.k (ne_ .k (.g 1 rfl) (.g 2 rfl) (bne_iff_ne.2 d1)) (.k (mv .k (.g 3 rfl)) (.k (faddr (.o 4 rfl rfl rfl) (.b 0 rfl) rfl fTB) (.k (ldc (.o 4 rfl rfl rfl) (.g 5 rfl) (.b 0 rfl) tyI) (.k (mv (.o 4 rfl rfl rfl) (.b 2 rfl)) (.k (ne_ (.o 4 rfl rfl rfl) (.g 6 rfl) (.g 7 rfl) (bne_eq_false_iff_eq.2 (Classical.not_not.1 d2))) (.k (pickT .k (.g 4 rfl) (.g 8 rfl)) .n)))))))))) [0] [9] rfl rfl ?_)
   refine Tr.cond 1 rfl nofun (fun _=>?_)
   refine Tr.skip (Nx.go (Tr.rs [] (.k (faddr .k (.b 0 rfl) rfl fTC) (.k (ldc .k (.g 0 rfl) (.b 0 rfl) tyI) (.k (asg .k (.g 1 rfl)) .n))) [] [2] rfl rfl ?_))
   refine Tr.ret (end_tmp 0 rfl rfl)
  ·
   rw [if_pos ⟨d1,d2⟩]
   refine Tr.seq (Tr.rs [] (.k (faddr .k (.b 0 rfl) rfl fTB) (.k (ldc .k (.g 0 rfl) (.b 0 rfl) tyI) (.k (mv .k (.b 1 rfl)) (.k (ne_ .k (.g 1 rfl) (.g 2 rfl) (bne_iff_ne.2 d1)) (.k (mv .k (.g 3 rfl)) (.k (faddr (.o 4 rfl rfl rfl) (.b 0 rfl) rfl fTB) (.k (ldc (.o 4 rfl rfl rfl) (.g 5 rfl) (.b 0 rfl) tyI) (.k (mv (.o 4 rfl rfl rfl) (.b 2 rfl)) (.k (ne_ (.o 4 rfl rfl rfl) (.g 6 rfl) (.g 7 rfl) (bne_iff_ne.2 d2)) (.k (pickT .k (.g 4 rfl) (.g 8 rfl)) .n)))))))))) [0] [9] rfl rfl ?_)
   refine Tr.cond 1 rfl (fun _=>?_) nofun
   refine Tr.rs [] (.k (faddr .k (.b 0 rfl) rfl fTB) (.k (ldc .k (.g 0 rfl) (.b 0 rfl) tyI) (.k (asg .k (.g 1 rfl)) .n))) [] [2] rfl rfl ?_
   refine Tr.ret (end_tmp 0 rfl rfl)
 ·
  rcases and_ways2 (t.1≠a) (t.1≠b) with c1|⟨c1,c2⟩|⟨c1,c2⟩
  ·
   refine Tr.rs [] (.k (faddr .k (.b 2 rfl) rfl fTA) (.k (ldc .k (.g 0 rfl) (.b 2 rfl) tyI) (.k (mv .k (.b 0 rfl)) (.k (ne_ .k (.g 1 rfl) (.g 2 rfl) (bne_eq_false_iff_eq.2 (Classical.not_not.1 c1))) (.k (mv .k (.g 3 rfl)) (.k (skp (.o 4 rfl rfl rfl)) (.k (skp (.o 4 rfl rfl rfl)) (.k (skp (.o 4 rfl rfl rfl)) (.k (skp (.o 4 rfl rfl rfl)) (.k (pickF .k (.g 4 rfl) .c) .n)))))))))) [0,1,2] [9] rfl rfl ?_
   refine Tr.cond 3 rfl nofun (fun _=>?_)
   refine Tr.skip (Nx.go (Tr.sub (Sub.all (.cons 2 rfl (.cons 0 rfl (.cons 1 rfl .nil)))) (H_ (fun h=>c1 h.1))))
  ·
   refine Tr.rs [] (.k (faddr .k (.b 2 rfl) rfl fTA) (.k (ldc .k (.g 0 rfl) (.b 2 rfl) tyI) (.k (mv .k (.b 0 rfl)) (.k (ne_ .k (.g 1 rfl) (.g 2 rfl) (bne_iff_ne.2 c1)) (.k (mv .k (.g 3 rfl)) (.k (faddr (.o 4 rfl rfl rfl) (.b 2 rfl) rfl fTA) (.k (ldc (.o 4 rfl rfl rfl) (.g 5 rfl) (.b 2 rfl) tyI) (.k (mv (.o 4 rfl rfl rfl) (.b 1 rfl)) (.k (ne_ (.o 4 rfl rfl rfl) (.g 6 rfl) (.g 7 rfl) (bne_eq_false_iff_eq.2 (Classical.not_not.1 c2))) (.k (pickT .k (.g 4 rfl) (.g 8 rfl)) .n)))))))))) [0,1,2] [9] rfl rfl ?_
   refine Tr.cond 3 rfl nofun (fun _=>?_)
   refine Tr.skip (Nx.go (Tr.sub (Sub.all (.cons 2 rfl (.cons 0 rfl (.cons 1 rfl .nil)))) (H_ (fun h=>c2 h.2))))
  ·
   rw [if_pos ⟨c1,c2⟩]
   refine Tr.rs [] (.k (faddr .k (.b 2 rfl) rfl fTA) (.k (ldc .k (.g 0 rfl) (.b 2 rfl) tyI) (.k (mv .k (.b 0 rfl)) (.k (ne_ .k (.g 1 rfl) (.g 2 rfl) (bne_iff_ne.2 c1)) (.k (mv .k (.g 3 rfl)) (.k (faddr (.o 4 rfl rfl rfl) (.b 2 rfl) rfl fTA) (.k (ldc (.o 4 rfl rfl rfl) (.g 5 rfl) (.b 2 rfl) tyI) (.k (mv (.o 4 rfl rfl rfl) (.b 1 rfl)) (.k (ne_ (.o 4 rfl rfl rfl) (.g 6 rfl) (.g 7 rfl) (bne_iff_ne.2 c2)) (.k (pickT .k (.g 4 rfl) (.g 8 rfl)) .n)))))))))) [0,1,2] [9] rfl rfl ?_
   refine Tr.cond 3 rfl (fun _=>?_) nofun
   refine Tr.rs [] (.k (faddr .k (.b 2 rfl) rfl fTA) (.k (ldc .k (.g 0 rfl) (.b 2 rfl) tyI) (.k (asg .k (.g 1 rfl)) .n))) [] [2] rfl rfl ?_
   refine Tr.ret (end_tmp 0 rfl rfl)
theorem fn_acrossT {P:List (Int × Int)} {T:List (Int × Int × Int)} {S:List (Int × Int)} {a b:Int} (hT:T.length≤1000000) (hb:both T a b):FnC Tryz.prog 134 [SP.mesh P T S,iv a,iv b] (.tup [iv (acC T a b),iv (acD T a b),bv true]):=by
 refine FnC.of (N:=43) Tryz.func134 rfl rfl (Nat.le_of_ble_eq_true rfl) (fun w0 ok0=>?_)
 refine Tr.rs [] (.k (bxx .k (.b 0 rfl)) (.k (asg .k .c) (.k (asg .k .c) (.k (asg .k .c) .n)))) [1,2] [0] rfl rfl ?_
 refine Tr.rs [] (.k (faddr .k (.b 2 rfl) rfl fMT) (.k (ldc .k (.g 0 rfl) (.b 2 rfl) tyvT) (.k (mv .k (.b 0 rfl)) (.k (mv .k (.b 1 rfl)) (.k (cal .k Tryz.func48 rfl (fn_Left hT) (.k (.g 1 rfl) (.k (.g 2 rfl) (.k (.g 3 rfl) .n)))) (.k (asg .k (.g 4 rfl)) .n)))))) [0,1,2] [5] rfl rfl ?_
 refine Tr.rs [] (.k (faddr .k (.b 2 rfl) rfl fMT) (.k (ldc .k (.g 0 rfl) (.b 2 rfl) tyvT) (.k (mv .k (.b 1 rfl)) (.k (mv .k (.b 0 rfl)) (.k (cal .k Tryz.func48 rfl (fn_Left hT) (.k (.g 1 rfl) (.k (.g 2 rfl) (.k (.g 3 rfl) .n)))) (.k (asg .k (.g 4 rfl)) .n)))))) [0,1,2,3] [5] rfl rfl ?_
 refine Tr.seq (Tr.rs [] (.k (mv .k (.b 3 rfl)) (.k (lt_ .k (.g 0 rfl) .c (decide_eq_false (show ¬ leftR T a b < 0 by have:=hb.1;omega))) (.k (mv .k (.g 1 rfl)) (.k (mv (.o 2 rfl rfl rfl) (.b 4 rfl)) (.k (lt_ (.o 2 rfl rfl rfl) (.g 3 rfl) .c (decide_eq_false (show ¬ leftR T b a < 0 by have:=hb.2;omega))) (.k (pickF .k (.g 2 rfl) (.g 4 rfl)) .n)))))) [0,1,2,3,4] [5] rfl rfl ?_)
 refine Tr.cond 5 rfl nofun (fun _=>?_)
 refine Tr.skip (Nx.go (?_))
 obtain ⟨i,s,h1,h2,_⟩:=left_at hb.1
 obtain ⟨k,t,k1,k2,_⟩:=left_at hb.2
 rw [acC_of h1 h2,acD_of k1 k2]
 refine Tr.ds hmx [] (.k (faddr .k (.b 2 rfl) rfl fMT) (.k (ldc .k (.g 0 rfl) (.b 2 rfl) tyvT) (.k (mv .k (.b 3 rfl)) (.k (idx_ .k rwT (.g 1 rfl) (.g 2 rfl) h1 (gm h2)) (.k (ld_at .k (.g 3 rfl) tyT rfl (show _=trv (_,_,_) from rfl)) (.k (mv .k (.b 0 rfl)) (.k (mv .k (.b 1 rfl)) (.k (cal .k Tryz.func152 rfl fn_third13 (.k (.g 4 rfl) (.k (.g 5 rfl) (.k (.g 6 rfl) .n)))) (.k (faddr .k (.b 2 rfl) rfl fMT) (.k (ldc .k (.g 8 rfl) (.b 2 rfl) tyvT) (.k (mv .k (.b 4 rfl)) (.k (idx_ .k rwT (.g 9 rfl) (.g 10 rfl) k1 (gm k2)) (.k (ld_at .k (.g 11 rfl) tyT rfl (show _=trv (_,_,_) from rfl)) (.k (mv .k (.b 0 rfl)) (.k (mv .k (.b 1 rfl)) (.k (cal .k Tryz.func152 rfl fn_third13 (.k (.g 12 rfl) (.k (.g 13 rfl) (.k (.g 14 rfl) .n)))) (.k (asg .k (.g 7 rfl)) (.k (asg .k (.g 15 rfl)) (.k (asg .k .c) .n))))))))))))))))))) [] [16,17,18] rfl rfl ?_
 refine Tr.ret (end_tmp3 0 1 2 rfl rfl rfl rfl)
theorem fn_acrossF {P:List (Int × Int)} {T:List (Int × Int × Int)} {S:List (Int × Int)} {a b:Int} (hT:T.length≤1000000) (hb:¬ both T a b):FnC Tryz.prog 134 [SP.mesh P T S,iv a,iv b] (.tup [iv 0,iv 0,bv false]):=by
 refine FnC.of (N:=43) Tryz.func134 rfl rfl (Nat.le_of_ble_eq_true rfl) (fun w0 ok0=>?_)
 refine Tr.rs [] (.k (bxx .k (.b 0 rfl)) (.k (asg .k .c) (.k (asg .k .c) (.k (asg .k .c) .n)))) [1,2] [0] rfl rfl ?_
 refine Tr.rs [] (.k (faddr .k (.b 2 rfl) rfl fMT) (.k (ldc .k (.g 0 rfl) (.b 2 rfl) tyvT) (.k (mv .k (.b 0 rfl)) (.k (mv .k (.b 1 rfl)) (.k (cal .k Tryz.func48 rfl (fn_Left hT) (.k (.g 1 rfl) (.k (.g 2 rfl) (.k (.g 3 rfl) .n)))) (.k (asg .k (.g 4 rfl)) .n)))))) [0,1,2] [5] rfl rfl ?_
 refine Tr.rs [] (.k (faddr .k (.b 2 rfl) rfl fMT) (.k (ldc .k (.g 0 rfl) (.b 2 rfl) tyvT) (.k (mv .k (.b 1 rfl)) (.k (mv .k (.b 0 rfl)) (.k (cal .k Tryz.func48 rfl (fn_Left hT) (.k (.g 1 rfl) (.k (.g 2 rfl) (.k (.g 3 rfl) .n)))) (.k (asg .k (.g 4 rfl)) .n)))))) [0,1,2,3] [5] rfl rfl ?_
 by_cases c1:leftR T a b < 0
 ·
  refine Tr.seq (Tr.rs [] (.k (mv .k (.b 3 rfl)) (.k (lt_ .k (.g 0 rfl) .c (decide_eq_true c1)) (.k (mv .k (.g 1 rfl)) (.k (skp (.o 2 rfl rfl rfl)) (.k (skp (.o 2 rfl rfl rfl)) (.k (pickT .k (.g 2 rfl) .c) .n)))))) [0,1,2,3,4] [5] rfl rfl ?_)
  refine Tr.cond 5 rfl (fun _=>?_) nofun
  refine Tr.rs [] (.k (asg .k .c) (.k (asg .k .c) (.k (asg .k .c) .n))) [] [0,1,2] rfl rfl ?_
  refine Tr.ret (end_tmp3 0 1 2 rfl rfl rfl rfl)
 ·
  refine Tr.seq (Tr.rs [] (.k (mv .k (.b 3 rfl)) (.k (lt_ .k (.g 0 rfl) .c (decide_eq_false c1)) (.k (mv .k (.g 1 rfl)) (.k (mv (.o 2 rfl rfl rfl) (.b 4 rfl)) (.k (lt_ (.o 2 rfl rfl rfl) (.g 3 rfl) .c (decide_eq_true (show leftR T b a < 0 by unfold both at hb;omega))) (.k (pickF .k (.g 2 rfl) (.g 4 rfl)) .n)))))) [0,1,2,3,4] [5] rfl rfl ?_)
  refine Tr.cond 5 rfl (fun _=>?_) nofun
  refine Tr.rs [] (.k (asg .k .c) (.k (asg .k .c) (.k (asg .k .c) .n))) [] [0,1,2] rfl rfl ?_
  refine Tr.ret (end_tmp3 0 1 2 rfl rfl rfl rfl)
theorem fn_AcrossT {P:List (Int × Int)} {T:List (Int × Int × Int)} {S:List (Int × Int)} {a b:Int} (hP:P.length≤1000000) (hT:T.length≤1000000) (hS:S.length≤1000000) (M:MeshOK P.length (oP P) T S) (hb:both T a b):FnC Tryz.prog 111 [SP.mesh P T S,iv a,iv b] (.tup [iv (acC T a b),iv (acD T a b),bv true]):=by
 refine FnC.of (N:=21) Tryz.func111 rfl rfl (Nat.le_of_ble_eq_true rfl) (fun w0 ok0=>?_)
 refine Tr.rs [] (.k (bxx .k (.b 0 rfl)) (.k (asg .k .c) (.k (asg .k .c) (.k (asg .k .c) .n)))) [1,2] [0] rfl rfl ?_
 refine Tr.rs [] (.k (ld .k (.b 2 rfl) tyM) (.k (cal .k Tryz.func25 rfl (show FnC _ _ _ (iv 0) from chk_ok M ▸ fn_rCheck hP hT hS) (.k (.g 0 rfl) .n)) (.k (asg .k (.g 1 rfl)) .n))) [0,1,2] [2] rfl rfl ?_
 refine Tr.seq (Tr.rs [] (.k (mv .k (.b 3 rfl)) (.k (ne_ .k (.g 0 rfl) .c (bne_eq_false_iff_eq.2 rfl)) .n)) [0,1,2] [1] rfl rfl ?_)
 refine Tr.cond 3 rfl nofun (fun _=>?_)
 refine Tr.skip (Nx.go (Tr.rs [] (.k (ld .k (.b 2 rfl) tyM) (.k (mv .k (.b 0 rfl)) (.k (mv .k (.b 1 rfl)) (.k (cal .k Tryz.func134 rfl (fn_acrossT hT hb) (.k (.g 0 rfl) (.k (.g 1 rfl) (.k (.g 2 rfl) .n)))) (.k (exx .k (.g 3 rfl) rfl) (.k (exx .k (.g 3 rfl) rfl) (.k (exx .k (.g 3 rfl) rfl) (.k (asg .k (.g 4 rfl)) (.k (asg .k (.g 5 rfl)) (.k (asg .k (.g 6 rfl)) .n)))))))))) [] [7,8,9] rfl rfl ?_))
 refine Tr.ret (end_tmp3 0 1 2 rfl rfl rfl rfl)
theorem fn_AcrossF {P:List (Int × Int)} {T:List (Int × Int × Int)} {S:List (Int × Int)} {a b:Int} (hP:P.length≤1000000) (hT:T.length≤1000000) (hS:S.length≤1000000) (M:MeshOK P.length (oP P) T S) (hb:¬ both T a b):FnC Tryz.prog 111 [SP.mesh P T S,iv a,iv b] (.tup [iv 0,iv 0,bv false]):=by
 refine FnC.of (N:=21) Tryz.func111 rfl rfl (Nat.le_of_ble_eq_true rfl) (fun w0 ok0=>?_)
 refine Tr.rs [] (.k (bxx .k (.b 0 rfl)) (.k (asg .k .c) (.k (asg .k .c) (.k (asg .k .c) .n)))) [1,2] [0] rfl rfl ?_
 refine Tr.rs [] (.k (ld .k (.b 2 rfl) tyM) (.k (cal .k Tryz.func25 rfl (show FnC _ _ _ (iv 0) from chk_ok M ▸ fn_rCheck hP hT hS) (.k (.g 0 rfl) .n)) (.k (asg .k (.g 1 rfl)) .n))) [0,1,2] [2] rfl rfl ?_
 refine Tr.seq (Tr.rs [] (.k (mv .k (.b 3 rfl)) (.k (ne_ .k (.g 0 rfl) .c (bne_eq_false_iff_eq.2 rfl)) .n)) [0,1,2] [1] rfl rfl ?_)
 refine Tr.cond 3 rfl nofun (fun _=>?_)
 refine Tr.skip (Nx.go (Tr.rs [] (.k (ld .k (.b 2 rfl) tyM) (.k (mv .k (.b 0 rfl)) (.k (mv .k (.b 1 rfl)) (.k (cal .k Tryz.func134 rfl (fn_acrossF hT hb) (.k (.g 0 rfl) (.k (.g 1 rfl) (.k (.g 2 rfl) .n)))) (.k (exx .k (.g 3 rfl) rfl) (.k (exx .k (.g 3 rfl) rfl) (.k (exx .k (.g 3 rfl) rfl) (.k (asg .k (.g 4 rfl)) (.k (asg .k (.g 5 rfl)) (.k (asg .k (.g 6 rfl)) .n)))))))))) [] [7,8,9] rfl rfl ?_))
 refine Tr.ret (end_tmp3 0 1 2 rfl rfl rfl rfl)
theorem fn_joined {P:List (Int × Int)} {T:List (Int × Int × Int)} {S:List (Int × Int)} {c d:Int} (hT:T.length≤1000000):FnC Tryz.prog 135 [SP.mesh P T S,iv c,iv d] (bv (decide (joinP T c d))):=by
 refine FnC.of (N:=21) Tryz.func135 rfl rfl (Nat.le_of_ble_eq_true rfl) (fun w0 ok0=>?_)
 refine Tr.rs [] (.k (bxx .k (.b 0 rfl)) (.k (asg .k .c) .n)) [1,2] [0] rfl rfl ?_
 by_cases c1:leftR T c d ≥ 0
 ·
  rw [show decide (joinP T c d)=true by rw [join_iff,decide_eq_true c1,Bool.true_or]]
  refine Tr.rs [] (.k (faddr .k (.b 2 rfl) rfl fMT) (.k (ldc .k (.g 0 rfl) (.b 2 rfl) tyvT) (.k (mv .k (.b 0 rfl)) (.k (mv .k (.b 1 rfl)) (.k (cal .k Tryz.func48 rfl (fn_Left hT) (.k (.g 1 rfl) (.k (.g 2 rfl) (.k (.g 3 rfl) .n)))) (.k (ge_ .k (.g 4 rfl) .c (decide_eq_true c1)) (.k (mv .k (.g 5 rfl)) (.k (skp (.o 6 rfl rfl rfl)) (.k (skp (.o 6 rfl rfl rfl)) (.k (skp (.o 6 rfl rfl rfl)) (.k (skp (.o 6 rfl rfl rfl)) (.k (skp (.o 6 rfl rfl rfl)) (.k (skp (.o 6 rfl rfl rfl)) (.k (pickT .k (.g 6 rfl) .c) (.k (asg .k (.g 13 rfl)) .n))))))))))))))) [] [14] rfl rfl ?_
  refine Tr.ret (end_tmp 0 rfl rfl)
 ·
  rw [show decide (joinP T c d)=decide (leftR T d c ≥ 0) by rw [join_iff,decide_eq_false c1,Bool.false_or]]
  refine Tr.rs [] (.k (faddr .k (.b 2 rfl) rfl fMT) (.k (ldc .k (.g 0 rfl) (.b 2 rfl) tyvT) (.k (mv .k (.b 0 rfl)) (.k (mv .k (.b 1 rfl)) (.k (cal .k Tryz.func48 rfl (fn_Left hT) (.k (.g 1 rfl) (.k (.g 2 rfl) (.k (.g 3 rfl) .n)))) (.k (ge_ .k (.g 4 rfl) .c (decide_eq_false c1)) (.k (mv .k (.g 5 rfl)) (.k (faddr (.o 6 rfl rfl rfl) (.b 2 rfl) rfl fMT) (.k (ldc (.o 6 rfl rfl rfl) (.g 7 rfl) (.b 2 rfl) tyvT) (.k (mv (.o 6 rfl rfl rfl) (.b 1 rfl)) (.k (mv (.o 6 rfl rfl rfl) (.b 0 rfl)) (.k (cal (.o 6 rfl rfl rfl) Tryz.func48 rfl (fn_Left hT) (.k (.g 8 rfl) (.k (.g 9 rfl) (.k (.g 10 rfl) .n)))) (.k (ge_ (.o 6 rfl rfl rfl) (.g 11 rfl) .c rfl) (.k (pickF .k (.g 6 rfl) (.g 12 rfl)) (.k (asg .k (.g 13 rfl)) .n))))))))))))))) [] [14] rfl rfl ?_
  refine Tr.ret (end_tmp 0 rfl rfl)
theorem fn_joinT {P:List (Int × Int)} {T:List (Int × Int × Int)} {S:List (Int × Int)} {c d:Int} (hT:T.length≤1000000) (h:joinP T c d):FnC Tryz.prog 135 [SP.mesh P T S,iv c,iv d] (bv true):=decide_eq_true h ▸ fn_joined hT
theorem fn_joinF {P:List (Int × Int)} {T:List (Int × Int × Int)} {S:List (Int × Int)} {c d:Int} (hT:T.length≤1000000) (h:¬ joinP T c d):FnC Tryz.prog 135 [SP.mesh P T S,iv c,iv d] (bv false):=decide_eq_false h ▸ fn_joined hT
open Classical in
noncomputable def badB (P:List (Int × Int)) (T:List (Int × Int × Int)) (S:List (Int × Int)) (a b:Int):Bool:=decide (badP P T S a b)
open Classical in
noncomputable def mayB (P:List (Int × Int)) (T:List (Int × Int × Int)) (S:List (Int × Int)) (a b:Int):Bool:=decide (mayP P T S a b)
theorem bad_no {P:List (Int × Int)} {T:List (Int × Int × Int)} {S:List (Int × Int)} {a b:Int} (h:¬ badP P T S a b):badB P T S a b=false:=by simp [badB,h]
theorem bad_so {P:List (Int × Int)} {T:List (Int × Int × Int)} {S:List (Int × Int)} {a b:Int} (h:badP P T S a b):badB P T S a b=true:=by simp [badB,h]
theorem may_no {P:List (Int × Int)} {T:List (Int × Int × Int)} {S:List (Int × Int)} {a b:Int} (h:¬ mayP P T S a b):mayB P T S a b=false:=by simp [mayB,h]
theorem may_so {P:List (Int × Int)} {T:List (Int × Int × Int)} {S:List (Int × Int)} {a b:Int} (h:mayP P T S a b):mayB P T S a b=true:=by simp [mayB,h]
theorem bad_eq {P:List (Int × Int)} {T:List (Int × Int × Int)} {S:List (Int × Int)} {a b:Int} (h:freeP T S a b) {k:Int} (hk:incZ (atP P a).1 (atP P a).2 (atP P b).1 (atP P b).2 (atP P (acC T a b)).1 (atP P (acC T a b)).2 (atP P (acD T a b)).1 (atP P (acD T a b)).2=k):badB P T S a b=(k==1):=by
  by_cases hh:k=1
  · rw [beq_iff_eq.2 hh];exact bad_so ⟨h,hk.trans hh⟩
  · rw [beq_eq_false_iff_ne.2 hh];exact bad_no fun h'=>hh (hk.symm.trans h'.2)
theorem may_eq {P:List (Int × Int)} {T:List (Int × Int × Int)} {S:List (Int × Int)} {a b:Int} (h:freeP T S a b) {k:Bool} (hk:k=true↔convP (oP P) a (acD T a b) b (acC T a b)):mayB P T S a b=k:=by
  cases k with
  | true=>exact may_so ⟨h,hk.1 rfl⟩
  | false=>exact may_no fun h'=>by have:=hk.2 h'.2;cases this
theorem at_of {P:List (Int × Int)} {a:Int} {u:Nat} {p:Int × Int} (e:a=u) (h:P[u]?=some p):atP P a=p:=by rw [e,atP_of h]
theorem fn_bad {P:List (Int × Int)} {T:List (Int × Int × Int)} {S:List (Int × Int)} {a b:Int} (hP:P.length≤1000000) (hT:T.length≤1000000) (hS:S.length≤1000000) (M:MeshOK P.length (oP P) T S):FnC Tryz.prog 109 [SP.mesh P T S,iv a,iv b] (bv (badB P T S a b)):=by
 refine FnC.of (N:=55) Tryz.func109 rfl rfl (Nat.le_of_ble_eq_true rfl) (fun w0 ok0=>?_)
 refine Tr.rs [] (.k (bxx .k (.b 0 rfl)) (.k (asg .k .c) .n)) [1,2] [0] rfl rfl ?_
 rcases and_ways3 (both T a b) (¬ hasP S a b) (¬ joinP T (acC T a b) (acD T a b)) with c1|⟨c1,c2⟩|⟨c1,c2,c3⟩|⟨c1,c2,c3⟩
 ·
  rw [show badB P T S a b=false from bad_no (fun h=>c1 h.1.1)]
  refine Tr.rs [] (.k (ld .k (.b 2 rfl) tyM) (.k (mv .k (.b 0 rfl)) (.k (mv .k (.b 1 rfl)) (.k (cal .k Tryz.func134 rfl (fn_acrossF hT c1) (.k (.g 0 rfl) (.k (.g 1 rfl) (.k (.g 2 rfl) .n)))) (.k (mv .k (.g 3 rfl)) (.k (exx .k (.g 4 rfl) rfl) (.k (exx .k (.g 4 rfl) rfl) (.k (exx .k (.g 4 rfl) rfl) (.k (asg .k (.g 5 rfl)) (.k (asg .k (.g 6 rfl)) (.k (asg .k (.g 7 rfl)) .n))))))))))) [0,1,2] [8,9,10] rfl rfl ?_
  refine Tr.seq (Tr.rs [] (.k (mv .k (.b 5 rfl)) (.k (not_ .k (.g 0 rfl)) (.k (mv .k (.g 1 rfl)) (.k (skp (.o 2 rfl rfl rfl)) (.k (skp (.o 2 rfl rfl rfl)) (.k (skp (.o 2 rfl rfl rfl)) (.k (skp (.o 2 rfl rfl rfl)) (.k (skp (.o 2 rfl rfl rfl)) (.k (pickT .k (.g 2 rfl) .c) (.k (mv .k (.g 8 rfl)) (.k (skp (.o 9 rfl rfl rfl)) (.k (skp (.o 9 rfl rfl rfl)) (.k (skp (.o 9 rfl rfl rfl)) (.k (skp (.o 9 rfl rfl rfl)) (.k (pickT .k (.g 9 rfl) .c) .n))))))))))))))) [0,1,2,3,4] [14] rfl rfl ?_)
  refine Tr.cond 5 rfl (fun _=>?_) nofun
  refine Tr.rs [] (.k (asg .k .c) .n) [] [0] rfl rfl ?_
  refine Tr.ret (end_tmp 0 rfl rfl)
 ·
  rw [show badB P T S a b=false from bad_no (fun h=>h.1.2.1 (Classical.not_not.1 c2))]
  refine Tr.rs [] (.k (ld .k (.b 2 rfl) tyM) (.k (mv .k (.b 0 rfl)) (.k (mv .k (.b 1 rfl)) (.k (cal .k Tryz.func134 rfl (fn_acrossT hT c1) (.k (.g 0 rfl) (.k (.g 1 rfl) (.k (.g 2 rfl) .n)))) (.k (mv .k (.g 3 rfl)) (.k (exx .k (.g 4 rfl) rfl) (.k (exx .k (.g 4 rfl) rfl) (.k (exx .k (.g 4 rfl) rfl) (.k (asg .k (.g 5 rfl)) (.k (asg .k (.g 6 rfl)) (.k (asg .k (.g 7 rfl)) .n))))))))))) [0,1,2] [8,9,10] rfl rfl ?_
  refine Tr.seq (Tr.rs [] (.k (mv .k (.b 5 rfl)) (.k (not_ .k (.g 0 rfl)) (.k (mv .k (.g 1 rfl)) (.k (faddr (.o 2 rfl rfl rfl) (.b 2 rfl) rfl fMS) (.k (ldc (.o 2 rfl rfl rfl) (.g 3 rfl) (.b 2 rfl) tyvS) (.k (mv (.o 2 rfl rfl rfl) (.b 0 rfl)) (.k (mv (.o 2 rfl rfl rfl) (.b 1 rfl)) (.k (cal (.o 2 rfl rfl rfl) Tryz.func53 rfl (fn_HasT hS (Classical.not_not.1 c2)) (.k (.g 4 rfl) (.k (.g 5 rfl) (.k (.g 6 rfl) .n)))) (.k (pickF .k (.g 2 rfl) (.g 7 rfl)) (.k (mv .k (.g 8 rfl)) (.k (skp (.o 9 rfl rfl rfl)) (.k (skp (.o 9 rfl rfl rfl)) (.k (skp (.o 9 rfl rfl rfl)) (.k (skp (.o 9 rfl rfl rfl)) (.k (pickT .k (.g 9 rfl) .c) .n))))))))))))))) [0,1,2,3,4] [14] rfl rfl ?_)
  refine Tr.cond 5 rfl (fun _=>?_) nofun
  refine Tr.rs [] (.k (asg .k .c) .n) [] [0] rfl rfl ?_
  refine Tr.ret (end_tmp 0 rfl rfl)
 ·
  rw [show badB P T S a b=false from bad_no (fun h=>h.1.2.2 (Classical.not_not.1 c3))]
  refine Tr.rs [] (.k (ld .k (.b 2 rfl) tyM) (.k (mv .k (.b 0 rfl)) (.k (mv .k (.b 1 rfl)) (.k (cal .k Tryz.func134 rfl (fn_acrossT hT c1) (.k (.g 0 rfl) (.k (.g 1 rfl) (.k (.g 2 rfl) .n)))) (.k (mv .k (.g 3 rfl)) (.k (exx .k (.g 4 rfl) rfl) (.k (exx .k (.g 4 rfl) rfl) (.k (exx .k (.g 4 rfl) rfl) (.k (asg .k (.g 5 rfl)) (.k (asg .k (.g 6 rfl)) (.k (asg .k (.g 7 rfl)) .n))))))))))) [0,1,2] [8,9,10] rfl rfl ?_
  refine Tr.seq (Tr.rs [] (.k (mv .k (.b 5 rfl)) (.k (not_ .k (.g 0 rfl)) (.k (mv .k (.g 1 rfl)) (.k (faddr (.o 2 rfl rfl rfl) (.b 2 rfl) rfl fMS) (.k (ldc (.o 2 rfl rfl rfl) (.g 3 rfl) (.b 2 rfl) tyvS) (.k (mv (.o 2 rfl rfl rfl) (.b 0 rfl)) (.k (mv (.o 2 rfl rfl rfl) (.b 1 rfl)) (.k (cal (.o 2 rfl rfl rfl) Tryz.func53 rfl (fn_HasF hS c2) (.k (.g 4 rfl) (.k (.g 5 rfl) (.k (.g 6 rfl) .n)))) (.k (pickF .k (.g 2 rfl) (.g 7 rfl)) (.k (mv .k (.g 8 rfl)) (.k (ld (.o 9 rfl rfl rfl) (.b 2 rfl) tyM) (.k (mv (.o 9 rfl rfl rfl) (.b 3 rfl)) (.k (mv (.o 9 rfl rfl rfl) (.b 4 rfl)) (.k (cal (.o 9 rfl rfl rfl) Tryz.func135 rfl (fn_joinT hT (Classical.not_not.1 c3)) (.k (.g 10 rfl) (.k (.g 11 rfl) (.k (.g 12 rfl) .n)))) (.k (pickF .k (.g 9 rfl) (.g 13 rfl)) .n))))))))))))))) [0,1,2,3,4] [14] rfl rfl ?_)
  refine Tr.cond 5 rfl (fun _=>?_) nofun
  refine Tr.rs [] (.k (asg .k .c) .n) [] [0] rfl rfl ?_
  refine Tr.ret (end_tmp 0 rfl rfl)
 ·
  obtain ⟨hC,hD,hA,hB⟩:=ac_in M c1
  obtain ⟨ua,pa,ea,ha⟩:=id hA
  obtain ⟨ub,pb,eb,hb⟩:=id hB
  obtain ⟨uc,pc_,ec,hc⟩:=id hC
  obtain ⟨ud,pd,ed,hd⟩:=id hD
  rw [bad_eq ⟨c1,c2,c3⟩ (by rw [at_of ea ha,at_of eb hb,at_of ec hc,at_of ed hd])]
  refine Tr.rs [] (.k (ld .k (.b 2 rfl) tyM) (.k (mv .k (.b 0 rfl)) (.k (mv .k (.b 1 rfl)) (.k (cal .k Tryz.func134 rfl (fn_acrossT hT c1) (.k (.g 0 rfl) (.k (.g 1 rfl) (.k (.g 2 rfl) .n)))) (.k (mv .k (.g 3 rfl)) (.k (exx .k (.g 4 rfl) rfl) (.k (exx .k (.g 4 rfl) rfl) (.k (exx .k (.g 4 rfl) rfl) (.k (asg .k (.g 5 rfl)) (.k (asg .k (.g 6 rfl)) (.k (asg .k (.g 7 rfl)) .n))))))))))) [0,1,2] [8,9,10] rfl rfl ?_
  refine Tr.seq (Tr.rs [] (.k (mv .k (.b 5 rfl)) (.k (not_ .k (.g 0 rfl)) (.k (mv .k (.g 1 rfl)) (.k (faddr (.o 2 rfl rfl rfl) (.b 2 rfl) rfl fMS) (.k (ldc (.o 2 rfl rfl rfl) (.g 3 rfl) (.b 2 rfl) tyvS) (.k (mv (.o 2 rfl rfl rfl) (.b 0 rfl)) (.k (mv (.o 2 rfl rfl rfl) (.b 1 rfl)) (.k (cal (.o 2 rfl rfl rfl) Tryz.func53 rfl (fn_HasF hS c2) (.k (.g 4 rfl) (.k (.g 5 rfl) (.k (.g 6 rfl) .n)))) (.k (pickF .k (.g 2 rfl) (.g 7 rfl)) (.k (mv .k (.g 8 rfl)) (.k (ld (.o 9 rfl rfl rfl) (.b 2 rfl) tyM) (.k (mv (.o 9 rfl rfl rfl) (.b 3 rfl)) (.k (mv (.o 9 rfl rfl rfl) (.b 4 rfl)) (.k (cal (.o 9 rfl rfl rfl) Tryz.func135 rfl (fn_joinF hT c3) (.k (.g 10 rfl) (.k (.g 11 rfl) (.k (.g 12 rfl) .n)))) (.k (pickF .k (.g 9 rfl) (.g 13 rfl)) .n))))))))))))))) [0,1,2,3,4] [14] rfl rfl ?_)
  refine Tr.cond 5 rfl nofun (fun _=>?_)
  refine Tr.skip (Nx.go (Tr.ds hmx [] (.k (faddr .k (.b 2 rfl) rfl fMP) (.k (ldc .k (.g 0 rfl) (.b 2 rfl) tyvP) (.k (mv .k (.b 0 rfl)) (.k (idx_ .k rwP (.g 1 rfl) (.g 2 rfl) ea (gm ha)) (.k (ld_at .k (.g 3 rfl) tyP rfl (show _=ptv _ _ from rfl)) (.k (faddr .k (.b 2 rfl) rfl fMP) (.k (ldc .k (.g 5 rfl) (.b 2 rfl) tyvP) (.k (mv .k (.b 1 rfl)) (.k (idx_ .k rwP (.g 6 rfl) (.g 7 rfl) eb (gm hb)) (.k (ld_at .k (.g 8 rfl) tyP rfl (show _=ptv _ _ from rfl)) (.k (faddr .k (.b 2 rfl) rfl fMP) (.k (ldc .k (.g 10 rfl) (.b 2 rfl) tyvP) (.k (mv .k (.b 3 rfl)) (.k (idx_ .k rwP (.g 11 rfl) (.g 12 rfl) ec (gm hc)) (.k (ld_at .k (.g 13 rfl) tyP rfl (show _=ptv _ _ from rfl)) (.k (faddr .k (.b 2 rfl) rfl fMP) (.k (ldc .k (.g 15 rfl) (.b 2 rfl) tyvP) (.k (mv .k (.b 4 rfl)) (.k (idx_ .k rwP (.g 16 rfl) (.g 17 rfl) ed (gm hd)) (.k (ld_at .k (.g 18 rfl) tyP rfl (show _=ptv _ _ from rfl)) (.k (cal .k Tryz.func136 rfl fn_rInCircle (.k (.g 4 rfl) (.k (.g 9 rfl) (.k (.g 14 rfl) (.k (.g 19 rfl) .n))))) (.k (eq_ .k (.g 20 rfl) .c rfl) (.k (asg .k (.g 21 rfl)) .n))))))))))))))))))))))) [] [22] rfl rfl ?_))
  refine Tr.ret (end_tmp 0 rfl rfl)
theorem fn_May {P:List (Int × Int)} {T:List (Int × Int × Int)} {S:List (Int × Int)} {a b:Int} (hP:P.length≤1000000) (hT:T.length≤1000000) (hS:S.length≤1000000) (M:MeshOK P.length (oP P) T S):FnC Tryz.prog 110 [SP.mesh P T S,iv a,iv b] (bv (mayB P T S a b)):=by
 refine FnC.of (N:=55) Tryz.func110 rfl rfl (Nat.le_of_ble_eq_true rfl) (fun w0 ok0=>?_)
 refine Tr.rs [] (.k (bxx .k (.b 0 rfl)) (.k (asg .k .c) .n)) [1,2] [0] rfl rfl ?_
 rcases and_ways3 (both T a b) (¬ hasP S a b) (¬ joinP T (acC T a b) (acD T a b)) with c1|⟨c1,c2⟩|⟨c1,c2,c3⟩|⟨c1,c2,c3⟩
 ·
  rw [show mayB P T S a b=false from may_no (fun h=>c1 h.1.1)]
  refine Tr.rs [] (.k (ld .k (.b 2 rfl) tyM) (.k (mv .k (.b 0 rfl)) (.k (mv .k (.b 1 rfl)) (.k (cal .k Tryz.func111 rfl (fn_AcrossF hP hT hS M c1) (.k (.g 0 rfl) (.k (.g 1 rfl) (.k (.g 2 rfl) .n)))) (.k (mv .k (.g 3 rfl)) (.k (exx .k (.g 4 rfl) rfl) (.k (exx .k (.g 4 rfl) rfl) (.k (exx .k (.g 4 rfl) rfl) (.k (asg .k (.g 5 rfl)) (.k (asg .k (.g 6 rfl)) (.k (asg .k (.g 7 rfl)) .n))))))))))) [0,1,2] [8,9,10] rfl rfl ?_
  refine Tr.seq (Tr.rs [] (.k (mv .k (.b 5 rfl)) (.k (not_ .k (.g 0 rfl)) (.k (mv .k (.g 1 rfl)) (.k (skp (.o 2 rfl rfl rfl)) (.k (skp (.o 2 rfl rfl rfl)) (.k (skp (.o 2 rfl rfl rfl)) (.k (skp (.o 2 rfl rfl rfl)) (.k (skp (.o 2 rfl rfl rfl)) (.k (pickT .k (.g 2 rfl) .c) (.k (mv .k (.g 8 rfl)) (.k (skp (.o 9 rfl rfl rfl)) (.k (skp (.o 9 rfl rfl rfl)) (.k (skp (.o 9 rfl rfl rfl)) (.k (skp (.o 9 rfl rfl rfl)) (.k (pickT .k (.g 9 rfl) .c) .n))))))))))))))) [0,1,2,3,4] [14] rfl rfl ?_)
  refine Tr.cond 5 rfl (fun _=>?_) nofun
  refine Tr.rs [] (.k (asg .k .c) .n) [] [0] rfl rfl ?_
  refine Tr.ret (end_tmp 0 rfl rfl)
 ·
  rw [show mayB P T S a b=false from may_no (fun h=>h.1.2.1 (Classical.not_not.1 c2))]
  refine Tr.rs [] (.k (ld .k (.b 2 rfl) tyM) (.k (mv .k (.b 0 rfl)) (.k (mv .k (.b 1 rfl)) (.k (cal .k Tryz.func111 rfl (fn_AcrossT hP hT hS M c1) (.k (.g 0 rfl) (.k (.g 1 rfl) (.k (.g 2 rfl) .n)))) (.k (mv .k (.g 3 rfl)) (.k (exx .k (.g 4 rfl) rfl) (.k (exx .k (.g 4 rfl) rfl) (.k (exx .k (.g 4 rfl) rfl) (.k (asg .k (.g 5 rfl)) (.k (asg .k (.g 6 rfl)) (.k (asg .k (.g 7 rfl)) .n))))))))))) [0,1,2] [8,9,10] rfl rfl ?_
  refine Tr.seq (Tr.rs [] (.k (mv .k (.b 5 rfl)) (.k (not_ .k (.g 0 rfl)) (.k (mv .k (.g 1 rfl)) (.k (faddr (.o 2 rfl rfl rfl) (.b 2 rfl) rfl fMS) (.k (ldc (.o 2 rfl rfl rfl) (.g 3 rfl) (.b 2 rfl) tyvS) (.k (mv (.o 2 rfl rfl rfl) (.b 0 rfl)) (.k (mv (.o 2 rfl rfl rfl) (.b 1 rfl)) (.k (cal (.o 2 rfl rfl rfl) Tryz.func53 rfl (fn_HasT hS (Classical.not_not.1 c2)) (.k (.g 4 rfl) (.k (.g 5 rfl) (.k (.g 6 rfl) .n)))) (.k (pickF .k (.g 2 rfl) (.g 7 rfl)) (.k (mv .k (.g 8 rfl)) (.k (skp (.o 9 rfl rfl rfl)) (.k (skp (.o 9 rfl rfl rfl)) (.k (skp (.o 9 rfl rfl rfl)) (.k (skp (.o 9 rfl rfl rfl)) (.k (pickT .k (.g 9 rfl) .c) .n))))))))))))))) [0,1,2,3,4] [14] rfl rfl ?_)
  refine Tr.cond 5 rfl (fun _=>?_) nofun
  refine Tr.rs [] (.k (asg .k .c) .n) [] [0] rfl rfl ?_
  refine Tr.ret (end_tmp 0 rfl rfl)
 ·
  rw [show mayB P T S a b=false from may_no (fun h=>h.1.2.2 (Classical.not_not.1 c3))]
  refine Tr.rs [] (.k (ld .k (.b 2 rfl) tyM) (.k (mv .k (.b 0 rfl)) (.k (mv .k (.b 1 rfl)) (.k (cal .k Tryz.func111 rfl (fn_AcrossT hP hT hS M c1) (.k (.g 0 rfl) (.k (.g 1 rfl) (.k (.g 2 rfl) .n)))) (.k (mv .k (.g 3 rfl)) (.k (exx .k (.g 4 rfl) rfl) (.k (exx .k (.g 4 rfl) rfl) (.k (exx .k (.g 4 rfl) rfl) (.k (asg .k (.g 5 rfl)) (.k (asg .k (.g 6 rfl)) (.k (asg .k (.g 7 rfl)) .n))))))))))) [0,1,2] [8,9,10] rfl rfl ?_
  refine Tr.seq (Tr.rs [] (.k (mv .k (.b 5 rfl)) (.k (not_ .k (.g 0 rfl)) (.k (mv .k (.g 1 rfl)) (.k (faddr (.o 2 rfl rfl rfl) (.b 2 rfl) rfl fMS) (.k (ldc (.o 2 rfl rfl rfl) (.g 3 rfl) (.b 2 rfl) tyvS) (.k (mv (.o 2 rfl rfl rfl) (.b 0 rfl)) (.k (mv (.o 2 rfl rfl rfl) (.b 1 rfl)) (.k (cal (.o 2 rfl rfl rfl) Tryz.func53 rfl (fn_HasF hS c2) (.k (.g 4 rfl) (.k (.g 5 rfl) (.k (.g 6 rfl) .n)))) (.k (pickF .k (.g 2 rfl) (.g 7 rfl)) (.k (mv .k (.g 8 rfl)) (.k (ld (.o 9 rfl rfl rfl) (.b 2 rfl) tyM) (.k (mv (.o 9 rfl rfl rfl) (.b 3 rfl)) (.k (mv (.o 9 rfl rfl rfl) (.b 4 rfl)) (.k (cal (.o 9 rfl rfl rfl) Tryz.func135 rfl (fn_joinT hT (Classical.not_not.1 c3)) (.k (.g 10 rfl) (.k (.g 11 rfl) (.k (.g 12 rfl) .n)))) (.k (pickF .k (.g 9 rfl) (.g 13 rfl)) .n))))))))))))))) [0,1,2,3,4] [14] rfl rfl ?_)
  refine Tr.cond 5 rfl (fun _=>?_) nofun
  refine Tr.rs [] (.k (asg .k .c) .n) [] [0] rfl rfl ?_
  refine Tr.ret (end_tmp 0 rfl rfl)
 ·
  obtain ⟨hC,hD,hA,hB⟩:=ac_in M c1
  obtain ⟨ua,pa,ea,ha⟩:=id hA
  obtain ⟨ub,pb,eb,hb⟩:=id hB
  obtain ⟨uc,pc_,ec,hc⟩:=id hC
  obtain ⟨ud,pd,ed,hd⟩:=id hD
  rw [may_eq ⟨c1,c2,c3⟩ (conv4 (at_of ea ha) (at_of eb hb) (at_of ec hc) (at_of ed hd))]
  refine Tr.rs [] (.k (ld .k (.b 2 rfl) tyM) (.k (mv .k (.b 0 rfl)) (.k (mv .k (.b 1 rfl)) (.k (cal .k Tryz.func111 rfl (fn_AcrossT hP hT hS M c1) (.k (.g 0 rfl) (.k (.g 1 rfl) (.k (.g 2 rfl) .n)))) (.k (mv .k (.g 3 rfl)) (.k (exx .k (.g 4 rfl) rfl) (.k (exx .k (.g 4 rfl) rfl) (.k (exx .k (.g 4 rfl) rfl) (.k (asg .k (.g 5 rfl)) (.k (asg .k (.g 6 rfl)) (.k (asg .k (.g 7 rfl)) .n))))))))))) [0,1,2] [8,9,10] rfl rfl ?_
  refine Tr.seq (Tr.rs [] (.k (mv .k (.b 5 rfl)) (.k (not_ .k (.g 0 rfl)) (.k (mv .k (.g 1 rfl)) (.k (faddr (.o 2 rfl rfl rfl) (.b 2 rfl) rfl fMS) (.k (ldc (.o 2 rfl rfl rfl) (.g 3 rfl) (.b 2 rfl) tyvS) (.k (mv (.o 2 rfl rfl rfl) (.b 0 rfl)) (.k (mv (.o 2 rfl rfl rfl) (.b 1 rfl)) (.k (cal (.o 2 rfl rfl rfl) Tryz.func53 rfl (fn_HasF hS c2) (.k (.g 4 rfl) (.k (.g 5 rfl) (.k (.g 6 rfl) .n)))) (.k (pickF .k (.g 2 rfl) (.g 7 rfl)) (.k (mv .k (.g 8 rfl)) (.k (ld (.o 9 rfl rfl rfl) (.b 2 rfl) tyM) (.k (mv (.o 9 rfl rfl rfl) (.b 3 rfl)) (.k (mv (.o 9 rfl rfl rfl) (.b 4 rfl)) (.k (cal (.o 9 rfl rfl rfl) Tryz.func135 rfl (fn_joinF hT c3) (.k (.g 10 rfl) (.k (.g 11 rfl) (.k (.g 12 rfl) .n)))) (.k (pickF .k (.g 9 rfl) (.g 13 rfl)) .n))))))))))))))) [0,1,2,3,4] [14] rfl rfl ?_)
  refine Tr.cond 5 rfl nofun (fun _=>?_)
  refine Tr.skip (Nx.go (Tr.ds hmx [] (.k (faddr .k (.b 2 rfl) rfl fMP) (.k (ldc .k (.g 0 rfl) (.b 2 rfl) tyvP) (.k (mv .k (.b 0 rfl)) (.k (idx_ .k rwP (.g 1 rfl) (.g 2 rfl) ea (gm ha)) (.k (ld_at .k (.g 3 rfl) tyP rfl (show _=ptv _ _ from rfl)) (.k (faddr .k (.b 2 rfl) rfl fMP) (.k (ldc .k (.g 5 rfl) (.b 2 rfl) tyvP) (.k (mv .k (.b 4 rfl)) (.k (idx_ .k rwP (.g 6 rfl) (.g 7 rfl) ed (gm hd)) (.k (ld_at .k (.g 8 rfl) tyP rfl (show _=ptv _ _ from rfl)) (.k (faddr .k (.b 2 rfl) rfl fMP) (.k (ldc .k (.g 10 rfl) (.b 2 rfl) tyvP) (.k (mv .k (.b 1 rfl)) (.k (idx_ .k rwP (.g 11 rfl) (.g 12 rfl) eb (gm hb)) (.k (ld_at .k (.g 13 rfl) tyP rfl (show _=ptv _ _ from rfl)) (.k (faddr .k (.b 2 rfl) rfl fMP) (.k (ldc .k (.g 15 rfl) (.b 2 rfl) tyvP) (.k (mv .k (.b 3 rfl)) (.k (idx_ .k rwP (.g 16 rfl) (.g 17 rfl) ec (gm hc)) (.k (ld_at .k (.g 18 rfl) tyP rfl (show _=ptv _ _ from rfl)) (.k (mkrow .k rwP (.k (.g 4 rfl) (.k (.g 9 rfl) (.k (.g 14 rfl) (.k (.g 19 rfl) .n)))) rfl rfl (by kernel_rfl)) (.k (cal .k Tryz.func137 rfl (show FnC _ _ [.vec 2 [pc (pa.1,pa.2),pc (pd.1,pd.2),pc (pb.1,pb.2),pc (pc_.1,pc_.2)]] _ from fn_rConvex [pa,pd,pb,pc_] (by simp)) (.k (.g 20 rfl) .n)) (.k (asg .k (.g 21 rfl)) .n))))))))))))))))))))))) [] [22] rfl rfl ?_))
  refine Tr.ret (end_tmp 0 rfl rfl)
theorem fn_FlipT {P:List (Int × Int)} {T:List (Int × Int × Int)} {S:List (Int × Int)} {a b:Int} (hP:P.length≤1000000) (hT:T.length≤1000000) (hT9:T.length≤900000) (hS:S.length≤1000000) (M:MeshOK P.length (oP P) T S) (hm:mayP P T S a b):FnC Tryz.prog 82 [SP.mesh P T S,iv a,iv b] (.tup [SP.mesh P (flipT P.length (oP P) T a b) S,iv 0]):=by
 refine FnC.of (N:=102) Tryz.func82 rfl rfl (Nat.le_of_ble_eq_true rfl) (fun w0 ok0=>?_)
 refine Tr.rs [] (.k (bxx .k (.b 0 rfl)) (.k (alc .k zM) (.k (asg .k .c) .n))) [1,2] [0,1] rfl rfl ?_
 obtain ⟨hb,_,_⟩:=id hm.1
 have hl1:=first_bd (leftB T (a,b)) T.length 0
 have hl2:=first_bd (leftB T (b,a)) T.length 0
 refine Tr.rs [] (.k (ld .k (.b 2 rfl) tyM) (.k (cal .k Tryz.func25 rfl (show FnC _ _ _ (iv 0) from chk_ok M ▸ fn_rCheck hP hT hS) (.k (.g 0 rfl) .n)) (.k (asg .k (.g 1 rfl)) .n))) [0,1,2,3] [2] rfl rfl ?_
 refine Tr.seq (Tr.rs [] (.k (mv .k (.b 4 rfl)) (.k (ne_ .k (.g 0 rfl) .c (bne_eq_false_iff_eq.2 rfl)) .n)) [0,1,2,3] [1] rfl rfl ?_)
 refine Tr.cond 4 rfl nofun (fun _=>?_)
 refine Tr.skip (Nx.go (Tr.seq (Tr.rs [] (.k (ld .k (.b 2 rfl) tyM) (.k (mv .k (.b 0 rfl)) (.k (mv .k (.b 1 rfl)) (.k (cal .k Tryz.func110 rfl (show FnC _ _ _ (bv true) from may_so hm ▸ fn_May hP hT hS M) (.k (.g 0 rfl) (.k (.g 1 rfl) (.k (.g 2 rfl) .n)))) (.k (not_ .k (.g 3 rfl)) .n))))) [0,1,2,3] [4] rfl rfl ?_)))
 refine Tr.cond 4 rfl nofun (fun _=>?_)
 refine Tr.skip (Nx.go (Tr.rs [] (.k (ld .k (.b 2 rfl) tyM) (.k (mv .k (.b 0 rfl)) (.k (mv .k (.b 1 rfl)) (.k (cal .k Tryz.func111 rfl (fn_AcrossT hP hT hS M hb) (.k (.g 0 rfl) (.k (.g 1 rfl) (.k (.g 2 rfl) .n)))) (.k (mv .k (.g 3 rfl)) (.k (exx .k (.g 4 rfl) rfl) (.k (exx .k (.g 4 rfl) rfl) (.k (exx .k (.g 4 rfl) rfl) (.k (asg .k (.g 5 rfl)) (.k (asg .k (.g 6 rfl)) (.k (asg .k (.g 7 rfl)) .n))))))))))) [0,1,2,3] [8,9] rfl rfl ?_))
 refine Tr.rs [] (.k (faddr .k (.b 2 rfl) rfl fMT) (.k (ldc .k (.g 0 rfl) (.b 2 rfl) tyvT) (.k (mv .k (.b 0 rfl)) (.k (mv .k (.b 1 rfl)) (.k (cal .k Tryz.func48 rfl (fn_Left hT) (.k (.g 1 rfl) (.k (.g 2 rfl) (.k (.g 3 rfl) .n)))) (.k (asg .k (.g 4 rfl)) .n)))))) [0,1,2,3,4,5] [5] rfl rfl ?_
 refine Tr.rs [] (.k (faddr .k (.b 2 rfl) rfl fMT) (.k (ldc .k (.g 0 rfl) (.b 2 rfl) tyvT) (.k (mv .k (.b 1 rfl)) (.k (mv .k (.b 0 rfl)) (.k (cal .k Tryz.func48 rfl (fn_Left hT) (.k (.g 1 rfl) (.k (.g 2 rfl) (.k (.g 3 rfl) .n)))) (.k (asg .k (.g 4 rfl)) .n)))))) [0,1,2,3,4,5,6] [5] rfl rfl ?_
 refine Tr.rs [] (.k (oini (sz:=3) (E:=55) .k (.inl rfl)) .n) [0,1,2,3,4,5,6,7] [0] rfl rfl ?_
 refine Tr.seq (Tr.rs [] (.k (asg .k .c) .n) [0,1,2,3,4,5,6,7,8] [0] rfl rfl ?_)
 refine Tr.block (?_)
 refine Tr.loop (fun n_ F_=>∃ j:Nat,(j≤T.length)∧n_=T.length - j∧F_=[.b 3 (SP.mesh P T S) 26 3,.b 6 (.is (.agg #[.slice none 0 0,.slice none 0 0,.slice none 0 0])) 26 3,.s 1 (iv a),.s 2 (iv b),.s 9 (iv (acC T a b)),.s 10 (iv (acD T a b)),.s 12 (iv (leftR T a b)),.s 13 (iv (leftR T b a)),.o 14 3 55 ((rmvTo T (leftR T a b).toNat (leftR T b a).toNat j).map trc),.s 15 (iv ((j:Nat):Int))]) (T.length - 0) (F0:=[.b 3 (SP.mesh P T S) 26 3,.b 6 (.is (.agg #[.slice none 0 0,.slice none 0 0,.slice none 0 0])) 26 3,.s 1 (iv a),.s 2 (iv b),.s 9 (iv (acC T a b)),.s 10 (iv (acD T a b)),.s 12 (iv (leftR T a b)),.s 13 (iv (leftR T b a)),.o 14 3 55 ((rmvTo T (leftR T a b).toNat (leftR T b a).toNat 0).map trc),.s 15 (iv ((0:Nat):Int))]) ⟨0,Nat.zero_le _,rfl,rfl⟩ (Sub.all (.cons 2 rfl (.cons 3 rfl (.cons 0 rfl (.cons 1 rfl (.cons 4 rfl (.cons 5 rfl (.cons 6 rfl (.cons 7 rfl (.cons 8 rfl (.cons 9 rfl .nil))))))))))) (fun n_ F_ hI=>?_)
 obtain ⟨j,hinv,rfl,rfl⟩:=hI
 refine Tr.seq (Tr.rs [] (.k (mv .k (.b 9 rfl)) (.k (faddr .k (.b 0 rfl) rfl fMT) (.k (ldc .k (.g 1 rfl) (.b 0 rfl) tyvT) (.k (len_ .k rwT (.g 2 rfl) (by rw [List.length_map])) (.k (lt_ .k (.g 0 rfl) (.g 3 rfl) rfl) .n))))) [0,1,2,3,4,5,6,7,8,9] [4] rfl rfl ?_)
 refine Tr.cond 10 rfl (fun e54=>?_) (fun e54=>?_)
 ·
  have hj2:j < T.length:=by have:=of_decide_eq_true e54;omega
  refine Tr.skip (Nx.go (Tr.seq (Tr.block (?_))))
  obtain ⟨x,p1⟩:∃ s,T[j]?=some s:=⟨_,List.getElem?_eq_getElem hj2⟩;have n1:0≤leftR T a b:=hb.1;have n2:0≤leftR T b a:=hb.2;rcases and_ways2 (((j:Nat):Int)≠leftR T a b) (((j:Nat):Int)≠leftR T b a) with c1|⟨c1,c2⟩|⟨c1,c2⟩
  ·
   have hrs:=rmv_skip (l:=T) (i:=(leftR T a b).toNat) (k:=(leftR T b a).toNat) (j:=j) (.inl (by omega))
   refine Tr.rs [] (.k (mv .k (.b 9 rfl)) (.k (mv .k (.b 6 rfl)) (.k (ne_ .k (.g 0 rfl) (.g 1 rfl) (bne_eq_false_iff_eq.2 (Classical.not_not.1 c1))) (.k (mv .k (.g 2 rfl)) (.k (skp (.o 3 rfl rfl rfl)) (.k (skp (.o 3 rfl rfl rfl)) (.k (skp (.o 3 rfl rfl rfl)) (.k (pickF .k (.g 3 rfl) .c) .n)))))))) [0,1,2,3,4,5,6,7,8,9] [7] rfl rfl ?_
   refine Tr.cond 10 rfl nofun (fun _=>?_)
   refine Tr.skip (Nx.bkN (Nx.go (?_)))
   rw [← hrs]
   refine Tr.reg [(9,2)] (.k (mv .k (.b 9 rfl)) (.k (add_ .k (.g 0 rfl) .c (wr1 (by omega))) (.k (asg .k (.g 1 rfl)) .n))) [0,1,2,3,4,5,6,7,8] [2] rfl rfl (Nx.again (T.length - (j+1)) (by omega) [.b 3 (SP.mesh P T S) 26 3,.b 6 (.is (.agg #[.slice none 0 0,.slice none 0 0,.slice none 0 0])) 26 3,.s 1 (iv a),.s 2 (iv b),.s 9 (iv (acC T a b)),.s 10 (iv (acD T a b)),.s 12 (iv (leftR T a b)),.s 13 (iv (leftR T b a)),.o 14 3 55 ((rmvTo T (leftR T a b).toNat (leftR T b a).toNat (j+1)).map trc),.s 15 (iv (((j+1):Nat):Int))] ⟨(j+1),(by omega),rfl,rfl⟩ (Sub.all (.cons 0 rfl (.cons 1 rfl (.cons 2 rfl (.cons 3 rfl (.cons 4 rfl (.cons 5 rfl (.cons 6 rfl (.cons 7 rfl (.cons 8 rfl (.cons 9 rfl .nil))))))))))))
  ·
   have hrs:=rmv_skip (l:=T) (i:=(leftR T a b).toNat) (k:=(leftR T b a).toNat) (j:=j) (.inr (by omega))
   refine Tr.rs [] (.k (mv .k (.b 9 rfl)) (.k (mv .k (.b 6 rfl)) (.k (ne_ .k (.g 0 rfl) (.g 1 rfl) (bne_iff_ne.2 c1)) (.k (mv .k (.g 2 rfl)) (.k (mv (.o 3 rfl rfl rfl) (.b 9 rfl)) (.k (mv (.o 3 rfl rfl rfl) (.b 7 rfl)) (.k (ne_ (.o 3 rfl rfl rfl) (.g 4 rfl) (.g 5 rfl) (bne_eq_false_iff_eq.2 (Classical.not_not.1 c2))) (.k (pickT .k (.g 3 rfl) (.g 6 rfl)) .n)))))))) [0,1,2,3,4,5,6,7,8,9] [7] rfl rfl ?_
   refine Tr.cond 10 rfl nofun (fun _=>?_)
   refine Tr.skip (Nx.bkN (Nx.go (?_)))
   rw [← hrs]
   refine Tr.reg [(9,2)] (.k (mv .k (.b 9 rfl)) (.k (add_ .k (.g 0 rfl) .c (wr1 (by omega))) (.k (asg .k (.g 1 rfl)) .n))) [0,1,2,3,4,5,6,7,8] [2] rfl rfl (Nx.again (T.length - (j+1)) (by omega) [.b 3 (SP.mesh P T S) 26 3,.b 6 (.is (.agg #[.slice none 0 0,.slice none 0 0,.slice none 0 0])) 26 3,.s 1 (iv a),.s 2 (iv b),.s 9 (iv (acC T a b)),.s 10 (iv (acD T a b)),.s 12 (iv (leftR T a b)),.s 13 (iv (leftR T b a)),.o 14 3 55 ((rmvTo T (leftR T a b).toNat (leftR T b a).toNat (j+1)).map trc),.s 15 (iv (((j+1):Nat):Int))] ⟨(j+1),(by omega),rfl,rfl⟩ (Sub.all (.cons 0 rfl (.cons 1 rfl (.cons 2 rfl (.cons 3 rfl (.cons 4 rfl (.cons 5 rfl (.cons 6 rfl (.cons 7 rfl (.cons 8 rfl (.cons 9 rfl .nil))))))))))))
  ·
   have hrl:=(rmv_sub T (leftR T a b).toNat (leftR T b a).toNat j (by omega)).length_le;rw [List.length_take] at hrl
   refine Tr.rs [] (.k (mv .k (.b 9 rfl)) (.k (mv .k (.b 6 rfl)) (.k (ne_ .k (.g 0 rfl) (.g 1 rfl) (bne_iff_ne.2 c1)) (.k (mv .k (.g 2 rfl)) (.k (mv (.o 3 rfl rfl rfl) (.b 9 rfl)) (.k (mv (.o 3 rfl rfl rfl) (.b 7 rfl)) (.k (ne_ (.o 3 rfl rfl rfl) (.g 4 rfl) (.g 5 rfl) (bne_iff_ne.2 c2)) (.k (pickT .k (.g 3 rfl) (.g 6 rfl)) .n)))))))) [0,1,2,3,4,5,6,7,8,9] [7] rfl rfl ?_
   refine Tr.cond 10 rfl (fun _=>?_) nofun
   refine Tr.reg [(8,0),(1000,7),(1007,8)] (.k (omv .k (.inr rfl) (.b 8 rfl)) (.k (faddr .k (.b 0 rfl) rfl fMT) (.k (ldc .k (.g 1 rfl) (.b 0 rfl) tyvT) (.k (mv .k (.b 9 rfl)) (.k (idx_ .k rwT (.g 2 rfl) (.g 3 rfl) rfl (gm p1)) (.k (ld_at .k (.g 4 rfl) tyT rfl (show _=trv (_,_,_) from rfl)) (.k (mkrow .k rwT (.k (.g 5 rfl) .n) rfl rfl (by kernel_rfl)) (.k (oapp_ .k apT (.g 0 rfl) (.g 6 rfl) (by decide) ⟨(show _=(rmvTo T (leftR T a b).toNat (leftR T b a).toNat (j+1)).map trc by rw [rmv_succ p1 (by omega),List.map_append];rfl),⟨rfl,rfl⟩,by rw [List.length_map];omega⟩) (.k (omv .k (.inl rfl) (.g 7 rfl)) .n))))))))) [0,1,2,3,4,5,6,7,9] [8] rfl rfl (Nx.bkN (Nx.go (Tr.reg [(8,2)] (.k (mv .k (.b 8 rfl)) (.k (add_ .k (.g 0 rfl) .c (wr1 (by omega))) (.k (asg .k (.g 1 rfl)) .n))) [0,1,2,3,4,5,6,7,9] [2] rfl rfl (Nx.again (T.length - (j+1)) (by omega) [.b 3 (SP.mesh P T S) 26 3,.b 6 (.is (.agg #[.slice none 0 0,.slice none 0 0,.slice none 0 0])) 26 3,.s 1 (iv a),.s 2 (iv b),.s 9 (iv (acC T a b)),.s 10 (iv (acD T a b)),.s 12 (iv (leftR T a b)),.s 13 (iv (leftR T b a)),.o 14 3 55 ((rmvTo T (leftR T a b).toNat (leftR T b a).toNat (j+1)).map trc),.s 15 (iv (((j+1):Nat):Int))] ⟨(j+1),(by omega),rfl,rfl⟩ (Sub.all (.cons 0 rfl (.cons 1 rfl (.cons 2 rfl (.cons 3 rfl (.cons 4 rfl (.cons 5 rfl (.cons 6 rfl (.cons 7 rfl (.cons 8 rfl (.cons 9 rfl .nil)))))))))))))))
 ·
  obtain rfl:j=T.length:=by have:=of_decide_eq_false e54;omega
  refine Tr.exit (Nx.thX (Nx.thX (Nx.bkX (Nx.go (Tr.rs [] (.k (faddr .k (.b 0 rfl) rfl fMP) (.k (ldc .k (.g 0 rfl) (.b 0 rfl) tyvP) (.k (mv .k (.b 2 rfl)) (.k (mv .k (.b 5 rfl)) (.k (mv .k (.b 4 rfl)) (.k (cal .k Tryz.func50 rfl (fn_rTri hP) (.k (.g 1 rfl) (.k (.g 2 rfl) (.k (.g 3 rfl) (.k (.g 4 rfl) .n))))) (.k (mv .k (.g 5 rfl)) (.k (exx .k (.g 6 rfl) rfl) (.k (exx .k (.g 6 rfl) rfl) (.k (ala .k zT) (.k (sta .k (.g 9 rfl) (.g 7 rfl) tyT) (.k (asg .k (.g 8 rfl)) .n)))))))))))) [0,1,3,4,5,8] [10] rfl rfl ?_)))))
  refine Tr.rs [] (.k (faddr .k (.b 0 rfl) rfl fMP) (.k (ldc .k (.g 0 rfl) (.b 0 rfl) tyvP) (.k (mv .k (.b 2 rfl)) (.k (mv .k (.b 3 rfl)) (.k (mv .k (.b 4 rfl)) (.k (cal .k Tryz.func50 rfl (fn_rTri hP) (.k (.g 1 rfl) (.k (.g 2 rfl) (.k (.g 3 rfl) (.k (.g 4 rfl) .n))))) (.k (mv .k (.g 5 rfl)) (.k (exx .k (.g 6 rfl) rfl) (.k (exx .k (.g 6 rfl) rfl) (.k (ala .k zT) (.k (sta .k (.g 9 rfl) (.g 7 rfl) tyT) (.k (asg .k (.g 8 rfl)) .n)))))))))))) [0,1,5,6] [10] rfl rfl ?_
  have hrl:=(rmv_sub T (leftR T a b).toNat (leftR T b a).toNat T.length (Nat.le_refl _)).length_le;rw [List.take_length] at hrl
  have hpl:=put_len (rmvTo T (leftR T a b).toNat (leftR T b a).toNat T.length) (triR P.length (oP P) a (acD T a b) (acC T a b)).1
  refine Tr.rs [(2,0)] (.k (frz .k (.inr rfl) (.b 2 rfl)) (.k (ld .k (.b 3 rfl) tyT) (.k (cal .k Tryz.func80 rfl (fn_Put (by omega)) (.k (.g 0 rfl) (.k (.g 1 rfl) .n))) (.k (asg .k (.g 2 rfl)) .n)))) [0,1,4] [3] rfl rfl ?_
  refine Tr.rs [(3,3)] (.k (mv .k (.b 3 rfl)) (.k (ld .k (.b 2 rfl) tyT) (.k (cal .k Tryz.func80 rfl (show FnC _ _ _ (tvec (flipT P.length (oP P) T a b)) from fn_Put (by omega)) (.k (.g 0 rfl) (.k (.g 1 rfl) .n))) (.k (asg .k (.g 2 rfl)) .n)))) [0,1] [3] rfl rfl ?_
  refine Tr.gos (Go.k (ld .k (.b 0 rfl) tyM) [1,2] rfl rfl (Go.k (cal .k Tryz.func8 rfl (fn_Copy hP hT hS) (.k (.b 0 rfl) .n)) [1,2] rfl rfl (Go.openM 0 rfl fun o1=>(Go.k (alc .k zM) [0,1,2,3,4,5,6] rfl rfl (Go.k (sto .k (.b 0 rfl) (.b 1 rfl) tyM) [2,3,4,6,7] rfl rfl (Go.end_ (Nx.go (?_))))))))
  refine Tr.boxh [.slice o1.1 (P.map pc).length o1.2.1,.slice o1.2.2.1 (T.map trc).length o1.2.2.2.1,.slice o1.2.2.2.2.1 (S.map sgc).length o1.2.2.2.2.2] 1 0 [1,2,3,4,5] rfl rfl rfl (fun g1=>?_)
  refine Tr.gos (Go.k (mv .k (.b 6 rfl)) [0,1,2,3,4,5] rfl rfl (Go.name 0 rfl fun A5 c5=>(Go.k (fadh .k (.b 3 rfl) fMT) [0,1,2,3,4,5,6,7,8] rfl rfl (Go.k (sth1 .k (.b 0 rfl) (.b 5 rfl) (.b 1 rfl) szvT rfl (show 1 < 3 by decide) rfl rfl) [2,4,6,7,8,9] rfl rfl (Go.end_ (Nx.go (?_)))))))
  refine Tr.gos (Go.k (ldna .k (.b 2 rfl) (.b 0 rfl) tyM [.slice o1.1 (P.map pc).length o1.2.1,.slice A5 ((flipT P.length (oP P) T a b).map trc).length c5,.slice o1.2.2.2.2.1 (S.map sgc).length o1.2.2.2.2.2] rfl (fun j u h=>by rw [Nat.zero_add];exact h) rfl) [0,1,3,4,5,6] rfl rfl (Go.mesh 0 3 2 5 rfl rfl rfl rfl (Go.k (sto .k (.b 7 rfl) (.b 0 rfl) tyM) [2,3,4,5,6] rfl rfl (Go.k (asg .k .c) [0,1,2,3,4,5] rfl rfl (Go.end_ (Nx.go (?_)))))))
  refine Tr.ret (end_cell_tmp 1 0 rfl rfl rfl tyM)
theorem fn_FlipF {P:List (Int × Int)} {T:List (Int × Int × Int)} {S:List (Int × Int)} {a b:Int} (hP:P.length≤1000000) (hT:T.length≤1000000) (hS:S.length≤1000000) (M:MeshOK P.length (oP P) T S) (hm:¬ mayP P T S a b):FnC Tryz.prog 82 [SP.mesh P T S,iv a,iv b] (.tup [.is (.agg #[.slice none 0 0,.slice none 0 0,.slice none 0 0]),iv 130]):=by
 refine FnC.of (N:=102) Tryz.func82 rfl rfl (Nat.le_of_ble_eq_true rfl) (fun w0 ok0=>?_)
 refine Tr.rs [] (.k (bxx .k (.b 0 rfl)) (.k (alc .k zM) (.k (asg .k .c) .n))) [1,2] [0,1] rfl rfl ?_
 refine Tr.rs [] (.k (ld .k (.b 2 rfl) tyM) (.k (cal .k Tryz.func25 rfl (show FnC _ _ _ (iv 0) from chk_ok M ▸ fn_rCheck hP hT hS) (.k (.g 0 rfl) .n)) (.k (asg .k (.g 1 rfl)) .n))) [0,1,2,3] [2] rfl rfl ?_
 refine Tr.seq (Tr.rs [] (.k (mv .k (.b 4 rfl)) (.k (ne_ .k (.g 0 rfl) .c (bne_eq_false_iff_eq.2 rfl)) .n)) [0,1,2,3] [1] rfl rfl ?_)
 refine Tr.cond 4 rfl nofun (fun _=>?_)
 refine Tr.skip (Nx.go (Tr.seq (Tr.rs [] (.k (ld .k (.b 2 rfl) tyM) (.k (mv .k (.b 0 rfl)) (.k (mv .k (.b 1 rfl)) (.k (cal .k Tryz.func110 rfl (show FnC _ _ _ (bv false) from may_no hm ▸ fn_May hP hT hS M) (.k (.g 0 rfl) (.k (.g 1 rfl) (.k (.g 2 rfl) .n)))) (.k (not_ .k (.g 3 rfl)) .n))))) [0,1,2,3] [4] rfl rfl ?_)))
 refine Tr.cond 4 rfl (fun _=>?_) nofun
 refine Tr.rs [(3,1)] (.k (bld .k .n bM0 rfl) (.k (sto .k (.b 3 rfl) (.g 0 rfl) tyM) (.k (asg .k .c) .n))) [] [1,2] rfl rfl ?_
 refine Tr.ret (end_cell_tmp 0 1 rfl rfl rfl tyM)
theorem fn_Next {P:List (Int × Int)} {T:List (Int × Int × Int)} {S:List (Int × Int)} (hP:P.length≤1000000) (hT:T.length≤1000000) (hS:S.length≤1000000):FnC Tryz.prog 81 [SP.mesh P T S] (.tup [.is (sgv (nxtS P T S)),bv (nxtB P T S)]):=by
 refine FnC.of (N:=53) Tryz.func81 rfl rfl (Nat.le_of_ble_eq_true rfl) (fun w0 ok0=>?_)
 refine Tr.rs [] (.k (bxx .k (.b 0 rfl)) (.k (alc .k zS) (.k (asg .k .c) .n))) [] [0,1] rfl rfl ?_
 by_cases M:MeshOK P.length (oP P) T S
 ·
  refine Tr.rs [] (.k (ld .k (.b 0 rfl) tyM) (.k (cal .k Tryz.func25 rfl (show FnC _ _ _ (iv 0) from chk_ok M ▸ fn_rCheck hP hT hS) (.k (.g 0 rfl) .n)) (.k (asg .k (.g 1 rfl)) .n))) [0,1] [2] rfl rfl ?_
  refine Tr.seq (Tr.rs [] (.k (asg .k .c) .n) [0,1,2] [0] rfl rfl ?_)
  refine Tr.block (?_)
  refine Tr.loop (fun n_ F_=>∃ i:Nat,(i≤P.length∧∀ j,j < i→∀ m,¬ hitN P T S j m)∧n_=P.length - i∧F_=[.b 1 (SP.mesh P T S) 26 3,.b 2 (.is (sgv (0,0))) 28 2,.s 4 (iv 0),.s 5 (iv ((i:Nat):Int))]) (P.length - 0) (F0:=[.b 1 (SP.mesh P T S) 26 3,.b 2 (.is (sgv (0,0))) 28 2,.s 4 (iv 0),.s 5 (iv ((0:Nat):Int))]) ⟨0,⟨Nat.zero_le _,fun j h=>absurd h (Nat.not_lt_zero _)⟩,rfl,rfl⟩ (Sub.all (.cons 0 rfl (.cons 1 rfl (.cons 2 rfl (.cons 3 rfl .nil))))) (fun n_ F_ hI=>?_)
  obtain ⟨i,ho,rfl,rfl⟩:=hI
  by_cases hi2:i < P.length
  ·
   refine Tr.seq (Tr.rs [] (.k (mv .k (.b 3 rfl)) (.k (faddr .k (.b 0 rfl) rfl fMP) (.k (ldc .k (.g 1 rfl) (.b 0 rfl) tyvP) (.k (len_ .k rwP (.g 2 rfl) (by rw [List.length_map])) (.k (lt_ .k (.g 0 rfl) (.g 3 rfl) (dT (by omega))) (.k (mv .k (.g 4 rfl)) (.k (mv (.o 5 rfl rfl rfl) (.b 2 rfl)) (.k (eq_ (.o 5 rfl rfl rfl) (.g 6 rfl) .c (beq_iff_eq.2 rfl)) (.k (pickT .k (.g 5 rfl) (.g 7 rfl)) .n))))))))) [0,1,2,3] [8] rfl rfl ?_)
   refine Tr.cond 4 rfl (fun _=>?_) nofun
   refine Tr.skip (Nx.go (Tr.seq (Tr.block (Tr.rs [] (.k (mv .k (.b 3 rfl)) (.k (add_ .k (.g 0 rfl) .c (wr1 (by omega))) (.k (asg .k (.g 1 rfl)) .n))) [0,1,2,3] [2] rfl rfl ?_))))
   refine Tr.block (?_)
   refine Tr.loop (fun n_ F_=>∃ k:Nat,((i < k∧k≤P.length)∧∀ m,m < k→¬ hitN P T S i m)∧n_=P.length - k∧F_=[.b 1 (SP.mesh P T S) 26 3,.b 2 (.is (sgv (0,0))) 28 2,.s 4 (iv 0),.s 5 (iv ((i:Nat):Int)),.s 6 (iv ((k:Nat):Int))]) (P.length - (i+1)) (F0:=[.b 1 (SP.mesh P T S) 26 3,.b 2 (.is (sgv (0,0))) 28 2,.s 4 (iv 0),.s 5 (iv ((i:Nat):Int)),.s 6 (iv (((i+1):Nat):Int))]) ⟨(i+1),⟨⟨Nat.lt_succ_self _,hi2⟩,fun m hm h=>by have:=h.1;omega⟩,rfl,rfl⟩ (Sub.all (.cons 0 rfl (.cons 1 rfl (.cons 2 rfl (.cons 3 rfl (.cons 4 rfl .nil)))))) (fun n_ F_ hI=>?_)
   obtain ⟨k,hk,rfl,rfl⟩:=hI
   refine Tr.seq (Tr.rs [] (.k (mv .k (.b 4 rfl)) (.k (faddr .k (.b 0 rfl) rfl fMP) (.k (ldc .k (.g 1 rfl) (.b 0 rfl) tyvP) (.k (len_ .k rwP (.g 2 rfl) (by rw [List.length_map])) (.k (lt_ .k (.g 0 rfl) (.g 3 rfl) rfl) .n))))) [0,1,2,3,4] [4] rfl rfl ?_)
   refine Tr.cond 5 rfl (fun e26=>?_) (fun e26=>?_)
   ·
    have hk2:k < P.length:=by have:=of_decide_eq_true e26;omega
    refine Tr.skip (Nx.go (Tr.seq (Tr.block (?_))))
    rcases and_ways3 (leftR T ((i:Nat):Int) ((k:Nat):Int) ≥ 0) (leftR T ((k:Nat):Int) ((i:Nat):Int) ≥ 0) (badP P T S ((i:Nat):Int) ((k:Nat):Int)) with c1|⟨c1,c2⟩|⟨c1,c2,c3⟩|⟨c1,c2,c3⟩
    ·
     have hqn:¬ hitN P T S i k:=fun h=>c1 h.2.2.1.1.1
     refine Tr.rs [] (.k (faddr .k (.b 0 rfl) rfl fMT) (.k (ldc .k (.g 0 rfl) (.b 0 rfl) tyvT) (.k (mv .k (.b 3 rfl)) (.k (mv .k (.b 4 rfl)) (.k (cal .k Tryz.func48 rfl (fn_Left hT) (.k (.g 1 rfl) (.k (.g 2 rfl) (.k (.g 3 rfl) .n)))) (.k (ge_ .k (.g 4 rfl) .c (decide_eq_false c1)) (.k (mv .k (.g 5 rfl)) (.k (skp (.o 6 rfl rfl rfl)) (.k (skp (.o 6 rfl rfl rfl)) (.k (skp (.o 6 rfl rfl rfl)) (.k (skp (.o 6 rfl rfl rfl)) (.k (skp (.o 6 rfl rfl rfl)) (.k (skp (.o 6 rfl rfl rfl)) (.k (pickF .k (.g 6 rfl) .c) (.k (mv .k (.g 13 rfl)) (.k (skp (.o 14 rfl rfl rfl)) (.k (skp (.o 14 rfl rfl rfl)) (.k (skp (.o 14 rfl rfl rfl)) (.k (skp (.o 14 rfl rfl rfl)) (.k (pickF .k (.g 14 rfl) .c) .n)))))))))))))))))))) [0,1,2,3,4] [19] rfl rfl ?_
     refine Tr.cond 5 rfl nofun (fun _=>?_)
     refine Tr.skip (Nx.bkN (Nx.go (Tr.reg [(4,2)] (.k (mv .k (.b 4 rfl)) (.k (add_ .k (.g 0 rfl) .c (wr1 (by omega))) (.k (asg .k (.g 1 rfl)) .n))) [0,1,2,3] [2] rfl rfl (Nx.again (P.length - (k+1)) (by omega) [.b 1 (SP.mesh P T S) 26 3,.b 2 (.is (sgv (0,0))) 28 2,.s 4 (iv 0),.s 5 (iv ((i:Nat):Int)),.s 6 (iv (((k+1):Nat):Int))] ⟨(k+1),⟨by omega,q_one hk.2 hqn⟩,rfl,rfl⟩ (Sub.all (.cons 0 rfl (.cons 1 rfl (.cons 2 rfl (.cons 3 rfl (.cons 4 rfl .nil))))))))))
    ·
     have hqn:¬ hitN P T S i k:=fun h=>c2 h.2.2.1.1.2
     refine Tr.rs [] (.k (faddr .k (.b 0 rfl) rfl fMT) (.k (ldc .k (.g 0 rfl) (.b 0 rfl) tyvT) (.k (mv .k (.b 3 rfl)) (.k (mv .k (.b 4 rfl)) (.k (cal .k Tryz.func48 rfl (fn_Left hT) (.k (.g 1 rfl) (.k (.g 2 rfl) (.k (.g 3 rfl) .n)))) (.k (ge_ .k (.g 4 rfl) .c (decide_eq_true c1)) (.k (mv .k (.g 5 rfl)) (.k (faddr (.o 6 rfl rfl rfl) (.b 0 rfl) rfl fMT) (.k (ldc (.o 6 rfl rfl rfl) (.g 7 rfl) (.b 0 rfl) tyvT) (.k (mv (.o 6 rfl rfl rfl) (.b 4 rfl)) (.k (mv (.o 6 rfl rfl rfl) (.b 3 rfl)) (.k (cal (.o 6 rfl rfl rfl) Tryz.func48 rfl (fn_Left hT) (.k (.g 8 rfl) (.k (.g 9 rfl) (.k (.g 10 rfl) .n)))) (.k (ge_ (.o 6 rfl rfl rfl) (.g 11 rfl) .c (decide_eq_false c2)) (.k (pickT .k (.g 6 rfl) (.g 12 rfl)) (.k (mv .k (.g 13 rfl)) (.k (skp (.o 14 rfl rfl rfl)) (.k (skp (.o 14 rfl rfl rfl)) (.k (skp (.o 14 rfl rfl rfl)) (.k (skp (.o 14 rfl rfl rfl)) (.k (pickF .k (.g 14 rfl) .c) .n)))))))))))))))))))) [0,1,2,3,4] [19] rfl rfl ?_
     refine Tr.cond 5 rfl nofun (fun _=>?_)
     refine Tr.skip (Nx.bkN (Nx.go (Tr.reg [(4,2)] (.k (mv .k (.b 4 rfl)) (.k (add_ .k (.g 0 rfl) .c (wr1 (by omega))) (.k (asg .k (.g 1 rfl)) .n))) [0,1,2,3] [2] rfl rfl (Nx.again (P.length - (k+1)) (by omega) [.b 1 (SP.mesh P T S) 26 3,.b 2 (.is (sgv (0,0))) 28 2,.s 4 (iv 0),.s 5 (iv ((i:Nat):Int)),.s 6 (iv (((k+1):Nat):Int))] ⟨(k+1),⟨by omega,q_one hk.2 hqn⟩,rfl,rfl⟩ (Sub.all (.cons 0 rfl (.cons 1 rfl (.cons 2 rfl (.cons 3 rfl (.cons 4 rfl .nil))))))))))
    ·
     have hqn:¬ hitN P T S i k:=fun h=>c3 h.2.2
     refine Tr.rs [] (.k (faddr .k (.b 0 rfl) rfl fMT) (.k (ldc .k (.g 0 rfl) (.b 0 rfl) tyvT) (.k (mv .k (.b 3 rfl)) (.k (mv .k (.b 4 rfl)) (.k (cal .k Tryz.func48 rfl (fn_Left hT) (.k (.g 1 rfl) (.k (.g 2 rfl) (.k (.g 3 rfl) .n)))) (.k (ge_ .k (.g 4 rfl) .c (decide_eq_true c1)) (.k (mv .k (.g 5 rfl)) (.k (faddr (.o 6 rfl rfl rfl) (.b 0 rfl) rfl fMT) (.k (ldc (.o 6 rfl rfl rfl) (.g 7 rfl) (.b 0 rfl) tyvT) (.k (mv (.o 6 rfl rfl rfl) (.b 4 rfl)) (.k (mv (.o 6 rfl rfl rfl) (.b 3 rfl)) (.k (cal (.o 6 rfl rfl rfl) Tryz.func48 rfl (fn_Left hT) (.k (.g 8 rfl) (.k (.g 9 rfl) (.k (.g 10 rfl) .n)))) (.k (ge_ (.o 6 rfl rfl rfl) (.g 11 rfl) .c (decide_eq_true c2)) (.k (pickT .k (.g 6 rfl) (.g 12 rfl)) (.k (mv .k (.g 13 rfl)) (.k (ld (.o 14 rfl rfl rfl) (.b 0 rfl) tyM) (.k (mv (.o 14 rfl rfl rfl) (.b 3 rfl)) (.k (mv (.o 14 rfl rfl rfl) (.b 4 rfl)) (.k (cal (.o 14 rfl rfl rfl) Tryz.func109 rfl (show FnC _ _ _ (bv false) from bad_no c3 ▸ fn_bad hP hT hS M) (.k (.g 15 rfl) (.k (.g 16 rfl) (.k (.g 17 rfl) .n)))) (.k (pickT .k (.g 14 rfl) (.g 18 rfl)) .n)))))))))))))))))))) [0,1,2,3,4] [19] rfl rfl ?_
     refine Tr.cond 5 rfl nofun (fun _=>?_)
     refine Tr.skip (Nx.bkN (Nx.go (Tr.reg [(4,2)] (.k (mv .k (.b 4 rfl)) (.k (add_ .k (.g 0 rfl) .c (wr1 (by omega))) (.k (asg .k (.g 1 rfl)) .n))) [0,1,2,3] [2] rfl rfl (Nx.again (P.length - (k+1)) (by omega) [.b 1 (SP.mesh P T S) 26 3,.b 2 (.is (sgv (0,0))) 28 2,.s 4 (iv 0),.s 5 (iv ((i:Nat):Int)),.s 6 (iv (((k+1):Nat):Int))] ⟨(k+1),⟨by omega,q_one hk.2 hqn⟩,rfl,rfl⟩ (Sub.all (.cons 0 rfl (.cons 1 rfl (.cons 2 rfl (.cons 3 rfl (.cons 4 rfl .nil))))))))))
    ·
     rw [(nxt_hit M ⟨hk.1.1,hk2,c3⟩ ho.2 hk.2).1,(nxt_hit M ⟨hk.1.1,hk2,c3⟩ ho.2 hk.2).2]
     refine Tr.rs [] (.k (faddr .k (.b 0 rfl) rfl fMT) (.k (ldc .k (.g 0 rfl) (.b 0 rfl) tyvT) (.k (mv .k (.b 3 rfl)) (.k (mv .k (.b 4 rfl)) (.k (cal .k Tryz.func48 rfl (fn_Left hT) (.k (.g 1 rfl) (.k (.g 2 rfl) (.k (.g 3 rfl) .n)))) (.k (ge_ .k (.g 4 rfl) .c (decide_eq_true c1)) (.k (mv .k (.g 5 rfl)) (.k (faddr (.o 6 rfl rfl rfl) (.b 0 rfl) rfl fMT) (.k (ldc (.o 6 rfl rfl rfl) (.g 7 rfl) (.b 0 rfl) tyvT) (.k (mv (.o 6 rfl rfl rfl) (.b 4 rfl)) (.k (mv (.o 6 rfl rfl rfl) (.b 3 rfl)) (.k (cal (.o 6 rfl rfl rfl) Tryz.func48 rfl (fn_Left hT) (.k (.g 8 rfl) (.k (.g 9 rfl) (.k (.g 10 rfl) .n)))) (.k (ge_ (.o 6 rfl rfl rfl) (.g 11 rfl) .c (decide_eq_true c2)) (.k (pickT .k (.g 6 rfl) (.g 12 rfl)) (.k (mv .k (.g 13 rfl)) (.k (ld (.o 14 rfl rfl rfl) (.b 0 rfl) tyM) (.k (mv (.o 14 rfl rfl rfl) (.b 3 rfl)) (.k (mv (.o 14 rfl rfl rfl) (.b 4 rfl)) (.k (cal (.o 14 rfl rfl rfl) Tryz.func109 rfl (show FnC _ _ _ (bv true) from bad_so c3 ▸ fn_bad hP hT hS M) (.k (.g 15 rfl) (.k (.g 16 rfl) (.k (.g 17 rfl) .n)))) (.k (pickT .k (.g 14 rfl) (.g 18 rfl)) .n)))))))))))))))))))) [0,1,2,3,4] [19] rfl rfl ?_
     refine Tr.cond 5 rfl (fun _=>?_) nofun
     refine Tr.rs [(1,3)] (.k (mv .k (.b 3 rfl)) (.k (mv .k (.b 4 rfl)) (.k (bld .k (.k (.g 0 rfl) (.k (.g 1 rfl) .n)) (bS _ _) (aS _ _)) (.k (sto .k (.b 1 rfl) (.g 2 rfl) tyS) (.k (asg .k .c) .n))))) [] [3,4] rfl rfl ?_
     refine Tr.ret (end_cell_tmp 0 1 rfl rfl rfl tyS)
   ·
    have hno:=q_end hk.2 (fun m hm=>hit_end (T:=T) (S:=S) (i:=i) m (by have:=of_decide_eq_false e26;omega))
    refine Tr.exit (Nx.thX (Nx.thX (Nx.bkX (Nx.bkN (Nx.go (Tr.reg [(3,2)] (.k (mv .k (.b 3 rfl)) (.k (add_ .k (.g 0 rfl) .c (wr1 (by omega))) (.k (asg .k (.g 1 rfl)) .n))) [0,1,2] [2] rfl rfl (Nx.again (P.length - (i+1)) (by omega) [.b 1 (SP.mesh P T S) 26 3,.b 2 (.is (sgv (0,0))) 28 2,.s 4 (iv 0),.s 5 (iv (((i+1):Nat):Int))] ⟨(i+1),⟨by omega,q_succ ho.2 hno⟩,rfl,rfl⟩ (Sub.all (.cons 0 rfl (.cons 1 rfl (.cons 2 rfl (.cons 3 rfl .nil))))))))))))
  ·
   have hall:=hit_allN (P:=P) (T:=T) (S:=S) (Nat.le_of_not_lt hi2) ho.2
   rw [(nxt_no (next_all hall)).1,(nxt_no (next_all hall)).2]
   refine Tr.seq (Tr.rs [] (.k (mv .k (.b 3 rfl)) (.k (faddr .k (.b 0 rfl) rfl fMP) (.k (ldc .k (.g 1 rfl) (.b 0 rfl) tyvP) (.k (len_ .k rwP (.g 2 rfl) (by rw [List.length_map])) (.k (lt_ .k (.g 0 rfl) (.g 3 rfl) (dF (by omega))) (.k (mv .k (.g 4 rfl)) (.k (skp (.o 5 rfl rfl rfl)) (.k (skp (.o 5 rfl rfl rfl)) (.k (pickF .k (.g 5 rfl) .c) .n))))))))) [0,1,2,3] [8] rfl rfl ?_)
   refine Tr.cond 4 rfl nofun (fun _=>?_)
   refine Tr.exit (Nx.thX (Nx.thX (Nx.bkX (Nx.go (Tr.rs [(1,1)] (.k (bld .k .n bS0 (aS 0 0)) (.k (sto .k (.b 1 rfl) (.g 0 rfl) tyS) (.k (asg .k .c) .n))) [] [1,2] rfl rfl ?_)))))
   refine Tr.ret (end_cell_tmp 0 1 rfl rfl rfl tyS)
 ·
  refine Tr.rs [] (.k (ld .k (.b 0 rfl) tyM) (.k (cal .k Tryz.func25 rfl (show FnC _ _ _ (iv 2) from chk_no M ▸ fn_rCheck hP hT hS) (.k (.g 0 rfl) .n)) (.k (asg .k (.g 1 rfl)) .n))) [0,1] [2] rfl rfl ?_
  refine Tr.seq (Tr.rs [] (.k (asg .k .c) .n) [0,1,2] [0] rfl rfl ?_)
  refine Tr.block (?_)
  refine Tr.loop (fun n_ F_=>∃ z:Unit,(True)∧n_=0∧F_=[.b 1 (SP.mesh P T S) 26 3,.b 2 (.is (sgv (0,0))) 28 2,.s 4 (iv 2),.s 5 (iv ((0:Nat):Int))]) (0) (F0:=[.b 1 (SP.mesh P T S) 26 3,.b 2 (.is (sgv (0,0))) 28 2,.s 4 (iv 2),.s 5 (iv ((0:Nat):Int))]) ⟨(),trivial,rfl,rfl⟩ (Sub.all (.cons 0 rfl (.cons 1 rfl (.cons 2 rfl (.cons 3 rfl .nil))))) (fun n_ F_ hI=>?_)
  obtain ⟨z,hinv,rfl,rfl⟩:=hI
  by_cases hz:0 < P.length
  ·
   rw [(nxt_no (next_bad M)).1,(nxt_no (next_bad M)).2]
   refine Tr.seq (Tr.rs [] (.k (mv .k (.b 3 rfl)) (.k (faddr .k (.b 0 rfl) rfl fMP) (.k (ldc .k (.g 1 rfl) (.b 0 rfl) tyvP) (.k (len_ .k rwP (.g 2 rfl) (by rw [List.length_map])) (.k (lt_ .k (.g 0 rfl) (.g 3 rfl) (dT (by omega))) (.k (mv .k (.g 4 rfl)) (.k (mv (.o 5 rfl rfl rfl) (.b 2 rfl)) (.k (eq_ (.o 5 rfl rfl rfl) (.g 6 rfl) .c (beq_eq_false_iff_ne.2 (by decide))) (.k (pickT .k (.g 5 rfl) (.g 7 rfl)) .n))))))))) [0,1,2,3] [8] rfl rfl ?_)
   refine Tr.cond 4 rfl nofun (fun _=>?_)
   refine Tr.exit (Nx.thX (Nx.thX (Nx.bkX (Nx.go (Tr.rs [(1,1)] (.k (bld .k .n bS0 (aS 0 0)) (.k (sto .k (.b 1 rfl) (.g 0 rfl) tyS) (.k (asg .k .c) .n))) [] [1,2] rfl rfl ?_)))))
   refine Tr.ret (end_cell_tmp 0 1 rfl rfl rfl tyS)
  ·
   rw [(nxt_no (next_bad M)).1,(nxt_no (next_bad M)).2]
   refine Tr.seq (Tr.rs [] (.k (mv .k (.b 3 rfl)) (.k (faddr .k (.b 0 rfl) rfl fMP) (.k (ldc .k (.g 1 rfl) (.b 0 rfl) tyvP) (.k (len_ .k rwP (.g 2 rfl) (by rw [List.length_map])) (.k (lt_ .k (.g 0 rfl) (.g 3 rfl) (dF (by omega))) (.k (mv .k (.g 4 rfl)) (.k (skp (.o 5 rfl rfl rfl)) (.k (skp (.o 5 rfl rfl rfl)) (.k (pickF .k (.g 5 rfl) .c) .n))))))))) [0,1,2,3] [8] rfl rfl ?_)
   refine Tr.cond 4 rfl nofun (fun _=>?_)
   refine Tr.exit (Nx.thX (Nx.thX (Nx.bkX (Nx.go (Tr.rs [(1,1)] (.k (bld .k .n bS0 (aS 0 0)) (.k (sto .k (.b 1 rfl) (.g 0 rfl) tyS) (.k (asg .k .c) .n))) [] [1,2] rfl rfl ?_)))))
   refine Tr.ret (end_cell_tmp 0 1 rfl rfl rfl tyS)
theorem opt_ways {α:Type} (o:Option α):o=none∨∃ s,o=some s:=by
  cases o with
  | none=>exact .inl rfl
  | some s=>exact .inr ⟨s,rfl⟩
theorem fn_DelT {P:List (Int × Int)} {T:List (Int × Int × Int)} {S:List (Int × Int)} (hP:P.length≤1000000) (hT:T.length≤1000000) (hT9:T.length≤900000) (hS:S.length≤1000000) (hf:FitP P) (M:MeshOK P.length (oP P) T S):FnC Tryz.prog 42 [SP.mesh P T S] (.tup [delM P S (delN P S (fuel P T) T 0).1,iv (delN P S (fuel P T) T 0).2.1,iv (delN P S (fuel P T) T 0).2.2]):=by
 refine FnC.of (N:=44) Tryz.func42 rfl rfl (Nat.le_of_ble_eq_true rfl) (fun w0 ok0=>?_)
 refine Tr.rs [] (.k (bxx .k (.b 0 rfl)) (.k (alc .k zM) (.k (asg .k .c) (.k (asg .k .c) .n)))) [] [0,1] rfl rfl ?_
 refine Tr.rs [] (.k (ld .k (.b 0 rfl) tyM) (.k (cal .k Tryz.func25 rfl (show FnC _ _ _ (iv 0) from chk_ok M ▸ fn_rCheck hP hT hS) (.k (.g 0 rfl) .n)) (.k (asg .k (.g 1 rfl)) .n))) [0,1] [2] rfl rfl ?_
 refine Tr.seq (Tr.rs [] (.k (mv .k (.b 2 rfl)) (.k (ne_ .k (.g 0 rfl) .c (bne_eq_false_iff_eq.2 rfl)) .n)) [0,1] [1] rfl rfl ?_)
 refine Tr.cond 2 rfl nofun (fun _=>?_)
 refine Tr.skip (Nx.go (Tr.rs [] (.k (ld .k (.b 0 rfl) tyM) (.k (cal .k Tryz.func8 rfl (fn_Copy hP hT hS) (.k (.g 0 rfl) .n)) (.k (ala .k zM) (.k (sta .k (.g 2 rfl) (.g 1 rfl) tyM) .n)))) [1] [3] rfl rfl ?_))
 refine Tr.rs [] (.k (asg .k .c) .n) [0,1] [0] rfl rfl ?_
 refine Tr.block (?_)
 refine Tr.loop (fun n_ F_=>∃ k:Nat,∃ U:List (Int × Int × Int),∃ m:Int,(MeshOK P.length (oP P) U S∧delN P S k U m=delN P S (fuel P T) T 0∧phi (atP P) U < k∧U.length=T.length)∧n_=0+k∧F_=[.b 2 (.is (.agg #[.slice none 0 0,.slice none 0 0,.slice none 0 0])) 26 3,.b 6 (SP.mesh P U S) 26 3,.s 7 (iv m)]) (0+(fuel P T)) (F0:=[.b 2 (.is (.agg #[.slice none 0 0,.slice none 0 0,.slice none 0 0])) 26 3,.b 6 (SP.mesh P T S) 26 3,.s 7 (iv 0)]) ⟨(fuel P T),T,0,⟨M,rfl,by have:=phi_ok hf M;unfold fuel;omega,rfl⟩,rfl,rfl⟩ (Sub.all (.cons 0 rfl (.cons 1 rfl (.cons 2 rfl .nil)))) (fun n_ F_ hI=>?_)
 obtain ⟨k,U,m,hu,rfl,rfl⟩:=hI
 obtain ⟨hu1,hu2,hu3,hu4⟩:=hu
 obtain ⟨k',rfl⟩:∃ k',k=k'+1:=⟨k - 1,by have:=phi_ok hf hu1;omega⟩
 refine Tr.block (?_)
 rcases opt_ways (nextR P U S) with hs|⟨s,hs⟩
 ·
  rw [show delN P S (fuel P T) T 0=(some U,m,0) by rw [← hu2,del_none hs]]
  refine Tr.rs [] (.k (ld .k (.b 1 rfl) tyM) (.k (cal .k Tryz.func81 rfl (show FnC _ _ _ (.tup [.is (sgv (0,0)),bv false]) from (nxt_no hs).1 ▸ (nxt_no hs).2 ▸ fn_Next hP (by omega) hS) (.k (.g 0 rfl) .n)) (.k (mv .k (.g 1 rfl)) (.k (exx .k (.g 2 rfl) rfl) (.k (exx .k (.g 2 rfl) rfl) (.k (ala .k zS) (.k (sta .k (.g 5 rfl) (.g 3 rfl) tyS) (.k (asg .k (.g 4 rfl)) .n)))))))) [0,1,2] [6,7] rfl rfl ?_
  refine Tr.seq (Tr.rs [] (.k (mv .k (.b 4 rfl)) (.k (not_ .k (.g 0 rfl)) .n)) [0,1,2,3] [1] rfl rfl ?_)
  refine Tr.cond 4 rfl (fun _=>?_) nofun
  refine Tr.rs [(0,2)] (.k (ld .k (.b 1 rfl) tyM) (.k (mv .k (.b 2 rfl)) (.k (sto .k (.b 0 rfl) (.g 0 rfl) tyM) (.k (asg .k (.g 1 rfl)) (.k (asg .k .c) .n))))) [] [2,3,4] rfl rfl ?_
  refine Tr.ret (end_cell_tmp2 0 1 2 rfl rfl rfl rfl tyM)
 ·
  refine Tr.rs [] (.k (ld .k (.b 1 rfl) tyM) (.k (cal .k Tryz.func81 rfl (show FnC _ _ _ (.tup [.is (sgv ((s.1:Int),(s.2:Int))),bv true]) from (nxt_so hs).1 ▸ (nxt_so hs).2 ▸ fn_Next hP (by omega) hS) (.k (.g 0 rfl) .n)) (.k (mv .k (.g 1 rfl)) (.k (exx .k (.g 2 rfl) rfl) (.k (exx .k (.g 2 rfl) rfl) (.k (ala .k zS) (.k (sta .k (.g 5 rfl) (.g 3 rfl) tyS) (.k (asg .k (.g 4 rfl)) .n)))))))) [0,1,2] [6,7] rfl rfl ?_
  refine Tr.seq (Tr.rs [] (.k (mv .k (.b 4 rfl)) (.k (not_ .k (.g 0 rfl)) .n)) [0,1,2,3] [1] rfl rfl ?_)
  refine Tr.cond 4 rfl nofun (fun _=>?_)
  refine Tr.skip (Nx.go (?_))
  by_cases hm:mayP P U S (s.1:Int) (s.2:Int)
  ·
   refine Tr.rs [] (.k (ld .k (.b 1 rfl) tyM) (.k (faddr .k (.b 3 rfl) rfl fSA) (.k (ldc .k (.g 1 rfl) (.b 3 rfl) tyI) (.k (faddr .k (.b 3 rfl) rfl fSB) (.k (ldc .k (.g 3 rfl) (.b 3 rfl) tyI) (.k (cal .k Tryz.func82 rfl (fn_FlipT hP (by omega) (by omega) hS hu1 hm) (.k (.g 0 rfl) (.k (.g 2 rfl) (.k (.g 4 rfl) .n)))) (.k (mv .k (.g 5 rfl)) (.k (exx .k (.g 6 rfl) rfl) (.k (exx .k (.g 6 rfl) rfl) (.k (ala .k zM) (.k (sta .k (.g 9 rfl) (.g 7 rfl) tyM) (.k (asg .k (.g 8 rfl)) .n)))))))))))) [0,1,2] [10,11] rfl rfl ?_
   refine Tr.seq (Tr.rs [] (.k (mv .k (.b 4 rfl)) (.k (ne_ .k (.g 0 rfl) .c (bne_eq_false_iff_eq.2 rfl)) .n)) [0,1,2,3,4] [1] rfl rfl ?_)
   refine Tr.cond 5 rfl nofun (fun _=>?_)
   refine Tr.skip (Nx.go (Tr.rs [(1,1)] (.k (ld .k (.b 3 rfl) tyM) (.k (sto .k (.b 1 rfl) (.g 0 rfl) tyM) .n)) [0,2] [1] rfl rfl ?_))
   refine Tr.reg [(1,2)] (.k (mv .k (.b 1 rfl)) (.k (add_ .k (.g 0 rfl) .c rfl) (.k (asg .k (.g 1 rfl)) .n))) [0,2] [2] rfl rfl (Nx.bkN (Nx.again (0+k') (by omega) [.b 2 (.is (.agg #[.slice none 0 0,.slice none 0 0,.slice none 0 0])) 26 3,.b 6 (SP.mesh P (flipT P.length (oP P) U (s.1:Int) (s.2:Int)) S) 26 3,.s 7 (iv (IntKind.i64.wrap (m+1)))] ⟨k',(flipT P.length (oP P) U (s.1:Int) (s.2:Int)),(IntKind.i64.wrap (m+1)),⟨(flip_step hf hu1 (next_some hs).2.2.2 hm).1,by rw [← hu2,del_may hs hm],by have:=(flip_step hf hu1 (next_some hs).2.2.2 hm).2.1;omega,by rw [(flip_step hf hu1 (next_some hs).2.2.2 hm).2.2.1,hu4]⟩,rfl,rfl⟩ (Sub.all (.cons 0 rfl (.cons 1 rfl (.cons 2 rfl .nil))))))
  ·
   rw [show delN P S (fuel P T) T 0=(none,0,130) by rw [← hu2,del_not hs hm]]
   refine Tr.rs [] (.k (ld .k (.b 1 rfl) tyM) (.k (faddr .k (.b 3 rfl) rfl fSA) (.k (ldc .k (.g 1 rfl) (.b 3 rfl) tyI) (.k (faddr .k (.b 3 rfl) rfl fSB) (.k (ldc .k (.g 3 rfl) (.b 3 rfl) tyI) (.k (cal .k Tryz.func82 rfl (fn_FlipF hP (by omega) hS hu1 hm) (.k (.g 0 rfl) (.k (.g 2 rfl) (.k (.g 4 rfl) .n)))) (.k (mv .k (.g 5 rfl)) (.k (exx .k (.g 6 rfl) rfl) (.k (exx .k (.g 6 rfl) rfl) (.k (ala .k zM) (.k (sta .k (.g 9 rfl) (.g 7 rfl) tyM) (.k (asg .k (.g 8 rfl)) .n)))))))))))) [0,1,2] [10,11] rfl rfl ?_
   refine Tr.seq (Tr.rs [] (.k (mv .k (.b 4 rfl)) (.k (ne_ .k (.g 0 rfl) .c (bne_iff_ne.2 (by decide))) .n)) [0,1,2,3,4] [1] rfl rfl ?_)
   refine Tr.cond 5 rfl (fun _=>?_) nofun
   refine Tr.rs [(0,2)] (.k (bld .k .n bM0 rfl) (.k (mv .k (.b 4 rfl)) (.k (sto .k (.b 0 rfl) (.g 0 rfl) tyM) (.k (asg .k .c) (.k (asg .k (.g 1 rfl)) .n))))) [] [2,3,4] rfl rfl ?_
   refine Tr.ret (end_cell_tmp2 0 1 2 rfl rfl rfl rfl tyM)
theorem fn_DelF {P:List (Int × Int)} {T:List (Int × Int × Int)} {S:List (Int × Int)} (hP:P.length≤1000000) (hT:T.length≤1000000) (hS:S.length≤1000000) (M:¬ MeshOK P.length (oP P) T S):FnC Tryz.prog 42 [SP.mesh P T S] (.tup [.is (.agg #[.slice none 0 0,.slice none 0 0,.slice none 0 0]),iv 0,iv 2]):=by
 refine FnC.of (N:=44) Tryz.func42 rfl rfl (Nat.le_of_ble_eq_true rfl) (fun w0 ok0=>?_)
 refine Tr.rs [] (.k (bxx .k (.b 0 rfl)) (.k (alc .k zM) (.k (asg .k .c) (.k (asg .k .c) .n)))) [] [0,1] rfl rfl ?_
 refine Tr.rs [] (.k (ld .k (.b 0 rfl) tyM) (.k (cal .k Tryz.func25 rfl (show FnC _ _ _ (iv 2) from chk_no M ▸ fn_rCheck hP hT hS) (.k (.g 0 rfl) .n)) (.k (asg .k (.g 1 rfl)) .n))) [0,1] [2] rfl rfl ?_
 refine Tr.seq (Tr.rs [] (.k (mv .k (.b 2 rfl)) (.k (ne_ .k (.g 0 rfl) .c (bne_iff_ne.2 (by decide))) .n)) [0,1] [1] rfl rfl ?_)
 refine Tr.cond 2 rfl (fun _=>?_) nofun
 refine Tr.rs [(1,1)] (.k (bld .k .n bM0 rfl) (.k (sto .k (.b 1 rfl) (.g 0 rfl) tyM) (.k (asg .k .c) (.k (asg .k .c) .n)))) [] [1,2,3] rfl rfl ?_
 refine Tr.ret (end_cell_tmp2 0 1 2 rfl rfl rfl rfl tyM)
end Go.Proofs.YtkgagdjogedoiaaGreat

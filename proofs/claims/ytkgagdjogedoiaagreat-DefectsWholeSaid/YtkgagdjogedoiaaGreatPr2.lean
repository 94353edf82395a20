/- The small functions of pred, walked. -/
import Derived.Test.YtkgagdjogedoiaaGreatPr1
set_option linter.unusedVariables false
set_option linter.unusedSimpArgs false
namespace Go.Proofs.YtkgagdjogedoiaaGreat
open Go Go.RowKit Go.Proofs.YtkgagdjogedoiaaGreat.Fx Go.Proofs.YtkgagdjogedoiaaGreatW.PrintWords
theorem goOn2 {a b:Int} (h1:Bd 250 a) (h2:Bd 250 b):goOn (·+·) [a,b] 0=some (a+b):=by
  unfold goOn goOn goOn
  unfold Bd at h1 h2
  rw [if_pos (by unfold top4;omega),if_pos (by unfold top4;omega),Int.zero_add]
theorem goM2 {a b:Int} (h1:Bd 120 a) (h2:Bd 120 b):goOn (· * ·) [a,b] 1=some (a * b):=by
  unfold goOn goOn goOn
  rw [if_pos (by rw [Int.one_mul];exact tN h1 (by decide)),Int.one_mul,if_pos (tN (Bd.mul h1 h2) (by decide))]
theorem goM3 {a b c:Int} (h1:Bd 80 a) (h2:Bd 80 b) (h3:Bd 80 c):goOn (· * ·) [a,b,c] 1=some (a * b * c):=by
  unfold goOn goOn goOn goOn
  rw [if_pos (by rw [Int.one_mul];exact tN h1 (by decide)),Int.one_mul,if_pos (tN (Bd.mul h1 h2) (by decide)),if_pos (tN (Bd.mul (Bd.mul h1 h2) h3) (by decide))]
theorem all2 {p:Int→Prop} {a b:Int} (h1:p a) (h2:p b):∀ z∈[a,b],p z:=by
  intro z hz
  simp at hz
  rcases hz with rfl|rfl
  · exact h1
  · exact h2
theorem all3 {p:Int→Prop} {a b c:Int} (h1:p a) (h2:p b) (h3:p c):∀ z∈[a,b,c],p z:=by
  intro z hz
  simp at hz
  rcases hz with rfl|rfl|rfl
  · exact h1
  · exact h2
  · exact h3
theorem fn_Add2 {a b:Int} (h1:Bd 250 a) (h2:Bd 250 b):FnC Tryz.prog 100 [.vec 5 [wc a,wc b]] (.tup [.is (wv (a+b)),iv 0]):=fn_Add (zs:=[a,b]) (all2 (tN h1 (by decide)) (tN h2 (by decide))) (by simp) (goOn2 h1 h2)
theorem fn_Mul2 {a b:Int} (h1:Bd 120 a) (h2:Bd 120 b):FnC Tryz.prog 96 [.vec 5 [wc a,wc b]] (.tup [.is (wv (a * b)),iv 0]):=fn_Mul (zs:=[a,b]) (all2 (tN h1 (by decide)) (tN h2 (by decide))) (by simp) (goM2 h1 h2)
theorem fn_Mul3 {a b c:Int} (h1:Bd 80 a) (h2:Bd 80 b) (h3:Bd 80 c):FnC Tryz.prog 96 [.vec 5 [wc a,wc b,wc c]] (.tup [.is (wv (a * b * c)),iv 0]):=fn_Mul (zs:=[a,b,c]) (all3 (tN h1 (by decide)) (tN h2 (by decide)) (tN h3 (by decide))) (by simp) (goM3 h1 h2 h3)
set_option maxRecDepth 100000 in
theorem fn_from {ax ay bx b_y:Int} (h0:Bd 33 ax) (h1:Bd 33 ay) (h2:Bd 33 bx) (h3:Bd 33 b_y):FnC Tryz.prog 63 [.is (ptv ax ay),.is (ptv bx b_y)] (.is (ptv (bx - ax) (b_y - ay))):=by
 refine FnC.of (N:=16) Tryz.func63 rfl rfl (Nat.le_of_ble_eq_true rfl) (fun w0 ok0=>?_)
 refine Tr.rs [] (.k (bxx .k (.b 0 rfl)) (.k (bxx .k (.b 1 rfl)) (.k (alc .k zP) .n))) [] [0,1,2] rfl rfl ?_
 refine Tr.rs [(2,11)] (.k (faddr .k (.b 1 rfl) rfl fPX) (.k (ldc .k (.g 0 rfl) (.b 1 rfl) tyI) (.k (faddr .k (.b 0 rfl) rfl fPX) (.k (ldc .k (.g 2 rfl) (.b 0 rfl) tyI) (.k (sub_ .k (.g 1 rfl) (.g 3 rfl) (Bd.wrap (Bd.sub h2 h0) (by decide))) (.k (faddr .k (.b 1 rfl) rfl fPY) (.k (ldc .k (.g 5 rfl) (.b 1 rfl) tyI) (.k (faddr .k (.b 0 rfl) rfl fPY) (.k (ldc .k (.g 7 rfl) (.b 0 rfl) tyI) (.k (sub_ .k (.g 6 rfl) (.g 8 rfl) (Bd.wrap (Bd.sub h3 h1) (by decide))) (.k (bld .k (.k (.g 4 rfl) (.k (.g 9 rfl) .n)) (bP _ _) (aP _ _)) (.k (sto .k (.b 2 rfl) (.g 10 rfl) tyP) .n)))))))))))) [] [11] rfl rfl ?_
 refine Tr.ret (end_cell 0 rfl rfl tyP)
set_option maxRecDepth 100000 in
theorem fn_sum2 {a b:Int} (h1:Bd 250 a) (h2:Bd 250 b):FnC Tryz.prog 73 [.vec 5 [wc a,wc b]] (.is (wv (a+b))):=by
 refine FnC.of (N:=11) Tryz.func73 rfl rfl (Nat.le_of_ble_eq_true rfl) (fun w0 ok0=>?_)
 refine Tr.rs [] (.k (alc .k zW) .n) [0] [0] rfl rfl ?_
 refine Tr.rs [] (.k (mv .k (.b 0 rfl)) (.k (cal .k Tryz.func100 rfl (fn_Add2 h1 h2) (.k (.g 0 rfl) .n)) (.k (mv .k (.g 1 rfl)) (.k (exx .k (.g 2 rfl) rfl) (.k (exx .k (.g 2 rfl) rfl) (.k (ala .k zW) (.k (sta .k (.g 5 rfl) (.g 3 rfl) tyW) (.k (asg .k (.g 4 rfl)) .n)))))))) [1] [6] rfl rfl ?_
 refine Tr.rs [(0,1)] (.k (ld .k (.b 1 rfl) tyW) (.k (sto .k (.b 0 rfl) (.g 0 rfl) tyW) .n)) [] [1] rfl rfl ?_
 refine Tr.ret (end_cell 0 rfl rfl tyW)
set_option maxRecDepth 100000 in
theorem fn_times2 {a b:Int} (h1:Bd 120 a) (h2:Bd 120 b):FnC Tryz.prog 67 [.vec 5 [wc a,wc b]] (.is (wv (a * b))):=by
 refine FnC.of (N:=11) Tryz.func67 rfl rfl (Nat.le_of_ble_eq_true rfl) (fun w0 ok0=>?_)
 refine Tr.rs [] (.k (alc .k zW) .n) [0] [0] rfl rfl ?_
 refine Tr.rs [] (.k (mv .k (.b 0 rfl)) (.k (cal .k Tryz.func96 rfl (fn_Mul2 h1 h2) (.k (.g 0 rfl) .n)) (.k (mv .k (.g 1 rfl)) (.k (exx .k (.g 2 rfl) rfl) (.k (exx .k (.g 2 rfl) rfl) (.k (ala .k zW) (.k (sta .k (.g 5 rfl) (.g 3 rfl) tyW) (.k (asg .k (.g 4 rfl)) .n)))))))) [1] [6] rfl rfl ?_
 refine Tr.rs [(0,1)] (.k (ld .k (.b 1 rfl) tyW) (.k (sto .k (.b 0 rfl) (.g 0 rfl) tyW) .n)) [] [1] rfl rfl ?_
 refine Tr.ret (end_cell 0 rfl rfl tyW)
set_option maxRecDepth 100000 in
theorem fn_times3 {a b c:Int} (h1:Bd 80 a) (h2:Bd 80 b) (h3:Bd 80 c):FnC Tryz.prog 67 [.vec 5 [wc a,wc b,wc c]] (.is (wv (a * b * c))):=by
 refine FnC.of (N:=11) Tryz.func67 rfl rfl (Nat.le_of_ble_eq_true rfl) (fun w0 ok0=>?_)
 refine Tr.rs [] (.k (alc .k zW) .n) [0] [0] rfl rfl ?_
 refine Tr.rs [] (.k (mv .k (.b 0 rfl)) (.k (cal .k Tryz.func96 rfl (fn_Mul3 h1 h2 h3) (.k (.g 0 rfl) .n)) (.k (mv .k (.g 1 rfl)) (.k (exx .k (.g 2 rfl) rfl) (.k (exx .k (.g 2 rfl) rfl) (.k (ala .k zW) (.k (sta .k (.g 5 rfl) (.g 3 rfl) tyW) (.k (asg .k (.g 4 rfl)) .n)))))))) [1] [6] rfl rfl ?_
 refine Tr.rs [(0,1)] (.k (ld .k (.b 1 rfl) tyW) (.k (sto .k (.b 0 rfl) (.g 0 rfl) tyW) .n)) [] [1] rfl rfl ?_
 refine Tr.ret (end_cell 0 rfl rfl tyW)
end Go.Proofs.YtkgagdjogedoiaaGreat

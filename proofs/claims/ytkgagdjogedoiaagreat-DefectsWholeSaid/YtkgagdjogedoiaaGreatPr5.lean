/- Circles and discs, walked. -/
import Derived.Test.YtkgagdjogedoiaaGreatPr4
set_option linter.unusedVariables false
set_option linter.unusedSimpArgs false
namespace Go.Proofs.YtkgagdjogedoiaaGreat
open Go Go.RowKit Go.Proofs.YtkgagdjogedoiaaGreat.Fx Go.Proofs.YtkgagdjogedoiaaGreatW.PrintWords
def sqZ (x y:Int):Int:=x * x+y * y
def tuZ (x y u v:Int):Int:=x * v+-(y * u)
theorem eqP (x y u v:Int) (W:World):(Op.equalIn 10000 30 (ptv x y) (ptv u v)).run Tryz.prog W = .ok (x==u && y==v) W:=by
  unfold ptv
  refine eqA_of Tryz.underlying30 (by kernel_rfl) ?_
  refine eqf_cons (by rfl) (by go_simp;rfl) (by go_simp;rfl) (by go_simp) ?_
  exact eqf_last (by rfl) (by go_simp;rfl) (by go_simp;rfl) (by go_simp)
theorem ptG:Tryz.prog.eqGuardType Tryz.prog.depth 30=false:=by kernel_rfl
def same (x y u v:Int):Bool:=x==u && y==v
def discZ (ax ay bx b_y px py:Int):Int:=(ax - px) * (bx - px)+(ay - py) * (b_y - py)
def disB (ax ay bx b_y px py:Int):Bool:=if ¬ (fit ax ay∧fit bx b_y∧fit px py)∨same px py ax ay=true∨same px py bx b_y=true then false else decide (sgn (discZ ax ay bx b_y px py)≤0)
set_option maxRecDepth 100000 in
theorem fn_InDisc {ax ay bx b_y px py:Int}:FnC Tryz.prog 36 [.is (ptv ax ay),.is (ptv bx b_y),.is (ptv px py)] (bv (disB ax ay bx b_y px py)):=by
 refine FnC.of (N:=45) Tryz.func36 rfl rfl (Nat.le_of_ble_eq_true rfl) (fun w0 ok0=>?_)
 refine Tr.rs [] (.k (bxx .k (.b 0 rfl)) (.k (bxx .k (.b 1 rfl)) (.k (bxx .k (.b 2 rfl)) (.k (asg .k .c) .n)))) [] [0,1,2] rfl rfl ?_
 rcases (show [(ax,ay),(bx,b_y),(px,py)].all fitP=false∨[(ax,ay),(bx,b_y),(px,py)].all fitP=true∧same px py ax ay=true∨[(ax,ay),(bx,b_y),(px,py)].all fitP=true∧same px py ax ay=false∧same px py bx b_y=true∨[(ax,ay),(bx,b_y),(px,py)].all fitP=true∧same px py ax ay=false∧same px py bx b_y=false by cases [(ax,ay),(bx,b_y),(px,py)].all fitP<;>cases same px py ax ay<;>cases same px py bx b_y<;>simp) with hF|⟨hF,s1⟩|⟨hF,s1,s2⟩|⟨hF,s1,s2⟩
 ·
  have hn:=fit3n hF
  refine Tr.seq (Tr.rs [] (.k (ld .k (.b 0 rfl) tyP) (.k (ld .k (.b 1 rfl) tyP) (.k (ld .k (.b 2 rfl) tyP) (.k (mkrow .k rwP (.k (.g 0 rfl) (.k (.g 1 rfl) (.k (.g 2 rfl) .n))) rfl rfl (by kernel_rfl)) (.k (cal .k Tryz.func61 rfl (hF ▸ fn_Fits [(_,_),(_,_),(_,_)] (by simp)) (.k (.g 3 rfl) .n)) (.k (not_ .k (.g 4 rfl)) (.k (mv .k (.g 5 rfl)) (.k (skp (.o 6 rfl rfl rfl)) (.k (skp (.o 6 rfl rfl rfl)) (.k (skp (.o 6 rfl rfl rfl)) (.k (pickT .k (.g 6 rfl) .c) (.k (mv .k (.g 10 rfl)) (.k (skp (.o 11 rfl rfl rfl)) (.k (skp (.o 11 rfl rfl rfl)) (.k (skp (.o 11 rfl rfl rfl)) (.k (pickT .k (.g 11 rfl) .c) .n)))))))))))))))) [0,1,2] [15] rfl rfl ?_)
  refine Tr.cond 3 rfl (fun _=>?_) nofun
  unfold disB;rw [if_pos (.inl hn)]
  refine Tr.rs [] (.k (asg .k .c) .n) [] [0] rfl rfl ?_
  refine Tr.ret (end_tmp 0 rfl rfl)
 ·
  refine Tr.seq (Tr.rs [] (.k (ld .k (.b 0 rfl) tyP) (.k (ld .k (.b 1 rfl) tyP) (.k (ld .k (.b 2 rfl) tyP) (.k (mkrow .k rwP (.k (.g 0 rfl) (.k (.g 1 rfl) (.k (.g 2 rfl) .n))) rfl rfl (by kernel_rfl)) (.k (cal .k Tryz.func61 rfl (hF ▸ fn_Fits [(_,_),(_,_),(_,_)] (by simp)) (.k (.g 3 rfl) .n)) (.k (not_ .k (.g 4 rfl)) (.k (mv .k (.g 5 rfl)) (.k (ld (.o 6 rfl rfl rfl) (.b 2 rfl) tyP) (.k (ld (.o 6 rfl rfl rfl) (.b 0 rfl) tyP) (.k (eqS_ (.o 6 rfl rfl rfl) ptG (.g 7 rfl) (.g 8 rfl) (eqP _ _ _ _) s1) (.k (pickF .k (.g 6 rfl) (.g 9 rfl)) (.k (mv .k (.g 10 rfl)) (.k (skp (.o 11 rfl rfl rfl)) (.k (skp (.o 11 rfl rfl rfl)) (.k (skp (.o 11 rfl rfl rfl)) (.k (pickT .k (.g 11 rfl) .c) .n)))))))))))))))) [0,1,2] [15] rfl rfl ?_)
  refine Tr.cond 3 rfl (fun _=>?_) nofun
  unfold disB;rw [if_pos (.inr (.inl s1))]
  refine Tr.rs [] (.k (asg .k .c) .n) [] [0] rfl rfl ?_
  refine Tr.ret (end_tmp 0 rfl rfl)
 ·
  refine Tr.seq (Tr.rs [] (.k (ld .k (.b 0 rfl) tyP) (.k (ld .k (.b 1 rfl) tyP) (.k (ld .k (.b 2 rfl) tyP) (.k (mkrow .k rwP (.k (.g 0 rfl) (.k (.g 1 rfl) (.k (.g 2 rfl) .n))) rfl rfl (by kernel_rfl)) (.k (cal .k Tryz.func61 rfl (hF ▸ fn_Fits [(_,_),(_,_),(_,_)] (by simp)) (.k (.g 3 rfl) .n)) (.k (not_ .k (.g 4 rfl)) (.k (mv .k (.g 5 rfl)) (.k (ld (.o 6 rfl rfl rfl) (.b 2 rfl) tyP) (.k (ld (.o 6 rfl rfl rfl) (.b 0 rfl) tyP) (.k (eqS_ (.o 6 rfl rfl rfl) ptG (.g 7 rfl) (.g 8 rfl) (eqP _ _ _ _) s1) (.k (pickF .k (.g 6 rfl) (.g 9 rfl)) (.k (mv .k (.g 10 rfl)) (.k (ld (.o 11 rfl rfl rfl) (.b 2 rfl) tyP) (.k (ld (.o 11 rfl rfl rfl) (.b 1 rfl) tyP) (.k (eqS_ (.o 11 rfl rfl rfl) ptG (.g 12 rfl) (.g 13 rfl) (eqP _ _ _ _) s2) (.k (pickF .k (.g 11 rfl) (.g 14 rfl)) .n)))))))))))))))) [0,1,2] [15] rfl rfl ?_)
  refine Tr.cond 3 rfl (fun _=>?_) nofun
  unfold disB;rw [if_pos (.inr (.inr s2))]
  refine Tr.rs [] (.k (asg .k .c) .n) [] [0] rfl rfl ?_
  refine Tr.ret (end_tmp 0 rfl rfl)
 ·
  obtain ⟨f1,f2,f3⟩:=fit3 hF
  refine Tr.seq (Tr.rs [] (.k (ld .k (.b 0 rfl) tyP) (.k (ld .k (.b 1 rfl) tyP) (.k (ld .k (.b 2 rfl) tyP) (.k (mkrow .k rwP (.k (.g 0 rfl) (.k (.g 1 rfl) (.k (.g 2 rfl) .n))) rfl rfl (by kernel_rfl)) (.k (cal .k Tryz.func61 rfl (hF ▸ fn_Fits [(_,_),(_,_),(_,_)] (by simp)) (.k (.g 3 rfl) .n)) (.k (not_ .k (.g 4 rfl)) (.k (mv .k (.g 5 rfl)) (.k (ld (.o 6 rfl rfl rfl) (.b 2 rfl) tyP) (.k (ld (.o 6 rfl rfl rfl) (.b 0 rfl) tyP) (.k (eqS_ (.o 6 rfl rfl rfl) ptG (.g 7 rfl) (.g 8 rfl) (eqP _ _ _ _) s1) (.k (pickF .k (.g 6 rfl) (.g 9 rfl)) (.k (mv .k (.g 10 rfl)) (.k (ld (.o 11 rfl rfl rfl) (.b 2 rfl) tyP) (.k (ld (.o 11 rfl rfl rfl) (.b 1 rfl) tyP) (.k (eqS_ (.o 11 rfl rfl rfl) ptG (.g 12 rfl) (.g 13 rfl) (eqP _ _ _ _) s2) (.k (pickF .k (.g 11 rfl) (.g 14 rfl)) .n)))))))))))))))) [0,1,2] [15] rfl rfl ?_)
  refine Tr.cond 3 rfl nofun (fun _=>?_)
  refine Tr.skip (Nx.go (?_))
  unfold disB;rw [if_neg (not_or.2 ⟨fun h=>h ⟨f1,f2,f3⟩,not_or.2 ⟨by rw [s1];simp,by rw [s2];simp⟩⟩)]
  refine Tr.ds hmx [] (.k (ld .k (.b 2 rfl) tyP) (.k (ld .k (.b 0 rfl) tyP) (.k (cal .k Tryz.func63 rfl (fn_from f3.x f3.y f1.x f1.y) (.k (.g 0 rfl) (.k (.g 1 rfl) .n))) (.k (ld .k (.b 2 rfl) tyP) (.k (ld .k (.b 1 rfl) tyP) (.k (cal .k Tryz.func63 rfl (fn_from f3.x f3.y f2.x f2.y) (.k (.g 3 rfl) (.k (.g 4 rfl) .n))) (.k (ala .k zP) (.k (ala .k zP) (.k (sta .k (.g 6 rfl) (.g 2 rfl) tyP) (.k (sta .k (.g 7 rfl) (.g 5 rfl) tyP) .n)))))))))) [] [8,9] rfl rfl ?_
  refine Tr.ds hmx [] (.k (faddr .k (.b 0 rfl) rfl fPX) (.k (ldc .k (.g 0 rfl) (.b 0 rfl) tyI) (.k (faddr .k (.b 1 rfl) rfl fPX) (.k (ldc .k (.g 2 rfl) (.b 1 rfl) tyI) (.k (cal .k Tryz.func74 rfl (fn_product (Bd.mono (Bd.sub f1.x f3.x) (by decide)) (Bd.mono (Bd.sub f2.x f3.x) (by decide))) (.k (.g 1 rfl) (.k (.g 3 rfl) .n))) (.k (faddr .k (.b 0 rfl) rfl fPY) (.k (ldc .k (.g 5 rfl) (.b 0 rfl) tyI) (.k (faddr .k (.b 1 rfl) rfl fPY) (.k (ldc .k (.g 7 rfl) (.b 1 rfl) tyI) (.k (cal .k Tryz.func74 rfl (fn_product (Bd.mono (Bd.sub f1.y f3.y) (by decide)) (Bd.mono (Bd.sub f2.y f3.y) (by decide))) (.k (.g 6 rfl) (.k (.g 8 rfl) .n))) (.k (mkrow .k rwW (.k (.g 4 rfl) (.k (.g 9 rfl) .n)) rfl rfl (by kernel_rfl)) (.k (cal .k Tryz.func73 rfl (fn_sum2 (Bd.mono (Bd.mul (Bd.sub f1.x f3.x) (Bd.sub f2.x f3.x)) (by decide)) (Bd.mono (Bd.mul (Bd.sub f1.y f3.y) (Bd.sub f2.y f3.y)) (by decide))) (.k (.g 10 rfl) .n)) (.k (cal .k Tryz.func66 rfl (fn_Sign (tN (Bd.add (Bd.mul (Bd.sub f1.x f3.x) (Bd.sub f2.x f3.x)) (Bd.mul (Bd.sub f1.y f3.y) (Bd.sub f2.y f3.y))) (by decide))) (.k (.g 11 rfl) .n)) (.k (le_ .k (.g 12 rfl) .c rfl) (.k (asg .k (.g 13 rfl)) .n))))))))))))))) [] [14] rfl rfl ?_
  refine Tr.ret (end_tmp 0 rfl rfl)
def midP (ax ay bx b_y:Int):Prop:=fit ax ay∧fit bx b_y∧(ax+bx).tmod 2=0∧(ay+b_y).tmod 2=0
instance (ax ay bx b_y:Int):Decidable (midP ax ay bx b_y):=by unfold midP;infer_instance
end Go.Proofs.YtkgagdjogedoiaaGreat

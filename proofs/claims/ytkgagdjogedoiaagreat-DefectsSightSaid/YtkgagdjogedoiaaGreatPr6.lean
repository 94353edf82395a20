import Derived.Test.YtkgagdjogedoiaaGreatPr4
set_option linter.unusedVariables false
set_option linter.unusedSimpArgs false
namespace Go.Proofs.YtkgagdjogedoiaaGreat
open Go Go.RowKit Go.Proofs.YtkgagdjogedoiaaGreat.Fx Go.Proofs.YtkgagdjogedoiaaGreatW.PrintWords
def sqZ (x y:Int):Int:=x * x+y * y
def tuZ (x y u v:Int):Int:=x * v+-(y * u)
def allZ (ax ay bx b_y cx cy dx dy:Int):Int :=
  sqZ (ax - dx) (ay - dy) * tuZ (bx - dx) (b_y - dy) (cx - dx) (cy - dy)+sqZ (bx - dx) (b_y - dy) * tuZ (cx - dx) (cy - dy) (ax - dx) (ay - dy)+sqZ (cx - dx) (cy - dy) * tuZ (ax - dx) (ay - dy) (bx - dx) (b_y - dy)
def incZ (ax ay bx b_y cx cy dx dy:Int):Int:=if fit ax ay∧fit bx b_y∧fit cx cy∧fit dx dy then sgn (allZ ax ay bx b_y cx cy dx dy) * sgn (areaZ ax ay bx b_y cx cy) else 0
theorem sgn_mul (a b:Int):IntKind.i64.wrap (sgn a * sgn b)=sgn a * sgn b:=by
  rcases sgn_cases a with ⟨e,_⟩|⟨e,_⟩|⟨e,_⟩<;>rcases sgn_cases b with ⟨f,_⟩|⟨f,_⟩|⟨f,_⟩<;>rw [e,f]<;>rfl
theorem eqP (x y u v:Int) (W:World):(Op.equalIn 10000 30 (ptv x y) (ptv u v)).run Tryz.prog W = .ok (x==u && y==v) W:=by
  unfold ptv
  refine eqA_of Tryz.underlying30 (by kernel_rfl) ?_
  refine eqf_cons (by rfl) (by go_simp;rfl) (by go_simp;rfl) (by go_simp) ?_
  exact eqf_last (by rfl) (by go_simp;rfl) (by go_simp;rfl) (by go_simp)
theorem ptG:Tryz.prog.eqGuardType Tryz.prog.depth 30=false:=by kernel_rfl
def same (x y u v:Int):Bool:=x==u && y==v
def discZ (ax ay bx b_y px py:Int):Int:=(ax - px) * (bx - px)+(ay - py) * (b_y - py)
def disB (ax ay bx b_y px py:Int):Bool:=if ¬ (fit ax ay∧fit bx b_y∧fit px py)∨same px py ax ay=true∨same px py bx b_y=true then false else decide (sgn (discZ ax ay bx b_y px py)≤0)
set_option maxRecDepth 100000 in
theorem fn_InDisc {ax ay bx b_y px py:Int}:FnC Tryz.prog 36 [.is (ptv ax ay),.is (ptv bx b_y),.is (ptv px py)] (bv (disB ax ay bx b_y px py)):=by
 refine FnC.of (N:=45) Tryz.func36 rfl rfl (Nat.le_of_ble_eq_true rfl) (fun w0 ok0=>?_)
 refine Tr.rs [] (.k (bxx .k (.b 0 rfl)) (.k (bxx .k (.b 1 rfl)) (.k (bxx .k (.b 2 rfl)) (.k (asg .k .c) .n)))) [] [0,1,2] rfl rfl ?_
 rcases (show [(ax,ay),(bx,b_y),(px,py)].all fitP=false∨[(ax,ay),(bx,b_y),(px,py)].all fitP=true∧same px py ax ay=true∨[(ax,ay),(bx,b_y),(px,py)].all fitP=true∧same px py ax ay=false∧same px py bx b_y=true∨[(ax,ay),(bx,b_y),(px,py)].all fitP=true∧same px py ax ay=false∧same px py bx b_y=false by cases [(ax,ay),(bx,b_y),(px,py)].all fitP<;>cases same px py ax ay<;>cases same px py bx b_y<;>simp) with hF|⟨hF,s1⟩|⟨hF,s1,s2⟩|⟨hF,s1,s2⟩
 ·
  have hn:=fit3n hF
  refine Tr.seq (Tr.rs [] (.k (ld .k (.b 0 rfl) tyP) (.k (ld .k (.b 1 rfl) tyP) (.k (ld .k (.b 2 rfl) tyP) (.k (mkrow .k rwP (.k (.g 0 rfl) (.k (.g 1 rfl) (.k (.g 2 rfl) .n))) rfl rfl (by kernel_rfl)) (.k (cal .k Tryz.func61 rfl (hF ▸ fn_Fits [(_,_),(_,_),(_,_)] (by simp)) (.k (.g 3 rfl) .n)) (.k (not_ .k (.g 4 rfl)) (.k (mv .k (.g 5 rfl)) (.k (skp (.o 6 rfl rfl rfl)) (.k (skp (.o 6 rfl rfl rfl)) (.k (skp (.o 6 rfl rfl rfl)) (.k (pickT .k (.g 6 rfl) .c) (.k (mv .k (.g 10 rfl)) (.k (skp (.o 11 rfl rfl rfl)) (.k (skp (.o 11 rfl rfl rfl)) (.k (skp (.o 11 rfl rfl rfl)) (.k (pickT .k (.g 11 rfl) .c) .n)))))))))))))))) [0,1,2] [15] rfl rfl ?_)
  refine Tr.cond 3 rfl (fun _=>?_) nofun
  unfold disB;rw [if_pos (.inl hn)]
  refine Tr.rs [] (.k (asg .k .c) .n) [] [0] rfl rfl ?_
  refine Tr.ret (end_tmp 0 rfl rfl)
 ·
  refine Tr.seq (Tr.rs [] (.k (ld .k (.b 0 rfl) tyP) (.k (ld .k (.b 1 rfl) tyP) (.k (ld .k (.b 2 rfl) tyP) (.k (mkrow .k rwP (.k (.g 0 rfl) (.k (.g 1 rfl) (.k (.g 2 rfl) .n))) rfl rfl (by kernel_rfl)) (.k (cal .k Tryz.func61 rfl (hF ▸ fn_Fits [(_,_),(_,_),(_,_)] (by simp)) (.k (.g 3 rfl) .n)) (.k (not_ .k (.g 4 rfl)) (.k (mv .k (.g 5 rfl)) (.k (ld (.o 6 rfl rfl rfl) (.b 2 rfl) tyP) (.k (ld (.o 6 rfl rfl rfl) (.b 0 rfl) tyP) (.k (eqS_ (.o 6 rfl rfl rfl) ptG (.g 7 rfl) (.g 8 rfl) (eqP _ _ _ _) s1) (.k (pickF .k (.g 6 rfl) (.g 9 rfl)) (.k (mv .k (.g 10 rfl)) (.k (skp (.o 11 rfl rfl rfl)) (.k (skp (.o 11 rfl rfl rfl)) (.k (skp (.o 11 rfl rfl rfl)) (.k (pickT .k (.g 11 rfl) .c) .n)))))))))))))))) [0,1,2] [15] rfl rfl ?_)
  refine Tr.cond 3 rfl (fun _=>?_) nofun
  unfold disB;rw [if_pos (.inr (.inl s1))]
  refine Tr.rs [] (.k (asg .k .c) .n) [] [0] rfl rfl ?_
  refine Tr.ret (end_tmp 0 rfl rfl)
 ·
  refine Tr.seq (Tr.rs [] (.k (ld .k (.b 0 rfl) tyP) (.k (ld .k (.b 1 rfl) tyP) (.k (ld .k (.b 2 rfl) tyP) (.k (mkrow .k rwP (.k (.g 0 rfl) (.k (.g 1 rfl) (.k (.g 2 rfl) .n))) rfl rfl (by kernel_rfl)) (.k (cal .k Tryz.func61 rfl (hF ▸ fn_Fits [(_,_),(_,_),(_,_)] (by simp)) (.k (.g 3 rfl) .n)) (.k (not_ .k (.g 4 rfl)) (.k (mv .k (.g 5 rfl)) (.k (ld (.o 6 rfl rfl rfl) (.b 2 rfl) tyP) (.k (ld (.o 6 rfl rfl rfl) (.b 0 rfl) tyP) (.k (eqS_ (.o 6 rfl rfl rfl) ptG (.g 7 rfl) (.g 8 rfl) (eqP _ _ _ _) s1) (.k (pickF .k (.g 6 rfl) (.g 9 rfl)) (.k (mv .k (.g 10 rfl)) (.k (ld (.o 11 rfl rfl rfl) (.b 2 rfl) tyP) (.k (ld (.o 11 rfl rfl rfl) (.b 1 rfl) tyP) (.k (eqS_ (.o 11 rfl rfl rfl) ptG (.g 12 rfl) (.g 13 rfl) (eqP _ _ _ _) s2) (.k (pickF .k (.g 11 rfl) (.g 14 rfl)) .n)))))))))))))))) [0,1,2] [15] rfl rfl ?_)
  refine Tr.cond 3 rfl (fun _=>?_) nofun
  unfold disB;rw [if_pos (.inr (.inr s2))]
  refine Tr.rs [] (.k (asg .k .c) .n) [] [0] rfl rfl ?_
  refine Tr.ret (end_tmp 0 rfl rfl)
 ·
  obtain ⟨f1,f2,f3⟩:=fit3 hF
  refine Tr.seq (Tr.rs [] (.k (ld .k (.b 0 rfl) tyP) (.k (ld .k (.b 1 rfl) tyP) (.k (ld .k (.b 2 rfl) tyP) (.k (mkrow .k rwP (.k (.g 0 rfl) (.k (.g 1 rfl) (.k (.g 2 rfl) .n))) rfl rfl (by kernel_rfl)) (.k (cal .k Tryz.func61 rfl (hF ▸ fn_Fits [(_,_),(_,_),(_,_)] (by simp)) (.k (.g 3 rfl) .n)) (.k (not_ .k (.g 4 rfl)) (.k (mv .k (.g 5 rfl)) (.k (ld (.o 6 rfl rfl rfl) (.b 2 rfl) tyP) (.k (ld (.o 6 rfl rfl rfl) (.b 0 rfl) tyP) (.k (eqS_ (.o 6 rfl rfl rfl) ptG (.g 7 rfl) (.g 8 rfl) (eqP _ _ _ _) s1) (.k (pickF .k (.g 6 rfl) (.g 9 rfl)) (.k (mv .k (.g 10 rfl)) (.k (ld (.o 11 rfl rfl rfl) (.b 2 rfl) tyP) (.k (ld (.o 11 rfl rfl rfl) (.b 1 rfl) tyP) (.k (eqS_ (.o 11 rfl rfl rfl) ptG (.g 12 rfl) (.g 13 rfl) (eqP _ _ _ _) s2) (.k (pickF .k (.g 11 rfl) (.g 14 rfl)) .n)))))))))))))))) [0,1,2] [15] rfl rfl ?_)
  refine Tr.cond 3 rfl nofun (fun _=>?_)
  refine Tr.skip (Nx.go (?_))
  unfold disB;rw [if_neg (not_or.2 ⟨fun h=>h ⟨f1,f2,f3⟩,not_or.2 ⟨by rw [s1];simp,by rw [s2];simp⟩⟩)]
  refine Tr.ds hmx [] (.k (ld .k (.b 2 rfl) tyP) (.k (ld .k (.b 0 rfl) tyP) (.k (cal .k Tryz.func63 rfl (fn_from f3.x f3.y f1.x f1.y) (.k (.g 0 rfl) (.k (.g 1 rfl) .n))) (.k (ld .k (.b 2 rfl) tyP) (.k (ld .k (.b 1 rfl) tyP) (.k (cal .k Tryz.func63 rfl (fn_from f3.x f3.y f2.x f2.y) (.k (.g 3 rfl) (.k (.g 4 rfl) .n))) (.k (ala .k zP) (.k (ala .k zP) (.k (sta .k (.g 6 rfl) (.g 2 rfl) tyP) (.k (sta .k (.g 7 rfl) (.g 5 rfl) tyP) .n)))))))))) [] [8,9] rfl rfl ?_
  refine Tr.ds hmx [] (.k (faddr .k (.b 0 rfl) rfl fPX) (.k (ldc .k (.g 0 rfl) (.b 0 rfl) tyI) (.k (faddr .k (.b 1 rfl) rfl fPX) (.k (ldc .k (.g 2 rfl) (.b 1 rfl) tyI) (.k (cal .k Tryz.func74 rfl (fn_product (Bd.mono (Bd.sub f1.x f3.x) (by decide)) (Bd.mono (Bd.sub f2.x f3.x) (by decide))) (.k (.g 1 rfl) (.k (.g 3 rfl) .n))) (.k (faddr .k (.b 0 rfl) rfl fPY) (.k (ldc .k (.g 5 rfl) (.b 0 rfl) tyI) (.k (faddr .k (.b 1 rfl) rfl fPY) (.k (ldc .k (.g 7 rfl) (.b 1 rfl) tyI) (.k (cal .k Tryz.func74 rfl (fn_product (Bd.mono (Bd.sub f1.y f3.y) (by decide)) (Bd.mono (Bd.sub f2.y f3.y) (by decide))) (.k (.g 6 rfl) (.k (.g 8 rfl) .n))) (.k (mkrow .k rwW (.k (.g 4 rfl) (.k (.g 9 rfl) .n)) rfl rfl (by kernel_rfl)) (.k (cal .k Tryz.func73 rfl (fn_sum2 (Bd.mono (Bd.mul (Bd.sub f1.x f3.x) (Bd.sub f2.x f3.x)) (by decide)) (Bd.mono (Bd.mul (Bd.sub f1.y f3.y) (Bd.sub f2.y f3.y)) (by decide))) (.k (.g 10 rfl) .n)) (.k (cal .k Tryz.func66 rfl (fn_Sign (tN (Bd.add (Bd.mul (Bd.sub f1.x f3.x) (Bd.sub f2.x f3.x)) (Bd.mul (Bd.sub f1.y f3.y) (Bd.sub f2.y f3.y))) (by decide))) (.k (.g 11 rfl) .n)) (.k (le_ .k (.g 12 rfl) .c rfl) (.k (asg .k (.g 13 rfl)) .n))))))))))))))) [] [14] rfl rfl ?_
  refine Tr.ret (end_tmp 0 rfl rfl)
def midP (ax ay bx b_y:Int):Prop:=fit ax ay∧fit bx b_y∧(ax+bx).tmod 2=0∧(ay+b_y).tmod 2=0
instance (ax ay bx b_y:Int):Decidable (midP ax ay bx b_y):=by unfold midP;infer_instance
end Go.Proofs.YtkgagdjogedoiaaGreat

set_option linter.unusedVariables false
set_option linter.unusedSimpArgs false
namespace Go.Proofs.YtkgagdjogedoiaaGreat
open Go Go.RowKit Go.Proofs.YtkgagdjogedoiaaGreat.Fx Go.Proofs.YtkgagdjogedoiaaGreatW.PrintWords
theorem sgn_gt {z:Int}:sgn z > 0↔z > 0:=by rcases sgn_cases z with ⟨e,h⟩|⟨e,h⟩|⟨e,h⟩<;>rw [e]<;>omega
theorem sgn_gtD (z:Int):decide (sgn z > 0)=decide (z > 0):=decide_eq_decide.2 sgn_gt
theorem sgn_eq {z:Int}:sgn z=0↔z=0:=by rcases sgn_cases z with ⟨e,h⟩|⟨e,h⟩|⟨e,h⟩<;>rw [e]<;>omega
def mnZ (x y:Int):Int:=if x - y > 0 then y else x
def mxZ (x y:Int):Int:=if x - y > 0 then x else y
theorem Bd.mn {k:Nat} {x y:Int} (hx:Bd k x) (hy:Bd k y):Bd k (mnZ x y):=by unfold mnZ;split<;>assumption
theorem Bd.mx {k:Nat} {x y:Int} (hx:Bd k x) (hy:Bd k y):Bd k (mxZ x y):=by unfold mxZ;split<;>assumption
def skZ (x y z t:Int):Bool:=decide (t=0) || decide (mxZ (mnZ x z) y * mxZ x z - 8 * t * t > 0)
def wayZ (ax ay bx b_y:Int):Int:=sqZ (bx - ax) (b_y - ay)
def turZ (ax ay bx b_y cx cy:Int):Int:=tuZ (bx - ax) (b_y - ay) (cx - ax) (cy - ay)
def skB (ax ay bx b_y cx cy:Int):Bool:=if fit ax ay∧fit bx b_y∧fit cx cy then skZ (wayZ ax ay bx b_y) (wayZ bx b_y cx cy) (wayZ cx cy ax ay) (turZ ax ay bx b_y cx cy) else false
theorem way_bd {ax ay bx b_y:Int} (ha:fit ax ay) (hb:fit bx b_y):Bd 69 (wayZ ax ay bx b_y):=Bd.add (Bd.mul (Bd.sub hb.x ha.x) (Bd.sub hb.x ha.x)) (Bd.mul (Bd.sub hb.y ha.y) (Bd.sub hb.y ha.y))
theorem fn_way {ax ay bx b_y:Int} (ha:fit ax ay) (hb:fit bx b_y):FnC Tryz.prog 62 [.is (ptv (bx - ax) (b_y - ay))] (.is (wv (wayZ ax ay bx b_y))):=fn_square ((Bd.sub hb.x ha.x).mono (by decide)) ((Bd.sub hb.y ha.y).mono (by decide))
theorem fn_tur {ax ay bx b_y cx cy:Int} (ha:fit ax ay) (hb:fit bx b_y) (hc:fit cx cy):FnC Tryz.prog 65 [.is (ptv (bx - ax) (b_y - ay)),.is (ptv (cx - ax) (cy - ay))] (.is (wv (turZ ax ay bx b_y cx cy))):=fn_turn ((Bd.sub hb.x ha.x).mono (by decide)) ((Bd.sub hb.y ha.y).mono (by decide)) ((Bd.sub hc.x ha.x).mono (by decide)) ((Bd.sub hc.y ha.y).mono (by decide))
theorem tur_bd {ax ay bx b_y cx cy:Int} (ha:fit ax ay) (hb:fit bx b_y) (hc:fit cx cy):Bd 69 (turZ ax ay bx b_y cx cy):=Bd.add (Bd.mul (Bd.sub hb.x ha.x) (Bd.sub hc.y ha.y)) (Bd.neg (Bd.mul (Bd.sub hb.y ha.y) (Bd.sub hc.x ha.x)))
set_option maxRecDepth 100000 in
theorem fn_Skinny {ax ay bx b_y cx cy:Int}:FnC Tryz.prog 33 [.is (ptv ax ay),.is (ptv bx b_y),.is (ptv cx cy)] (bv (skB ax ay bx b_y cx cy)):=by
 refine FnC.of (N:=64) Tryz.func33 rfl rfl (Nat.le_of_ble_eq_true rfl) (fun w0 ok0=>?_)
 refine Tr.rs [] (.k (bxx .k (.b 0 rfl)) (.k (bxx .k (.b 1 rfl)) (.k (bxx .k (.b 2 rfl)) (.k (asg .k .c) .n)))) [] [0,1,2] rfl rfl ?_
 cases hF:[(ax,ay),(bx,b_y),(cx,cy)].all fitP
 ·
  have hn:=fit3n hF
  refine Tr.seq (Tr.rs [] (.k (ld .k (.b 0 rfl) tyP) (.k (ld .k (.b 1 rfl) tyP) (.k (ld .k (.b 2 rfl) tyP) (.k (mkrow .k rwP (.k (.g 0 rfl) (.k (.g 1 rfl) (.k (.g 2 rfl) .n))) rfl rfl (by kernel_rfl)) (.k (cal .k Tryz.func61 rfl (hF ▸ fn_Fits [(_,_),(_,_),(_,_)] (by simp)) (.k (.g 3 rfl) .n)) (.k (not_ .k (.g 4 rfl)) .n)))))) [0,1,2] [5] rfl rfl ?_)
  refine Tr.cond 3 rfl (fun _=>?_) nofun
  unfold skB;rw [if_neg hn]
  refine Tr.rs [] (.k (asg .k .c) .n) [] [0] rfl rfl ?_
  refine Tr.ret (end_tmp 0 rfl rfl)
 ·
  obtain ⟨f1,f2,f3⟩:=fit3 hF
  refine Tr.seq (Tr.rs [] (.k (ld .k (.b 0 rfl) tyP) (.k (ld .k (.b 1 rfl) tyP) (.k (ld .k (.b 2 rfl) tyP) (.k (mkrow .k rwP (.k (.g 0 rfl) (.k (.g 1 rfl) (.k (.g 2 rfl) .n))) rfl rfl (by kernel_rfl)) (.k (cal .k Tryz.func61 rfl (hF ▸ fn_Fits [(_,_),(_,_),(_,_)] (by simp)) (.k (.g 3 rfl) .n)) (.k (not_ .k (.g 4 rfl)) .n)))))) [0,1,2] [5] rfl rfl ?_)
  refine Tr.cond 3 rfl nofun (fun _=>?_)
  refine Tr.skip (Nx.go (?_))
  unfold skB;rw [if_pos ⟨f1,f2,f3⟩]
  refine Tr.ds hmx [] (.k (ld .k (.b 0 rfl) tyP) (.k (ld .k (.b 1 rfl) tyP) (.k (cal .k Tryz.func63 rfl (fn_from f1.x f1.y f2.x f2.y) (.k (.g 0 rfl) (.k (.g 1 rfl) .n))) (.k (cal .k Tryz.func62 rfl (fn_way f1 f2) (.k (.g 2 rfl) .n)) (.k (ld .k (.b 1 rfl) tyP) (.k (ld .k (.b 2 rfl) tyP) (.k (cal .k Tryz.func63 rfl (fn_from f2.x f2.y f3.x f3.y) (.k (.g 4 rfl) (.k (.g 5 rfl) .n))) (.k (cal .k Tryz.func62 rfl (fn_way f2 f3) (.k (.g 6 rfl) .n)) (.k (ld .k (.b 2 rfl) tyP) (.k (ld .k (.b 0 rfl) tyP) (.k (cal .k Tryz.func63 rfl (fn_from f3.x f3.y f1.x f1.y) (.k (.g 8 rfl) (.k (.g 9 rfl) .n))) (.k (cal .k Tryz.func62 rfl (fn_way f3 f1) (.k (.g 10 rfl) .n)) (.k (ala .k zW) (.k (ala .k zW) (.k (ala .k zW) (.k (sta .k (.g 12 rfl) (.g 3 rfl) tyW) (.k (sta .k (.g 13 rfl) (.g 7 rfl) tyW) (.k (sta .k (.g 14 rfl) (.g 11 rfl) tyW) .n)))))))))))))))))) [0,1,2] [15,16,17] rfl rfl ?_
  refine Tr.cut [.b 3 (.is (ptv ax ay)) 30 2,.b 4 (.is (ptv bx b_y)) 30 2,.b 5 (.is (ptv cx cy)) 30 2,.b 7 (.is (wv (mnZ (wayZ ax ay bx b_y) (wayZ cx cy ax ay)))) 96 5,.b 8 (.is (wv (wayZ bx b_y cx cy))) 96 5,.b 9 (.is (wv (mxZ (wayZ ax ay bx b_y) (wayZ cx cy ax ay)))) 96 5] ?_ ?_
  ·
   refine Tr.rs [] (.k (ld .k (.b 3 rfl) tyW) (.k (ld .k (.b 5 rfl) tyW) (.k (cal .k Tryz.func64 rfl (fn_Cmp (tN (way_bd f1 f2) (by decide)) (tN (way_bd f3 f1) (by decide))) (.k (.g 0 rfl) (.k (.g 1 rfl) .n))) (.k (gt_ .k (.g 2 rfl) .c rfl) .n)))) [0,1,2,3,4,5] [3] rfl rfl ?_
   refine Tr.cond 6 rfl (fun e32=>?_) (fun e32=>?_)
   ·
    refine Tr.reg [(3,2),(5,3)] (.k (ld .k (.b 5 rfl) tyW) (.k (ld .k (.b 3 rfl) tyW) (.k (sto .k (.b 3 rfl) (.g 0 rfl) tyW) (.k (sto .k (.b 5 rfl) (.g 1 rfl) tyW) .n)))) [0,1,2,4] [2,3] rfl rfl (?_)
    have c1:wayZ ax ay bx b_y - wayZ cx cy ax ay > 0:=sgn_gt.1 (of_decide_eq_true e32)
    unfold mnZ mxZ
    rw [if_pos c1,if_pos c1]
    refine Nx.met _ (Sub.all (.cons 0 rfl (.cons 1 rfl (.cons 2 rfl (.cons 4 rfl (.cons 3 rfl (.cons 5 rfl .nil)))))))
   ·
    refine Tr.skip (?_)
    have c1:¬ wayZ ax ay bx b_y - wayZ cx cy ax ay > 0:=fun h=>of_decide_eq_false e32 (sgn_gt.2 h)
    unfold mnZ mxZ
    rw [if_neg c1,if_neg c1]
    refine Nx.met _ (Sub.all (.cons 0 rfl (.cons 1 rfl (.cons 2 rfl (.cons 3 rfl (.cons 4 rfl (.cons 5 rfl .nil)))))))
  ·
   refine Tr.cut [.b 3 (.is (ptv ax ay)) 30 2,.b 4 (.is (ptv bx b_y)) 30 2,.b 5 (.is (ptv cx cy)) 30 2,.b 8 (.is (wv (mxZ (mnZ (wayZ ax ay bx b_y) (wayZ cx cy ax ay)) (wayZ bx b_y cx cy)))) 96 5,.b 9 (.is (wv (mxZ (wayZ ax ay bx b_y) (wayZ cx cy ax ay)))) 96 5] ?_ ?_
   ·
    refine Tr.rs [] (.k (ld .k (.b 3 rfl) tyW) (.k (ld .k (.b 4 rfl) tyW) (.k (cal .k Tryz.func64 rfl (fn_Cmp (tN (Bd.mn (way_bd f1 f2) (way_bd f3 f1)) (by decide)) (tN (way_bd f2 f3) (by decide))) (.k (.g 0 rfl) (.k (.g 1 rfl) .n))) (.k (gt_ .k (.g 2 rfl) .c rfl) .n)))) [0,1,2,3,4,5] [3] rfl rfl ?_
    refine Tr.cond 6 rfl (fun e38=>?_) (fun e38=>?_)
    ·
     refine Tr.reg [(3,2),(4,3)] (.k (ld .k (.b 4 rfl) tyW) (.k (ld .k (.b 3 rfl) tyW) (.k (sto .k (.b 3 rfl) (.g 0 rfl) tyW) (.k (sto .k (.b 4 rfl) (.g 1 rfl) tyW) .n)))) [0,1,2,5] [3] rfl rfl (?_)
     have c2:mnZ (wayZ ax ay bx b_y) (wayZ cx cy ax ay) - wayZ bx b_y cx cy > 0:=sgn_gt.1 (of_decide_eq_true e38)
     rw [show mxZ (mnZ (wayZ ax ay bx b_y) (wayZ cx cy ax ay)) (wayZ bx b_y cx cy)=mnZ (wayZ ax ay bx b_y) (wayZ cx cy ax ay) from if_pos c2]
     refine Nx.met _ (Sub.all (.cons 0 rfl (.cons 1 rfl (.cons 2 rfl (.cons 4 rfl (.cons 3 rfl .nil))))))
    ·
     refine Tr.skip (?_)
     have c2:¬ mnZ (wayZ ax ay bx b_y) (wayZ cx cy ax ay) - wayZ bx b_y cx cy > 0:=fun h=>of_decide_eq_false e38 (sgn_gt.2 h)
     rw [show mxZ (mnZ (wayZ ax ay bx b_y) (wayZ cx cy ax ay)) (wayZ bx b_y cx cy)=wayZ bx b_y cx cy from if_neg c2]
     refine Nx.met _ (Sub.all (.cons 0 rfl (.cons 1 rfl (.cons 2 rfl (.cons 4 rfl (.cons 5 rfl .nil))))))
   ·
    refine Tr.ds hmx [] (.k (ld .k (.b 0 rfl) tyP) (.k (ld .k (.b 1 rfl) tyP) (.k (cal .k Tryz.func63 rfl (fn_from f1.x f1.y f2.x f2.y) (.k (.g 0 rfl) (.k (.g 1 rfl) .n))) (.k (ld .k (.b 0 rfl) tyP) (.k (ld .k (.b 2 rfl) tyP) (.k (cal .k Tryz.func63 rfl (fn_from f1.x f1.y f3.x f3.y) (.k (.g 3 rfl) (.k (.g 4 rfl) .n))) (.k (cal .k Tryz.func65 rfl (fn_tur f1 f2 f3) (.k (.g 2 rfl) (.k (.g 5 rfl) .n))) (.k (ala .k zW) (.k (sta .k (.g 7 rfl) (.g 6 rfl) tyW) .n))))))))) [3,4] [8] rfl rfl ?_
    by_cases c3:turZ ax ay bx b_y cx cy=0
    ·
     have e3:sgn (turZ ax ay bx b_y cx cy)=0:=sgn_eq.2 c3
     rw [show skZ (wayZ ax ay bx b_y) (wayZ bx b_y cx cy) (wayZ cx cy ax ay) (turZ ax ay bx b_y cx cy)=true by unfold skZ;rw [decide_eq_true c3,Bool.true_or]]
     refine Tr.ds hmx [] (.k (ld .k (.b 2 rfl) tyW) (.k (cal .k Tryz.func66 rfl (fn_Sign (tN (tur_bd f1 f2 f3) (by decide))) (.k (.g 0 rfl) .n)) (.k (eq_ .k (.g 1 rfl) .c (show (_==(0:Int))=true by simpa using e3)) (.k (mv .k (.g 2 rfl)) (.k (skp (.o 3 rfl rfl rfl)) (.k (skp (.o 3 rfl rfl rfl)) (.k (skp (.o 3 rfl rfl rfl)) (.k (skp (.o 3 rfl rfl rfl)) (.k (skp (.o 3 rfl rfl rfl)) (.k (skp (.o 3 rfl rfl rfl)) (.k (skp (.o 3 rfl rfl rfl)) (.k (skp (.o 3 rfl rfl rfl)) (.k (skp (.o 3 rfl rfl rfl)) (.k (skp (.o 3 rfl rfl rfl)) (.k (skp (.o 3 rfl rfl rfl)) (.k (pickT .k (.g 3 rfl) .c) (.k (asg .k (.g 15 rfl)) .n))))))))))))))))) [] [16] rfl rfl ?_
     refine Tr.ret (end_tmp 0 rfl rfl)
    ·
     have e3:¬ sgn (turZ ax ay bx b_y cx cy)=0:=fun h=>c3 (sgn_eq.1 h)
     rw [show skZ (wayZ ax ay bx b_y) (wayZ bx b_y cx cy) (wayZ cx cy ax ay) (turZ ax ay bx b_y cx cy)=decide (mxZ (mnZ (wayZ ax ay bx b_y) (wayZ cx cy ax ay)) (wayZ bx b_y cx cy) * mxZ (wayZ ax ay bx b_y) (wayZ cx cy ax ay) - 8 * turZ ax ay bx b_y cx cy * turZ ax ay bx b_y cx cy > 0) by unfold skZ;rw [decide_eq_false c3,Bool.false_or]]
     refine Tr.ds hmx [] (.k (ld .k (.b 2 rfl) tyW) (.k (cal .k Tryz.func66 rfl (fn_Sign (tN (tur_bd f1 f2 f3) (by decide))) (.k (.g 0 rfl) .n)) (.k (eq_ .k (.g 1 rfl) .c (show (_==(0:Int))=false by simpa using e3)) (.k (mv .k (.g 2 rfl)) (.k (ld (.o 3 rfl rfl rfl) (.b 0 rfl) tyW) (.k (ld (.o 3 rfl rfl rfl) (.b 1 rfl) tyW) (.k (mkrow (.o 3 rfl rfl rfl) rwW (.k (.g 4 rfl) (.k (.g 5 rfl) .n)) rfl rfl (by kernel_rfl)) (.k (cal (.o 3 rfl rfl rfl) Tryz.func67 rfl (fn_times2 (Bd.mono (Bd.mx (Bd.mn (way_bd f1 f2) (way_bd f3 f1)) (way_bd f2 f3)) (by decide)) (Bd.mono (Bd.mx (way_bd f1 f2) (way_bd f3 f1)) (by decide))) (.k (.g 6 rfl) .n)) (.k (cal (.o 3 rfl rfl rfl) Tryz.func68 rfl (fn_Of (lN (show Bd 4 (8) by decide) (by decide)).1 (lN (show Bd 4 (8) by decide) (by decide)).2) (.k .c .n)) (.k (ld (.o 3 rfl rfl rfl) (.b 2 rfl) tyW) (.k (ld (.o 3 rfl rfl rfl) (.b 2 rfl) tyW) (.k (mkrow (.o 3 rfl rfl rfl) rwW (.k (.g 8 rfl) (.k (.g 9 rfl) (.k (.g 10 rfl) .n))) rfl rfl (by kernel_rfl)) (.k (cal (.o 3 rfl rfl rfl) Tryz.func67 rfl (fn_times3 (Bd.mono (show Bd 4 (8) by decide) (by decide)) (Bd.mono (tur_bd f1 f2 f3) (by decide)) (Bd.mono (tur_bd f1 f2 f3) (by decide))) (.k (.g 11 rfl) .n)) (.k (cal (.o 3 rfl rfl rfl) Tryz.func64 rfl (fn_Cmp (tN (Bd.mul (Bd.mx (Bd.mn (way_bd f1 f2) (way_bd f3 f1)) (way_bd f2 f3)) (Bd.mx (way_bd f1 f2) (way_bd f3 f1))) (by decide)) (tN (Bd.mul (Bd.mul (show Bd 4 (8) by decide) (tur_bd f1 f2 f3)) (tur_bd f1 f2 f3)) (by decide))) (.k (.g 7 rfl) (.k (.g 12 rfl) .n))) (.k (gt_ (.o 3 rfl rfl rfl) (.g 13 rfl) .c (sgn_gtD _)) (.k (pickF .k (.g 3 rfl) (.g 14 rfl)) (.k (asg .k (.g 15 rfl)) .n))))))))))))))))) [] [16] rfl rfl ?_
     refine Tr.ret (end_tmp 0 rfl rfl)
open Classical in
def oriL (ps:List (Int × Int)) (j k i:Nat):Int:=oriZ (ps.getD j (0,0)).1 (ps.getD j (0,0)).2 (ps.getD k (0,0)).1 (ps.getD k (0,0)).2 (ps.getD i (0,0)).1 (ps.getD i (0,0)).2
def convB (ps:List (Int × Int)):Bool:=((List.range ps.length).all fun i=>(List.range i).all fun k=>(List.range k).all fun j=>decide (oriL ps j k i=1)) && decide (2 < ps.length)
theorem conv_not {ps:List (Int × Int)} {i k j:Nat} (hi:i < ps.length) (hk:k < i) (hj:j < k) (h:oriL ps j k i≠1):convB ps=false:=by
  unfold convB
  rw [Bool.and_eq_false_iff]
  left
  rw [List.all_eq_false]
  refine ⟨i,List.mem_range.2 hi,?_⟩
  rw [Bool.not_eq_true,List.all_eq_false]
  refine ⟨k,List.mem_range.2 hk,?_⟩
  rw [Bool.not_eq_true,List.all_eq_false]
  exact ⟨j,List.mem_range.2 hj,by simpa using h⟩
theorem conv_so {ps:List (Int × Int)} (h:∀ i,i < ps.length→∀ k,k < i→∀ j,j < k→oriL ps j k i=1):convB ps=decide ((ps.length:Int) > 2):=by
  unfold convB
  have:((List.range ps.length).all fun i=>(List.range i).all fun k=>(List.range k).all fun j=>decide (oriL ps j k i=1))=true:=by
    simp only [List.all_eq_true,List.mem_range,decide_eq_true_eq]
    exact h
  rw [this,Bool.true_and]
  exact decide_eq_decide.2 (by omega)
theorem oriL_at {ps:List (Int × Int)} {j k i:Nat} {x1 y1 x2 y2 x3 y3:Int} (h1:ps[j]?=some (x1,y1)) (h2:ps[k]?=some (x2,y2)) (h3:ps[i]?=some (x3,y3)):oriL ps j k i=oriZ x1 y1 x2 y2 x3 y3:=by
  unfold oriL
  rw [List.getD_eq_getElem?_getD,List.getD_eq_getElem?_getD,List.getD_eq_getElem?_getD,h1,h2,h3]
  rfl
end Go.Proofs.YtkgagdjogedoiaaGreat

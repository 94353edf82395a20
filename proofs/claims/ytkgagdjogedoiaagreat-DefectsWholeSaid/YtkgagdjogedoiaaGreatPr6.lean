/- The shortest side's circle, its centre, and rows that turn left, walked. -/
import Derived.Test.YtkgagdjogedoiaaGreatPr5
set_option linter.unusedVariables false
set_option linter.unusedSimpArgs false
namespace Go.Proofs.YtkgagdjogedoiaaGreat
open Go Go.RowKit Go.Proofs.YtkgagdjogedoiaaGreat.Fx Go.Proofs.YtkgagdjogedoiaaGreatW.PrintWords
theorem sgn_gt {z:Int}:sgn z > 0↔z > 0:=by rcases sgn_cases z with ⟨e,h⟩|⟨e,h⟩|⟨e,h⟩<;>rw [e]<;>omega
theorem sgn_gtD (z:Int):decide (sgn z > 0)=decide (z > 0):=decide_eq_decide.2 sgn_gt
theorem sgn_eq {z:Int}:sgn z=0↔z=0:=by rcases sgn_cases z with ⟨e,h⟩|⟨e,h⟩|⟨e,h⟩<;>rw [e]<;>omega
def mnZ (x y:Int):Int:=if x - y > 0 then y else x
def mxZ (x y:Int):Int:=if x - y > 0 then x else y
theorem Bd.mn {k:Nat} {x y:Int} (hx:Bd k x) (hy:Bd k y):Bd k (mnZ x y):=by unfold mnZ;split<;>assumption
theorem Bd.mx {k:Nat} {x y:Int} (hx:Bd k x) (hy:Bd k y):Bd k (mxZ x y):=by unfold mxZ;split<;>assumption
def skZ (x y z t:Int):Bool:=decide (t=0) || decide (mxZ (mnZ x z) y * mxZ x z - 8 * t * t > 0)
def wayZ (ax ay bx b_y:Int):Int:=sqZ (bx - ax) (b_y - ay)
def turZ (ax ay bx b_y cx cy:Int):Int:=tuZ (bx - ax) (b_y - ay) (cx - ax) (cy - ay)
def skB (ax ay bx b_y cx cy:Int):Bool:=if fit ax ay∧fit bx b_y∧fit cx cy then skZ (wayZ ax ay bx b_y) (wayZ bx b_y cx cy) (wayZ cx cy ax ay) (turZ ax ay bx b_y cx cy) else false
theorem way_bd {ax ay bx b_y:Int} (ha:fit ax ay) (hb:fit bx b_y):Bd 69 (wayZ ax ay bx b_y):=Bd.add (Bd.mul (Bd.sub hb.x ha.x) (Bd.sub hb.x ha.x)) (Bd.mul (Bd.sub hb.y ha.y) (Bd.sub hb.y ha.y))
theorem fn_way {ax ay bx b_y:Int} (ha:fit ax ay) (hb:fit bx b_y):FnC Tryz.prog 62 [.is (ptv (bx - ax) (b_y - ay))] (.is (wv (wayZ ax ay bx b_y))):=fn_square ((Bd.sub hb.x ha.x).mono (by decide)) ((Bd.sub hb.y ha.y).mono (by decide))
theorem fn_tur {ax ay bx b_y cx cy:Int} (ha:fit ax ay) (hb:fit bx b_y) (hc:fit cx cy):FnC Tryz.prog 65 [.is (ptv (bx - ax) (b_y - ay)),.is (ptv (cx - ax) (cy - ay))] (.is (wv (turZ ax ay bx b_y cx cy))):=fn_turn ((Bd.sub hb.x ha.x).mono (by decide)) ((Bd.sub hb.y ha.y).mono (by decide)) ((Bd.sub hc.x ha.x).mono (by decide)) ((Bd.sub hc.y ha.y).mono (by decide))
theorem tur_bd {ax ay bx b_y cx cy:Int} (ha:fit ax ay) (hb:fit bx b_y) (hc:fit cx cy):Bd 69 (turZ ax ay bx b_y cx cy):=Bd.add (Bd.mul (Bd.sub hb.x ha.x) (Bd.sub hc.y ha.y)) (Bd.neg (Bd.mul (Bd.sub hb.y ha.y) (Bd.sub hc.x ha.x)))
set_option maxRecDepth 100000 in
theorem fn_Skinny {ax ay bx b_y cx cy:Int}:FnC Tryz.prog 33 [.is (ptv ax ay),.is (ptv bx b_y),.is (ptv cx cy)] (bv (skB ax ay bx b_y cx cy)):=by
 refine FnC.of (N:=64) Tryz.func33 rfl rfl (Nat.le_of_ble_eq_true rfl) (fun w0 ok0=>?_)
 refine Tr.rs [] (.k (bxx .k (.b 0 rfl)) (.k (bxx .k (.b 1 rfl)) (.k (bxx .k (.b 2 rfl)) (.k (asg .k .c) .n)))) [] [0,1,2] rfl rfl ?_
 cases hF:[(ax,ay),(bx,b_y),(cx,cy)].all fitP
 ·
  have hn:=fit3n hF
  refine Tr.seq (Tr.rs [] (.k (ld .k (.b 0 rfl) tyP) (.k (ld .k (.b 1 rfl) tyP) (.k (ld .k (.b 2 rfl) tyP) (.k (mkrow .k rwP (.k (.g 0 rfl) (.k (.g 1 rfl) (.k (.g 2 rfl) .n))) rfl rfl (by kernel_rfl)) (.k (cal .k Tryz.func61 rfl (hF ▸ fn_Fits [(_,_),(_,_),(_,_)] (by simp)) (.k (.g 3 rfl) .n)) (.k (not_ .k (.g 4 rfl)) .n)))))) [0,1,2] [5] rfl rfl ?_)
  refine Tr.cond 3 rfl (fun _=>?_) nofun
  unfold skB;rw [if_neg hn]
  refine Tr.rs [] (.k (asg .k .c) .n) [] [0] rfl rfl ?_
  refine Tr.ret (end_tmp 0 rfl rfl)
 ·
  obtain ⟨f1,f2,f3⟩:=fit3 hF
  refine Tr.seq (Tr.rs [] (.k (ld .k (.b 0 rfl) tyP) (.k (ld .k (.b 1 rfl) tyP) (.k (ld .k (.b 2 rfl) tyP) (.k (mkrow .k rwP (.k (.g 0 rfl) (.k (.g 1 rfl) (.k (.g 2 rfl) .n))) rfl rfl (by kernel_rfl)) (.k (cal .k Tryz.func61 rfl (hF ▸ fn_Fits [(_,_),(_,_),(_,_)] (by simp)) (.k (.g 3 rfl) .n)) (.k (not_ .k (.g 4 rfl)) .n)))))) [0,1,2] [5] rfl rfl ?_)
  refine Tr.cond 3 rfl nofun (fun _=>?_)
  refine Tr.skip (Nx.go (?_))
  unfold skB;rw [if_pos ⟨f1,f2,f3⟩]
  refine Tr.ds hmx [] (.k (ld .k (.b 0 rfl) tyP) (.k (ld .k (.b 1 rfl) tyP) (.k (cal .k Tryz.func63 rfl (fn_from f1.x f1.y f2.x f2.y) (.k (.g 0 rfl) (.k (.g 1 rfl) .n))) (.k (cal .k Tryz.func62 rfl (fn_way f1 f2) (.k (.g 2 rfl) .n)) (.k (ld .k (.b 1 rfl) tyP) (.k (ld .k (.b 2 rfl) tyP) (.k (cal .k Tryz.func63 rfl (fn_from f2.x f2.y f3.x f3.y) (.k (.g 4 rfl) (.k (.g 5 rfl) .n))) (.k (cal .k Tryz.func62 rfl (fn_way f2 f3) (.k (.g 6 rfl) .n)) (.k (ld .k (.b 2 rfl) tyP) (.k (ld .k (.b 0 rfl) tyP) (.k (cal .k Tryz.func63 rfl (fn_from f3.x f3.y f1.x f1.y) (.k (.g 8 rfl) (.k (.g 9 rfl) .n))) (.k (cal .k Tryz.func62 rfl (fn_way f3 f1) (.k (.g 10 rfl) .n)) (.k (ala .k zW) (.k (ala .k zW) (.k (ala .k zW) (.k (sta .k (.g 12 rfl) (.g 3 rfl) tyW) (.k (sta .k (.g 13 rfl) (.g 7 rfl) tyW) (.k (sta .k (.g 14 rfl) (.g 11 rfl) tyW) .n)))))))))))))))))) [0,1,2] [15,16,17] rfl rfl ?_
  refine Tr.cut [.b 3 (.is (ptv ax ay)) 30 2,.b 4 (.is (ptv bx b_y)) 30 2,.b 5 (.is (ptv cx cy)) 30 2,.b 7 (.is (wv (mnZ (wayZ ax ay bx b_y) (wayZ cx cy ax ay)))) 96 5,.b 8 (.is (wv (wayZ bx b_y cx cy))) 96 5,.b 9 (.is (wv (mxZ (wayZ ax ay bx b_y) (wayZ cx cy ax ay)))) 96 5] ?_ ?_
  ·
   refine Tr.rs [] (.k (ld .k (.b 3 rfl) tyW) (.k (ld .k (.b 5 rfl) tyW) (.k (cal .k Tryz.func64 rfl (fn_Cmp (tN (way_bd f1 f2) (by decide)) (tN (way_bd f3 f1) (by decide))) (.k (.g 0 rfl) (.k (.g 1 rfl) .n))) (.k (gt_ .k (.g 2 rfl) .c rfl) .n)))) [0,1,2,3,4,5] [3] rfl rfl ?_
   refine Tr.cond 6 rfl (fun e32=>?_) (fun e32=>?_)
   ·
    refine Tr.reg [(3,2),(5,3)] (.k (ld .k (.b 5 rfl) tyW) (.k (ld .k (.b 3 rfl) tyW) (.k (sto .k (.b 3 rfl) (.g 0 rfl) tyW) (.k (sto .k (.b 5 rfl) (.g 1 rfl) tyW) .n)))) [0,1,2,4] [2,3] rfl rfl (?_)
    have c1:wayZ ax ay bx b_y - wayZ cx cy ax ay > 0:=sgn_gt.1 (of_decide_eq_true e32)
    unfold mnZ mxZ
    rw [if_pos c1,if_pos c1]
    refine Nx.met _ (Sub.all (.cons 0 rfl (.cons 1 rfl (.cons 2 rfl (.cons 4 rfl (.cons 3 rfl (.cons 5 rfl .nil)))))))
   ·
    refine Tr.skip (?_)
    have c1:¬ wayZ ax ay bx b_y - wayZ cx cy ax ay > 0:=fun h=>of_decide_eq_false e32 (sgn_gt.2 h)
    unfold mnZ mxZ
    rw [if_neg c1,if_neg c1]
    refine Nx.met _ (Sub.all (.cons 0 rfl (.cons 1 rfl (.cons 2 rfl (.cons 3 rfl (.cons 4 rfl (.cons 5 rfl .nil)))))))
  ·
   refine Tr.cut [.b 3 (.is (ptv ax ay)) 30 2,.b 4 (.is (ptv bx b_y)) 30 2,.b 5 (.is (ptv cx cy)) 30 2,.b 8 (.is (wv (mxZ (mnZ (wayZ ax ay bx b_y) (wayZ cx cy ax ay)) (wayZ bx b_y cx cy)))) 96 5,.b 9 (.is (wv (mxZ (wayZ ax ay bx b_y) (wayZ cx cy ax ay)))) 96 5] ?_ ?_
   ·
    refine Tr.rs [] (.k (ld .k (.b 3 rfl) tyW) (.k (ld .k (.b 4 rfl) tyW) (.k (cal .k Tryz.func64 rfl (fn_Cmp (tN (Bd.mn (way_bd f1 f2) (way_bd f3 f1)) (by decide)) (tN (way_bd f2 f3) (by decide))) (.k (.g 0 rfl) (.k (.g 1 rfl) .n))) (.k (gt_ .k (.g 2 rfl) .c rfl) .n)))) [0,1,2,3,4,5] [3] rfl rfl ?_
    refine Tr.cond 6 rfl (fun e38=>?_) (fun e38=>?_)
    ·
     refine Tr.reg [(3,2),(4,3)] (.k (ld .k (.b 4 rfl) tyW) (.k (ld .k (.b 3 rfl) tyW) (.k (sto .k (.b 3 rfl) (.g 0 rfl) tyW) (.k (sto .k (.b 4 rfl) (.g 1 rfl) tyW) .n)))) [0,1,2,5] [3] rfl rfl (?_)
     have c2:mnZ (wayZ ax ay bx b_y) (wayZ cx cy ax ay) - wayZ bx b_y cx cy > 0:=sgn_gt.1 (of_decide_eq_true e38)
     rw [show mxZ (mnZ (wayZ ax ay bx b_y) (wayZ cx cy ax ay)) (wayZ bx b_y cx cy)=mnZ (wayZ ax ay bx b_y) (wayZ cx cy ax ay) from if_pos c2]
     refine Nx.met _ (Sub.all (.cons 0 rfl (.cons 1 rfl (.cons 2 rfl (.cons 4 rfl (.cons 3 rfl .nil))))))
    ·
     refine Tr.skip (?_)
     have c2:¬ mnZ (wayZ ax ay bx b_y) (wayZ cx cy ax ay) - wayZ bx b_y cx cy > 0:=fun h=>of_decide_eq_false e38 (sgn_gt.2 h)
     rw [show mxZ (mnZ (wayZ ax ay bx b_y) (wayZ cx cy ax ay)) (wayZ bx b_y cx cy)=wayZ bx b_y cx cy from if_neg c2]
     refine Nx.met _ (Sub.all (.cons 0 rfl (.cons 1 rfl (.cons 2 rfl (.cons 4 rfl (.cons 5 rfl .nil))))))
   ·
    refine Tr.ds hmx [] (.k (ld .k (.b 0 rfl) tyP) (.k (ld .k (.b 1 rfl) tyP) (.k (cal .k Tryz.func63 rfl (fn_from f1.x f1.y f2.x f2.y) (.k (.g 0 rfl) (.k (.g 1 rfl) .n))) (.k (ld .k (.b 0 rfl) tyP) (.k (ld .k (.b 2 rfl) tyP) (.k (cal .k Tryz.func63 rfl (fn_from f1.x f1.y f3.x f3.y) (.k (.g 3 rfl) (.k (.g 4 rfl) .n))) (.k (cal .k Tryz.func65 rfl (fn_tur f1 f2 f3) (.k (.g 2 rfl) (.k (.g 5 rfl) .n))) (.k (ala .k zW) (.k (sta .k (.g 7 rfl) (.g 6 rfl) tyW) .n))))))))) [3,4] [8] rfl rfl ?_
    by_cases c3:turZ ax ay bx b_y cx cy=0
    ·
     have e3:sgn (turZ ax ay bx b_y cx cy)=0:=sgn_eq.2 c3
     rw [show skZ (wayZ ax ay bx b_y) (wayZ bx b_y cx cy) (wayZ cx cy ax ay) (turZ ax ay bx b_y cx cy)=true by unfold skZ;rw [decide_eq_true c3,Bool.true_or]]
     refine Tr.ds hmx [] (.k (ld .k (.b 2 rfl) tyW) (.k (cal .k Tryz.func66 rfl (fn_Sign (tN (tur_bd f1 f2 f3) (by decide))) (.k (.g 0 rfl) .n)) (.k (eq_ .k (.g 1 rfl) .c (show (_==(0:Int))=true by simpa using e3)) (.k (mv .k (.g 2 rfl)) (.k (skp (.o 3 rfl rfl rfl)) (.k (skp (.o 3 rfl rfl rfl)) (.k (skp (.o 3 rfl rfl rfl)) (.k (skp (.o 3 rfl rfl rfl)) (.k (skp (.o 3 rfl rfl rfl)) (.k (skp (.o 3 rfl rfl rfl)) (.k (skp (.o 3 rfl rfl rfl)) (.k (skp (.o 3 rfl rfl rfl)) (.k (skp (.o 3 rfl rfl rfl)) (.k (skp (.o 3 rfl rfl rfl)) (.k (skp (.o 3 rfl rfl rfl)) (.k (pickT .k (.g 3 rfl) .c) (.k (asg .k (.g 15 rfl)) .n))))))))))))))))) [] [16] rfl rfl ?_
     refine Tr.ret (end_tmp 0 rfl rfl)
    ·
     have e3:¬ sgn (turZ ax ay bx b_y cx cy)=0:=fun h=>c3 (sgn_eq.1 h)
     rw [show skZ (wayZ ax ay bx b_y) (wayZ bx b_y cx cy) (wayZ cx cy ax ay) (turZ ax ay bx b_y cx cy)=decide (mxZ (mnZ (wayZ ax ay bx b_y) (wayZ cx cy ax ay)) (wayZ bx b_y cx cy) * mxZ (wayZ ax ay bx b_y) (wayZ cx cy ax ay) - 8 * turZ ax ay bx b_y cx cy * turZ ax ay bx b_y cx cy > 0) by unfold skZ;rw [decide_eq_false c3,Bool.false_or]]
     refine Tr.ds hmx [] (.k (ld .k (.b 2 rfl) tyW) (.k (cal .k Tryz.func66 rfl (fn_Sign (tN (tur_bd f1 f2 f3) (by decide))) (.k (.g 0 rfl) .n)) (.k (eq_ .k (.g 1 rfl) .c (show (_==(0:Int))=false by simpa using e3)) (.k (mv .k (.g 2 rfl)) (.k (ld (.o 3 rfl rfl rfl) (.b 0 rfl) tyW) (.k (ld (.o 3 rfl rfl rfl) (.b 1 rfl) tyW) (.k (mkrow (.o 3 rfl rfl rfl) rwW (.k (.g 4 rfl) (.k (.g 5 rfl) .n)) rfl rfl (by kernel_rfl)) (.k (cal (.o 3 rfl rfl rfl) Tryz.func67 rfl (fn_times2 (Bd.mono (Bd.mx (Bd.mn (way_bd f1 f2) (way_bd f3 f1)) (way_bd f2 f3)) (by decide)) (Bd.mono (Bd.mx (way_bd f1 f2) (way_bd f3 f1)) (by decide))) (.k (.g 6 rfl) .n)) (.k (cal (.o 3 rfl rfl rfl) Tryz.func68 rfl (fn_Of (lN (show Bd 4 (8) by decide) (by decide)).1 (lN (show Bd 4 (8) by decide) (by decide)).2) (.k .c .n)) (.k (ld (.o 3 rfl rfl rfl) (.b 2 rfl) tyW) (.k (ld (.o 3 rfl rfl rfl) (.b 2 rfl) tyW) (.k (mkrow (.o 3 rfl rfl rfl) rwW (.k (.g 8 rfl) (.k (.g 9 rfl) (.k (.g 10 rfl) .n))) rfl rfl (by kernel_rfl)) (.k (cal (.o 3 rfl rfl rfl) Tryz.func67 rfl (fn_times3 (Bd.mono (show Bd 4 (8) by decide) (by decide)) (Bd.mono (tur_bd f1 f2 f3) (by decide)) (Bd.mono (tur_bd f1 f2 f3) (by decide))) (.k (.g 11 rfl) .n)) (.k (cal (.o 3 rfl rfl rfl) Tryz.func64 rfl (fn_Cmp (tN (Bd.mul (Bd.mx (Bd.mn (way_bd f1 f2) (way_bd f3 f1)) (way_bd f2 f3)) (Bd.mx (way_bd f1 f2) (way_bd f3 f1))) (by decide)) (tN (Bd.mul (Bd.mul (show Bd 4 (8) by decide) (tur_bd f1 f2 f3)) (tur_bd f1 f2 f3)) (by decide))) (.k (.g 7 rfl) (.k (.g 12 rfl) .n))) (.k (gt_ (.o 3 rfl rfl rfl) (.g 13 rfl) .c (sgn_gtD _)) (.k (pickF .k (.g 3 rfl) (.g 14 rfl)) (.k (asg .k (.g 15 rfl)) .n))))))))))))))))) [] [16] rfl rfl ?_
     refine Tr.ret (end_tmp 0 rfl rfl)
open Classical in
theorem turZ_area (ax ay bx b_y cx cy:Int):turZ ax ay bx b_y cx cy=areaZ ax ay bx b_y cx cy:=by unfold turZ tuZ areaZ;omega
end Go.Proofs.YtkgagdjogedoiaaGreat

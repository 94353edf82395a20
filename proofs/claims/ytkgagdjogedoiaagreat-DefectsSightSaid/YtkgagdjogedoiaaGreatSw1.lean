/- How two segments meet: the document's, walked. -/
import Derived.Test.YtkgagdjogedoiaaGreatSx1
set_option linter.unusedVariables false
set_option linter.unusedSimpArgs false
set_option maxRecDepth 100000
set_option maxHeartbeats 8000000
namespace Go.Proofs.YtkgagdjogedoiaaGreat
open Go Go.RowKit Go.Proofs.YtkgagdjogedoiaaGreat.Fx Go.Proofs.YtkgagdjogedoiaaGreatW.PrintWords
theorem sgn_ge0 (z:Int):decide (sgn z ≥ 0)=decide (z ≥ 0):=decide_eq_decide.2 (by rcases sgn_cases z with ⟨e,h⟩|⟨e,h⟩|⟨e,h⟩<;>rw [e]<;>omega)
theorem fls {b:Bool} (h:b≠true):b=false:=Bool.eq_false_iff.2 h
theorem b2i_le (b:Bool):0≤b2i b∧b2i b≤1:=by cases b<;>decide
theorem cnt_up {x:Int} {b:Bool} (h0:0≤x) (h1:x≤3) (hb:b=true):IntKind.i64.wrap (x+1)=x+b2i b:=by
  rw [hb,IntWalk.i64_in _ (by omega)]
  rfl
theorem cnt_no {x:Int} {b:Bool} (hb:b=false):x+b2i b=x:=by rw [hb];exact Int.add_zero x
theorem fn_on {ax ay bx b_y px py:Int} (h1:nea ax ay) (h2:nea bx b_y) (h3:nea px py):FnC Tryz.prog 87 [.is (ptv ax ay),.is (ptv bx b_y),.is (ptv px py)] (bv (onZ ax ay bx b_y px py)):=by
 refine FnC.of (N:=62) Tryz.func87 rfl rfl (Nat.le_of_ble_eq_true rfl) (fun w0 ok0=>?_)
 refine Tr.rs [] (.k (bxx .k (.b 0 rfl)) (.k (bxx .k (.b 1 rfl)) (.k (bxx .k (.b 2 rfl)) (.k (asg .k .c) .n)))) [] [0,1,2] rfl rfl ?_
 refine Tr.ds hmx [] (.k (faddr .k (.b 2 rfl) rfl fPX) (.k (ldc .k (.g 0 rfl) (.b 2 rfl) tyI) (.k (faddr .k (.b 0 rfl) rfl fPX) (.k (ldc .k (.g 2 rfl) (.b 0 rfl) tyI) (.k (sub_ .k (.g 1 rfl) (.g 3 rfl) (Bd.wrap (Bd.sub h3.bx h1.bx) (by decide))) (.k (cal .k Tryz.func99 rfl (fn_small (lN (Bd.sub h3.bx h1.bx) (by decide)).1 (lN (Bd.sub h3.bx h1.bx) (by decide)).2) (.k (.g 4 rfl) .n)) (.k (faddr .k (.b 1 rfl) rfl fPX) (.k (ldc .k (.g 6 rfl) (.b 1 rfl) tyI) (.k (faddr .k (.b 2 rfl) rfl fPX) (.k (ldc .k (.g 8 rfl) (.b 2 rfl) tyI) (.k (sub_ .k (.g 7 rfl) (.g 9 rfl) (Bd.wrap (Bd.sub h2.bx h3.bx) (by decide))) (.k (cal .k Tryz.func99 rfl (fn_small (lN (Bd.sub h2.bx h3.bx) (by decide)).1 (lN (Bd.sub h2.bx h3.bx) (by decide)).2) (.k (.g 10 rfl) .n)) (.k (cal .k Tryz.func71 rfl (fn_times (by decide) (by decide)) (.k (.g 5 rfl) (.k (.g 11 rfl) .n))) (.k (faddr .k (.b 2 rfl) rfl fPY) (.k (ldc .k (.g 13 rfl) (.b 2 rfl) tyI) (.k (faddr .k (.b 0 rfl) rfl fPY) (.k (ldc .k (.g 15 rfl) (.b 0 rfl) tyI) (.k (sub_ .k (.g 14 rfl) (.g 16 rfl) (Bd.wrap (Bd.sub h3.by_ h1.by_) (by decide))) (.k (cal .k Tryz.func99 rfl (fn_small (lN (Bd.sub h3.by_ h1.by_) (by decide)).1 (lN (Bd.sub h3.by_ h1.by_) (by decide)).2) (.k (.g 17 rfl) .n)) (.k (faddr .k (.b 1 rfl) rfl fPY) (.k (ldc .k (.g 19 rfl) (.b 1 rfl) tyI) (.k (faddr .k (.b 2 rfl) rfl fPY) (.k (ldc .k (.g 21 rfl) (.b 2 rfl) tyI) (.k (sub_ .k (.g 20 rfl) (.g 22 rfl) (Bd.wrap (Bd.sub h2.by_ h3.by_) (by decide))) (.k (cal .k Tryz.func99 rfl (fn_small (lN (Bd.sub h2.by_ h3.by_) (by decide)).1 (lN (Bd.sub h2.by_ h3.by_) (by decide)).2) (.k (.g 23 rfl) .n)) (.k (cal .k Tryz.func71 rfl (fn_times (by decide) (by decide)) (.k (.g 18 rfl) (.k (.g 24 rfl) .n))) (.k (cal .k Tryz.func45 rfl (fn_plus (by decide) (by decide)) (.k (.g 12 rfl) (.k (.g 25 rfl) .n))) (.k (ala .k zN) (.k (sta .k (.g 27 rfl) (.g 26 rfl) tyN) .n))))))))))))))))))))))))))))) [0,1,2] [28] rfl rfl ?_
 rcases and_ways2 (same ax ay bx b_y=false) (areaZ ax ay bx b_y px py=0) with c1|⟨c1,c2⟩|⟨c1,c2⟩
 ·
  rw [show onZ ax ay bx b_y px py=false by unfold onZ;rw [Bool.not_eq_false _ |>.mp c1];rfl]
  refine Tr.rs [] (.k (ld .k (.b 0 rfl) tyP) (.k (ld .k (.b 1 rfl) tyP) (.k (neS_ .k ptG (.g 0 rfl) (.g 1 rfl) (eqP _ _ _ _) (show (!same _ _ _ _)=false by rw [(Bool.not_eq_false _ |>.mp c1)];rfl)) (.k (mv .k (.g 2 rfl)) (.k (skp (.o 3 rfl rfl rfl)) (.k (skp (.o 3 rfl rfl rfl)) (.k (pickF .k (.g 3 rfl) .c) (.k (mv .k (.g 6 rfl)) (.k (skp (.o 7 rfl rfl rfl)) (.k (skp (.o 7 rfl rfl rfl)) (.k (pickF .k (.g 7 rfl) .c) (.k (mv .k (.g 10 rfl)) (.k (skp (.o 11 rfl rfl rfl)) (.k (skp (.o 11 rfl rfl rfl)) (.k (pickF .k (.g 11 rfl) .c) (.k (mv .k (.g 14 rfl)) (.k (skp (.o 15 rfl rfl rfl)) (.k (skp (.o 15 rfl rfl rfl)) (.k (skp (.o 15 rfl rfl rfl)) (.k (skp (.o 15 rfl rfl rfl)) (.k (skp (.o 15 rfl rfl rfl)) (.k (pickF .k (.g 15 rfl) .c) (.k (mv .k (.g 21 rfl)) (.k (skp (.o 22 rfl rfl rfl)) (.k (skp (.o 22 rfl rfl rfl)) (.k (skp (.o 22 rfl rfl rfl)) (.k (pickF .k (.g 22 rfl) .c) (.k (asg .k (.g 26 rfl)) .n)))))))))))))))))))))))))))) [] [27] rfl rfl ?_
  refine Tr.ret (end_tmp 0 rfl rfl)
 ·
  rw [show onZ ax ay bx b_y px py=false by unfold onZ;rw [decide_eq_false c2,Bool.false_and,Bool.and_false]]
  refine Tr.rs [] (.k (ld .k (.b 0 rfl) tyP) (.k (ld .k (.b 1 rfl) tyP) (.k (neS_ .k ptG (.g 0 rfl) (.g 1 rfl) (eqP _ _ _ _) (show (!same _ _ _ _)=true by rw [c1];rfl)) (.k (mv .k (.g 2 rfl)) (.k (ld (.o 3 rfl rfl rfl) (.b 0 rfl) tyP) (.k (cal (.o 3 rfl rfl rfl) Tryz.func43 rfl (fn_rFitsT h1.f) (.k (.g 4 rfl) .n)) (.k (pickT .k (.g 3 rfl) (.g 5 rfl)) (.k (mv .k (.g 6 rfl)) (.k (ld (.o 7 rfl rfl rfl) (.b 1 rfl) tyP) (.k (cal (.o 7 rfl rfl rfl) Tryz.func43 rfl (fn_rFitsT h2.f) (.k (.g 8 rfl) .n)) (.k (pickT .k (.g 7 rfl) (.g 9 rfl)) (.k (mv .k (.g 10 rfl)) (.k (ld (.o 11 rfl rfl rfl) (.b 2 rfl) tyP) (.k (cal (.o 11 rfl rfl rfl) Tryz.func43 rfl (fn_rFitsT h3.f) (.k (.g 12 rfl) .n)) (.k (pickT .k (.g 11 rfl) (.g 13 rfl)) (.k (mv .k (.g 14 rfl)) (.k (ld (.o 15 rfl rfl rfl) (.b 0 rfl) tyP) (.k (ld (.o 15 rfl rfl rfl) (.b 1 rfl) tyP) (.k (ld (.o 15 rfl rfl rfl) (.b 2 rfl) tyP) (.k (cal (.o 15 rfl rfl rfl) Tryz.func47 rfl (fn_rOrientT h1.f h2.f h3.f) (.k (.g 16 rfl) (.k (.g 17 rfl) (.k (.g 18 rfl) .n)))) (.k (eq_ (.o 15 rfl rfl rfl) (.g 19 rfl) .c (beq_eq_false_iff_ne.2 (fun h=>c2 (sgn_eq.1 h)))) (.k (pickT .k (.g 15 rfl) (.g 20 rfl)) (.k (mv .k (.g 21 rfl)) (.k (skp (.o 22 rfl rfl rfl)) (.k (skp (.o 22 rfl rfl rfl)) (.k (skp (.o 22 rfl rfl rfl)) (.k (pickF .k (.g 22 rfl) .c) (.k (asg .k (.g 26 rfl)) .n)))))))))))))))))))))))))))) [] [27] rfl rfl ?_
  refine Tr.ret (end_tmp 0 rfl rfl)
 ·
  rw [show onZ ax ay bx b_y px py=decide (dotZ ax ay bx b_y px py ≥ 0) by unfold onZ;rw [c1,decide_eq_true c2,Bool.true_and];rfl]
  refine Tr.rs [] (.k (ld .k (.b 0 rfl) tyP) (.k (ld .k (.b 1 rfl) tyP) (.k (neS_ .k ptG (.g 0 rfl) (.g 1 rfl) (eqP _ _ _ _) (show (!same _ _ _ _)=true by rw [c1];rfl)) (.k (mv .k (.g 2 rfl)) (.k (ld (.o 3 rfl rfl rfl) (.b 0 rfl) tyP) (.k (cal (.o 3 rfl rfl rfl) Tryz.func43 rfl (fn_rFitsT h1.f) (.k (.g 4 rfl) .n)) (.k (pickT .k (.g 3 rfl) (.g 5 rfl)) (.k (mv .k (.g 6 rfl)) (.k (ld (.o 7 rfl rfl rfl) (.b 1 rfl) tyP) (.k (cal (.o 7 rfl rfl rfl) Tryz.func43 rfl (fn_rFitsT h2.f) (.k (.g 8 rfl) .n)) (.k (pickT .k (.g 7 rfl) (.g 9 rfl)) (.k (mv .k (.g 10 rfl)) (.k (ld (.o 11 rfl rfl rfl) (.b 2 rfl) tyP) (.k (cal (.o 11 rfl rfl rfl) Tryz.func43 rfl (fn_rFitsT h3.f) (.k (.g 12 rfl) .n)) (.k (pickT .k (.g 11 rfl) (.g 13 rfl)) (.k (mv .k (.g 14 rfl)) (.k (ld (.o 15 rfl rfl rfl) (.b 0 rfl) tyP) (.k (ld (.o 15 rfl rfl rfl) (.b 1 rfl) tyP) (.k (ld (.o 15 rfl rfl rfl) (.b 2 rfl) tyP) (.k (cal (.o 15 rfl rfl rfl) Tryz.func47 rfl (fn_rOrientT h1.f h2.f h3.f) (.k (.g 16 rfl) (.k (.g 17 rfl) (.k (.g 18 rfl) .n)))) (.k (eq_ (.o 15 rfl rfl rfl) (.g 19 rfl) .c (beq_iff_eq.2 (sgn_eq.2 c2))) (.k (pickT .k (.g 15 rfl) (.g 20 rfl)) (.k (mv .k (.g 21 rfl)) (.k (ld (.o 22 rfl rfl rfl) (.b 3 rfl) tyN) (.k (cal (.o 22 rfl rfl rfl) Tryz.func70 rfl fn_nsign (.k (.g 23 rfl) .n)) (.k (ge_ (.o 22 rfl rfl rfl) (.g 24 rfl) .c (sgn_ge0 _)) (.k (pickT .k (.g 22 rfl) (.g 25 rfl)) (.k (asg .k (.g 26 rfl)) .n)))))))))))))))))))))))))))) [] [27] rfl rfl ?_
  refine Tr.ret (end_tmp 0 rfl rfl)
theorem fn_On {ax ay bx b_y px py:Int} (h1:nea ax ay) (h2:nea bx b_y) (h3:nea px py):FnC Tryz.prog 132 [.is (ptv ax ay),.is (ptv bx b_y),.is (ptv px py)] (bv (onZ ax ay bx b_y px py)):=by
 refine FnC.of (N:=11) Tryz.func132 rfl rfl (Nat.le_of_ble_eq_true rfl) (fun w0 ok0=>?_)
 refine Tr.rs [] (.k (bxx .k (.b 0 rfl)) (.k (bxx .k (.b 1 rfl)) (.k (bxx .k (.b 2 rfl)) (.k (asg .k .c) .n)))) [] [0,1,2] rfl rfl ?_
 refine Tr.rs [] (.k (ld .k (.b 0 rfl) tyP) (.k (ld .k (.b 1 rfl) tyP) (.k (ld .k (.b 2 rfl) tyP) (.k (cal .k Tryz.func87 rfl (fn_on h1 h2 h3) (.k (.g 0 rfl) (.k (.g 1 rfl) (.k (.g 2 rfl) .n)))) (.k (asg .k (.g 3 rfl)) .n))))) [] [4] rfl rfl ?_
 refine Tr.ret (end_tmp 0 rfl rfl)
theorem fn_onK {ax ay bx b_y px py:Int} (h1:nea ax ay) (h2:nea bx b_y) (h3:nea px py) {k:Bool} (h:onZ ax ay bx b_y px py=k):FnC Tryz.prog 87 [.is (ptv ax ay),.is (ptv bx b_y),.is (ptv px py)] (bv k):=h ▸ fn_on h1 h2 h3
theorem fn_Inside {ax ay bx b_y px py:Int} (h1:nea ax ay) (h2:nea bx b_y) (h3:nea px py):FnC Tryz.prog 130 [.is (ptv ax ay),.is (ptv bx b_y),.is (ptv px py)] (bv (insZ ax ay bx b_y px py)):=by
 refine FnC.of (N:=21) Tryz.func130 rfl rfl (Nat.le_of_ble_eq_true rfl) (fun w0 ok0=>?_)
 refine Tr.rs [] (.k (bxx .k (.b 0 rfl)) (.k (bxx .k (.b 1 rfl)) (.k (bxx .k (.b 2 rfl)) (.k (asg .k .c) .n)))) [] [0,1,2] rfl rfl ?_
 rcases and_ways2 (onZ ax ay bx b_y px py=true) (same px py ax ay=false) with c1|⟨c1,c2⟩|⟨c1,c2⟩
 ·
  rw [show insZ ax ay bx b_y px py=false by unfold insZ;rw [fls c1,Bool.false_and]]
  refine Tr.rs [] (.k (ld .k (.b 0 rfl) tyP) (.k (ld .k (.b 1 rfl) tyP) (.k (ld .k (.b 2 rfl) tyP) (.k (cal .k Tryz.func87 rfl (fn_onK h1 h2 h3 (fls c1)) (.k (.g 0 rfl) (.k (.g 1 rfl) (.k (.g 2 rfl) .n)))) (.k (mv .k (.g 3 rfl)) (.k (skp (.o 4 rfl rfl rfl)) (.k (skp (.o 4 rfl rfl rfl)) (.k (skp (.o 4 rfl rfl rfl)) (.k (pickF .k (.g 4 rfl) .c) (.k (mv .k (.g 8 rfl)) (.k (skp (.o 9 rfl rfl rfl)) (.k (skp (.o 9 rfl rfl rfl)) (.k (skp (.o 9 rfl rfl rfl)) (.k (pickF .k (.g 9 rfl) .c) (.k (asg .k (.g 13 rfl)) .n))))))))))))))) [] [14] rfl rfl ?_
  refine Tr.ret (end_tmp 0 rfl rfl)
 ·
  rw [show insZ ax ay bx b_y px py=false by unfold insZ;rw [Bool.not_eq_false _ |>.mp c2,Bool.not_true,Bool.false_and,Bool.and_false]]
  refine Tr.rs [] (.k (ld .k (.b 0 rfl) tyP) (.k (ld .k (.b 1 rfl) tyP) (.k (ld .k (.b 2 rfl) tyP) (.k (cal .k Tryz.func87 rfl (fn_onK h1 h2 h3 c1) (.k (.g 0 rfl) (.k (.g 1 rfl) (.k (.g 2 rfl) .n)))) (.k (mv .k (.g 3 rfl)) (.k (ld (.o 4 rfl rfl rfl) (.b 2 rfl) tyP) (.k (ld (.o 4 rfl rfl rfl) (.b 0 rfl) tyP) (.k (neS_ (.o 4 rfl rfl rfl) ptG (.g 5 rfl) (.g 6 rfl) (eqP _ _ _ _) (show (!same _ _ _ _)=false by rw [(Bool.not_eq_false _ |>.mp c2)];rfl)) (.k (pickT .k (.g 4 rfl) (.g 7 rfl)) (.k (mv .k (.g 8 rfl)) (.k (skp (.o 9 rfl rfl rfl)) (.k (skp (.o 9 rfl rfl rfl)) (.k (skp (.o 9 rfl rfl rfl)) (.k (pickF .k (.g 9 rfl) .c) (.k (asg .k (.g 13 rfl)) .n))))))))))))))) [] [14] rfl rfl ?_
  refine Tr.ret (end_tmp 0 rfl rfl)
 ·
  rw [show insZ ax ay bx b_y px py=!same px py bx b_y by unfold insZ;rw [c1,c2,Bool.not_false,Bool.true_and,Bool.true_and]]
  refine Tr.rs [] (.k (ld .k (.b 0 rfl) tyP) (.k (ld .k (.b 1 rfl) tyP) (.k (ld .k (.b 2 rfl) tyP) (.k (cal .k Tryz.func87 rfl (fn_onK h1 h2 h3 c1) (.k (.g 0 rfl) (.k (.g 1 rfl) (.k (.g 2 rfl) .n)))) (.k (mv .k (.g 3 rfl)) (.k (ld (.o 4 rfl rfl rfl) (.b 2 rfl) tyP) (.k (ld (.o 4 rfl rfl rfl) (.b 0 rfl) tyP) (.k (neS_ (.o 4 rfl rfl rfl) ptG (.g 5 rfl) (.g 6 rfl) (eqP _ _ _ _) (show (!same _ _ _ _)=true by rw [c2];rfl)) (.k (pickT .k (.g 4 rfl) (.g 7 rfl)) (.k (mv .k (.g 8 rfl)) (.k (ld (.o 9 rfl rfl rfl) (.b 2 rfl) tyP) (.k (ld (.o 9 rfl rfl rfl) (.b 1 rfl) tyP) (.k (neS_ (.o 9 rfl rfl rfl) ptG (.g 10 rfl) (.g 11 rfl) (eqP _ _ _ _) (show (!same _ _ _ _)=_ from rfl)) (.k (pickT .k (.g 9 rfl) (.g 12 rfl)) (.k (asg .k (.g 13 rfl)) .n))))))))))))))) [] [14] rfl rfl ?_
  refine Tr.ret (end_tmp 0 rfl rfl)
theorem fn_rSegs {ax ay bx b_y cx cy dx dy:Int} (h1:nea ax ay) (h2:nea bx b_y) (h3:nea cx cy) (h4:nea dx dy):FnC Tryz.prog 49 [.is (ptv ax ay),.is (ptv bx b_y),.is (ptv cx cy),.is (ptv dx dy)] (.tup [iv (metR ax ay bx b_y cx cy dx dy).1,iv (metR ax ay bx b_y cx cy dx dy).2]):=by
 refine FnC.of (N:=157) Tryz.func49 rfl rfl (Nat.le_of_ble_eq_true rfl) (fun w0 ok0=>?_)
 refine Tr.rs [] (.k (bxx .k (.b 0 rfl)) (.k (bxx .k (.b 1 rfl)) (.k (bxx .k (.b 2 rfl)) (.k (bxx .k (.b 3 rfl)) (.k (asg .k .c) (.k (asg .k .c) .n)))))) [] [0,1,2,3] rfl rfl ?_
 rcases or_ways2 (same ax ay bx b_y=true) (same cx cy dx dy=true) with c1|⟨c1,c2⟩|⟨c1,c2⟩
 ·
  rw [show metR ax ay bx b_y cx cy dx dy=(0,2) from if_pos (.inl c1)]
  refine Tr.seq (Tr.rs [] (.k (ld .k (.b 0 rfl) tyP) (.k (ld .k (.b 1 rfl) tyP) (.k (eqS_ .k ptG (.g 0 rfl) (.g 1 rfl) (eqP _ _ _ _) c1) (.k (mv .k (.g 2 rfl)) (.k (skp (.o 3 rfl rfl rfl)) (.k (skp (.o 3 rfl rfl rfl)) (.k (skp (.o 3 rfl rfl rfl)) (.k (pickT .k (.g 3 rfl) .c) (.k (mv .k (.g 7 rfl)) (.k (skp (.o 8 rfl rfl rfl)) (.k (skp (.o 8 rfl rfl rfl)) (.k (skp (.o 8 rfl rfl rfl)) (.k (pickT .k (.g 8 rfl) .c) (.k (mv .k (.g 12 rfl)) (.k (skp (.o 13 rfl rfl rfl)) (.k (skp (.o 13 rfl rfl rfl)) (.k (skp (.o 13 rfl rfl rfl)) (.k (pickT .k (.g 13 rfl) .c) (.k (mv .k (.g 17 rfl)) (.k (skp (.o 18 rfl rfl rfl)) (.k (skp (.o 18 rfl rfl rfl)) (.k (skp (.o 18 rfl rfl rfl)) (.k (pickT .k (.g 18 rfl) .c) (.k (mv .k (.g 22 rfl)) (.k (skp (.o 23 rfl rfl rfl)) (.k (skp (.o 23 rfl rfl rfl)) (.k (skp (.o 23 rfl rfl rfl)) (.k (pickT .k (.g 23 rfl) .c) .n)))))))))))))))))))))))))))) [0,1,2,3] [27] rfl rfl ?_)
  refine Tr.cond 4 rfl (fun _=>?_) nofun
  refine Tr.rs [] (.k (asg .k .c) (.k (asg .k .c) .n)) [] [0,1] rfl rfl ?_
  refine Tr.ret (end_tmp2 0 1 rfl rfl rfl)
 ·
  rw [show metR ax ay bx b_y cx cy dx dy=(0,2) from if_pos (.inr c2)]
  refine Tr.seq (Tr.rs [] (.k (ld .k (.b 0 rfl) tyP) (.k (ld .k (.b 1 rfl) tyP) (.k (eqS_ .k ptG (.g 0 rfl) (.g 1 rfl) (eqP _ _ _ _) (fls c1)) (.k (mv .k (.g 2 rfl)) (.k (ld (.o 3 rfl rfl rfl) (.b 2 rfl) tyP) (.k (ld (.o 3 rfl rfl rfl) (.b 3 rfl) tyP) (.k (eqS_ (.o 3 rfl rfl rfl) ptG (.g 4 rfl) (.g 5 rfl) (eqP _ _ _ _) c2) (.k (pickF .k (.g 3 rfl) (.g 6 rfl)) (.k (mv .k (.g 7 rfl)) (.k (skp (.o 8 rfl rfl rfl)) (.k (skp (.o 8 rfl rfl rfl)) (.k (skp (.o 8 rfl rfl rfl)) (.k (pickT .k (.g 8 rfl) .c) (.k (mv .k (.g 12 rfl)) (.k (skp (.o 13 rfl rfl rfl)) (.k (skp (.o 13 rfl rfl rfl)) (.k (skp (.o 13 rfl rfl rfl)) (.k (pickT .k (.g 13 rfl) .c) (.k (mv .k (.g 17 rfl)) (.k (skp (.o 18 rfl rfl rfl)) (.k (skp (.o 18 rfl rfl rfl)) (.k (skp (.o 18 rfl rfl rfl)) (.k (pickT .k (.g 18 rfl) .c) (.k (mv .k (.g 22 rfl)) (.k (skp (.o 23 rfl rfl rfl)) (.k (skp (.o 23 rfl rfl rfl)) (.k (skp (.o 23 rfl rfl rfl)) (.k (pickT .k (.g 23 rfl) .c) .n)))))))))))))))))))))))))))) [0,1,2,3] [27] rfl rfl ?_)
  refine Tr.cond 4 rfl (fun _=>?_) nofun
  refine Tr.rs [] (.k (asg .k .c) (.k (asg .k .c) .n)) [] [0,1] rfl rfl ?_
  refine Tr.ret (end_tmp2 0 1 rfl rfl rfl)
 ·
  rw [show metR ax ay bx b_y cx cy dx dy=(segZ ax ay bx b_y cx cy dx dy,0) from if_neg (not_or.2 ⟨c1,c2⟩)]
  unfold segZ
  refine Tr.seq (Tr.rs [] (.k (ld .k (.b 0 rfl) tyP) (.k (ld .k (.b 1 rfl) tyP) (.k (eqS_ .k ptG (.g 0 rfl) (.g 1 rfl) (eqP _ _ _ _) (fls c1)) (.k (mv .k (.g 2 rfl)) (.k (ld (.o 3 rfl rfl rfl) (.b 2 rfl) tyP) (.k (ld (.o 3 rfl rfl rfl) (.b 3 rfl) tyP) (.k (eqS_ (.o 3 rfl rfl rfl) ptG (.g 4 rfl) (.g 5 rfl) (eqP _ _ _ _) (fls c2)) (.k (pickF .k (.g 3 rfl) (.g 6 rfl)) (.k (mv .k (.g 7 rfl)) (.k (ld (.o 8 rfl rfl rfl) (.b 0 rfl) tyP) (.k (cal (.o 8 rfl rfl rfl) Tryz.func43 rfl (fn_rFitsT h1.f) (.k (.g 9 rfl) .n)) (.k (not_ (.o 8 rfl rfl rfl) (.g 10 rfl)) (.k (pickF .k (.g 8 rfl) (.g 11 rfl)) (.k (mv .k (.g 12 rfl)) (.k (ld (.o 13 rfl rfl rfl) (.b 1 rfl) tyP) (.k (cal (.o 13 rfl rfl rfl) Tryz.func43 rfl (fn_rFitsT h2.f) (.k (.g 14 rfl) .n)) (.k (not_ (.o 13 rfl rfl rfl) (.g 15 rfl)) (.k (pickF .k (.g 13 rfl) (.g 16 rfl)) (.k (mv .k (.g 17 rfl)) (.k (ld (.o 18 rfl rfl rfl) (.b 2 rfl) tyP) (.k (cal (.o 18 rfl rfl rfl) Tryz.func43 rfl (fn_rFitsT h3.f) (.k (.g 19 rfl) .n)) (.k (not_ (.o 18 rfl rfl rfl) (.g 20 rfl)) (.k (pickF .k (.g 18 rfl) (.g 21 rfl)) (.k (mv .k (.g 22 rfl)) (.k (ld (.o 23 rfl rfl rfl) (.b 3 rfl) tyP) (.k (cal (.o 23 rfl rfl rfl) Tryz.func43 rfl (fn_rFitsT h4.f) (.k (.g 24 rfl) .n)) (.k (not_ (.o 23 rfl rfl rfl) (.g 25 rfl)) (.k (pickF .k (.g 23 rfl) (.g 26 rfl)) .n)))))))))))))))))))))))))))) [0,1,2,3] [27] rfl rfl ?_)
  refine Tr.cond 4 rfl nofun (fun _=>?_)
  refine Tr.skip (Nx.go (Tr.rs [] (.k (ld .k (.b 0 rfl) tyP) (.k (ld .k (.b 1 rfl) tyP) (.k (ld .k (.b 2 rfl) tyP) (.k (cal .k Tryz.func47 rfl (fn_rOrientT h1.f h2.f h3.f) (.k (.g 0 rfl) (.k (.g 1 rfl) (.k (.g 2 rfl) .n)))) (.k (asg .k (.g 3 rfl)) .n))))) [0,1,2,3] [4] rfl rfl ?_))
  refine Tr.rs [] (.k (ld .k (.b 0 rfl) tyP) (.k (ld .k (.b 1 rfl) tyP) (.k (ld .k (.b 3 rfl) tyP) (.k (cal .k Tryz.func47 rfl (fn_rOrientT h1.f h2.f h4.f) (.k (.g 0 rfl) (.k (.g 1 rfl) (.k (.g 2 rfl) .n)))) (.k (asg .k (.g 3 rfl)) .n))))) [0,1,2,3,4] [4] rfl rfl ?_
  refine Tr.seq (?_)
  refine Tr.share0 (p:=¬ (sgn (areaZ ax ay bx b_y cx cy)=0∧sgn (areaZ ax ay bx b_y dx dy)=0)) [.b 4 (.is (ptv ax ay)) 30 2,.b 5 (.is (ptv bx b_y)) 30 2,.b 6 (.is (ptv cx cy)) 30 2,.b 7 (.is (ptv dx dy)) 30 2,.s 10 (iv (sgn (areaZ ax ay bx b_y cx cy))),.s 11 (iv (sgn (areaZ ax ay bx b_y dx dy)))] (fun hz=>?_) (fun H_=>?_)
  ·
   rw [if_neg hz]
   rcases or_ways4 (same ax ay cx cy=true) (same ax ay dx dy=true) (same bx b_y cx cy=true) (same bx b_y dx dy=true) with d1|⟨d1,d2⟩|⟨d1,d2,d3⟩|⟨d1,d2,d3,d4⟩|⟨d1,d2,d3,d4⟩
   ·
    rw [if_pos (.inl d1)]
    refine Tr.seq (Tr.rs [] (.k (ld .k (.b 0 rfl) tyP) (.k (ld .k (.b 2 rfl) tyP) (.k (eqS_ .k ptG (.g 0 rfl) (.g 1 rfl) (eqP _ _ _ _) d1) (.k (mv .k (.g 2 rfl)) (.k (skp (.o 3 rfl rfl rfl)) (.k (skp (.o 3 rfl rfl rfl)) (.k (skp (.o 3 rfl rfl rfl)) (.k (pickT .k (.g 3 rfl) .c) (.k (mv .k (.g 7 rfl)) (.k (skp (.o 8 rfl rfl rfl)) (.k (skp (.o 8 rfl rfl rfl)) (.k (skp (.o 8 rfl rfl rfl)) (.k (pickT .k (.g 8 rfl) .c) (.k (mv .k (.g 12 rfl)) (.k (skp (.o 13 rfl rfl rfl)) (.k (skp (.o 13 rfl rfl rfl)) (.k (skp (.o 13 rfl rfl rfl)) (.k (pickT .k (.g 13 rfl) .c) .n)))))))))))))))))) [0,1,2,3,4,5] [17] rfl rfl ?_)
    refine Tr.cond 6 rfl (fun _=>?_) nofun
    refine Tr.rs [] (.k (asg .k .c) (.k (asg .k .c) .n)) [] [0,1] rfl rfl ?_
    refine Tr.ret (end_tmp2 0 1 rfl rfl rfl)
   ·
    rw [if_pos (.inr (.inl d2))]
    refine Tr.seq (Tr.rs [] (.k (ld .k (.b 0 rfl) tyP) (.k (ld .k (.b 2 rfl) tyP) (.k (eqS_ .k ptG (.g 0 rfl) (.g 1 rfl) (eqP _ _ _ _) (fls d1)) (.k (mv .k (.g 2 rfl)) (.k (ld (.o 3 rfl rfl rfl) (.b 0 rfl) tyP) (.k (ld (.o 3 rfl rfl rfl) (.b 3 rfl) tyP) (.k (eqS_ (.o 3 rfl rfl rfl) ptG (.g 4 rfl) (.g 5 rfl) (eqP _ _ _ _) d2) (.k (pickF .k (.g 3 rfl) (.g 6 rfl)) (.k (mv .k (.g 7 rfl)) (.k (skp (.o 8 rfl rfl rfl)) (.k (skp (.o 8 rfl rfl rfl)) (.k (skp (.o 8 rfl rfl rfl)) (.k (pickT .k (.g 8 rfl) .c) (.k (mv .k (.g 12 rfl)) (.k (skp (.o 13 rfl rfl rfl)) (.k (skp (.o 13 rfl rfl rfl)) (.k (skp (.o 13 rfl rfl rfl)) (.k (pickT .k (.g 13 rfl) .c) .n)))))))))))))))))) [0,1,2,3,4,5] [17] rfl rfl ?_)
    refine Tr.cond 6 rfl (fun _=>?_) nofun
    refine Tr.rs [] (.k (asg .k .c) (.k (asg .k .c) .n)) [] [0,1] rfl rfl ?_
    refine Tr.ret (end_tmp2 0 1 rfl rfl rfl)
   ·
    rw [if_pos (.inr (.inr (.inl d3)))]
    refine Tr.seq (Tr.rs [] (.k (ld .k (.b 0 rfl) tyP) (.k (ld .k (.b 2 rfl) tyP) (.k (eqS_ .k ptG (.g 0 rfl) (.g 1 rfl) (eqP _ _ _ _) (fls d1)) (.k (mv .k (.g 2 rfl)) (.k (ld (.o 3 rfl rfl rfl) (.b 0 rfl) tyP) (.k (ld (.o 3 rfl rfl rfl) (.b 3 rfl) tyP) (.k (eqS_ (.o 3 rfl rfl rfl) ptG (.g 4 rfl) (.g 5 rfl) (eqP _ _ _ _) (fls d2)) (.k (pickF .k (.g 3 rfl) (.g 6 rfl)) (.k (mv .k (.g 7 rfl)) (.k (ld (.o 8 rfl rfl rfl) (.b 1 rfl) tyP) (.k (ld (.o 8 rfl rfl rfl) (.b 2 rfl) tyP) (.k (eqS_ (.o 8 rfl rfl rfl) ptG (.g 9 rfl) (.g 10 rfl) (eqP _ _ _ _) d3) (.k (pickF .k (.g 8 rfl) (.g 11 rfl)) (.k (mv .k (.g 12 rfl)) (.k (skp (.o 13 rfl rfl rfl)) (.k (skp (.o 13 rfl rfl rfl)) (.k (skp (.o 13 rfl rfl rfl)) (.k (pickT .k (.g 13 rfl) .c) .n)))))))))))))))))) [0,1,2,3,4,5] [17] rfl rfl ?_)
    refine Tr.cond 6 rfl (fun _=>?_) nofun
    refine Tr.rs [] (.k (asg .k .c) (.k (asg .k .c) .n)) [] [0,1] rfl rfl ?_
    refine Tr.ret (end_tmp2 0 1 rfl rfl rfl)
   ·
    rw [if_pos (.inr (.inr (.inr d4)))]
    refine Tr.seq (Tr.rs [] (.k (ld .k (.b 0 rfl) tyP) (.k (ld .k (.b 2 rfl) tyP) (.k (eqS_ .k ptG (.g 0 rfl) (.g 1 rfl) (eqP _ _ _ _) (fls d1)) (.k (mv .k (.g 2 rfl)) (.k (ld (.o 3 rfl rfl rfl) (.b 0 rfl) tyP) (.k (ld (.o 3 rfl rfl rfl) (.b 3 rfl) tyP) (.k (eqS_ (.o 3 rfl rfl rfl) ptG (.g 4 rfl) (.g 5 rfl) (eqP _ _ _ _) (fls d2)) (.k (pickF .k (.g 3 rfl) (.g 6 rfl)) (.k (mv .k (.g 7 rfl)) (.k (ld (.o 8 rfl rfl rfl) (.b 1 rfl) tyP) (.k (ld (.o 8 rfl rfl rfl) (.b 2 rfl) tyP) (.k (eqS_ (.o 8 rfl rfl rfl) ptG (.g 9 rfl) (.g 10 rfl) (eqP _ _ _ _) (fls d3)) (.k (pickF .k (.g 8 rfl) (.g 11 rfl)) (.k (mv .k (.g 12 rfl)) (.k (ld (.o 13 rfl rfl rfl) (.b 1 rfl) tyP) (.k (ld (.o 13 rfl rfl rfl) (.b 3 rfl) tyP) (.k (eqS_ (.o 13 rfl rfl rfl) ptG (.g 14 rfl) (.g 15 rfl) (eqP _ _ _ _) d4) (.k (pickF .k (.g 13 rfl) (.g 16 rfl)) .n)))))))))))))))))) [0,1,2,3,4,5] [17] rfl rfl ?_)
    refine Tr.cond 6 rfl (fun _=>?_) nofun
    refine Tr.rs [] (.k (asg .k .c) (.k (asg .k .c) .n)) [] [0,1] rfl rfl ?_
    refine Tr.ret (end_tmp2 0 1 rfl rfl rfl)
   ·
    rw [if_neg (not_or.2 ⟨d1,not_or.2 ⟨d2,not_or.2 ⟨d3,d4⟩⟩⟩)]
    refine Tr.seq (Tr.rs [] (.k (ld .k (.b 0 rfl) tyP) (.k (ld .k (.b 2 rfl) tyP) (.k (eqS_ .k ptG (.g 0 rfl) (.g 1 rfl) (eqP _ _ _ _) (fls d1)) (.k (mv .k (.g 2 rfl)) (.k (ld (.o 3 rfl rfl rfl) (.b 0 rfl) tyP) (.k (ld (.o 3 rfl rfl rfl) (.b 3 rfl) tyP) (.k (eqS_ (.o 3 rfl rfl rfl) ptG (.g 4 rfl) (.g 5 rfl) (eqP _ _ _ _) (fls d2)) (.k (pickF .k (.g 3 rfl) (.g 6 rfl)) (.k (mv .k (.g 7 rfl)) (.k (ld (.o 8 rfl rfl rfl) (.b 1 rfl) tyP) (.k (ld (.o 8 rfl rfl rfl) (.b 2 rfl) tyP) (.k (eqS_ (.o 8 rfl rfl rfl) ptG (.g 9 rfl) (.g 10 rfl) (eqP _ _ _ _) (fls d3)) (.k (pickF .k (.g 8 rfl) (.g 11 rfl)) (.k (mv .k (.g 12 rfl)) (.k (ld (.o 13 rfl rfl rfl) (.b 1 rfl) tyP) (.k (ld (.o 13 rfl rfl rfl) (.b 3 rfl) tyP) (.k (eqS_ (.o 13 rfl rfl rfl) ptG (.g 14 rfl) (.g 15 rfl) (eqP _ _ _ _) (fls d4)) (.k (pickF .k (.g 13 rfl) (.g 16 rfl)) .n)))))))))))))))))) [0,1,2,3,4,5] [17] rfl rfl ?_)
    refine Tr.cond 6 rfl nofun (fun _=>?_)
    refine Tr.skip (Nx.go (?_))
    rcases or_ways4 (onZ ax ay bx b_y cx cy=true) (onZ ax ay bx b_y dx dy=true) (onZ cx cy dx dy ax ay=true) (onZ cx cy dx dy bx b_y=true) with u1|⟨u1,u2⟩|⟨u1,u2,u3⟩|⟨u1,u2,u3,u4⟩|⟨u1,u2,u3,u4⟩
    ·
     rw [if_pos (.inl u1)]
     refine Tr.seq (Tr.rs [] (.k (ld .k (.b 0 rfl) tyP) (.k (ld .k (.b 1 rfl) tyP) (.k (ld .k (.b 2 rfl) tyP) (.k (cal .k Tryz.func87 rfl (fn_onK h1 h2 h3 u1) (.k (.g 0 rfl) (.k (.g 1 rfl) (.k (.g 2 rfl) .n)))) (.k (mv .k (.g 3 rfl)) (.k (skp (.o 4 rfl rfl rfl)) (.k (skp (.o 4 rfl rfl rfl)) (.k (skp (.o 4 rfl rfl rfl)) (.k (skp (.o 4 rfl rfl rfl)) (.k (pickT .k (.g 4 rfl) .c) (.k (mv .k (.g 9 rfl)) (.k (skp (.o 10 rfl rfl rfl)) (.k (skp (.o 10 rfl rfl rfl)) (.k (skp (.o 10 rfl rfl rfl)) (.k (skp (.o 10 rfl rfl rfl)) (.k (pickT .k (.g 10 rfl) .c) (.k (mv .k (.g 15 rfl)) (.k (skp (.o 16 rfl rfl rfl)) (.k (skp (.o 16 rfl rfl rfl)) (.k (skp (.o 16 rfl rfl rfl)) (.k (skp (.o 16 rfl rfl rfl)) (.k (pickT .k (.g 16 rfl) .c) .n)))))))))))))))))))))) [0,1,2,3,4,5] [21] rfl rfl ?_)
     refine Tr.cond 6 rfl (fun _=>?_) nofun
     refine Tr.rs [] (.k (asg .k .c) (.k (asg .k .c) .n)) [] [0,1] rfl rfl ?_
     refine Tr.ret (end_tmp2 0 1 rfl rfl rfl)
    ·
     rw [if_pos (.inr (.inl u2))]
     refine Tr.seq (Tr.rs [] (.k (ld .k (.b 0 rfl) tyP) (.k (ld .k (.b 1 rfl) tyP) (.k (ld .k (.b 2 rfl) tyP) (.k (cal .k Tryz.func87 rfl (fn_onK h1 h2 h3 (fls u1)) (.k (.g 0 rfl) (.k (.g 1 rfl) (.k (.g 2 rfl) .n)))) (.k (mv .k (.g 3 rfl)) (.k (ld (.o 4 rfl rfl rfl) (.b 0 rfl) tyP) (.k (ld (.o 4 rfl rfl rfl) (.b 1 rfl) tyP) (.k (ld (.o 4 rfl rfl rfl) (.b 3 rfl) tyP) (.k (cal (.o 4 rfl rfl rfl) Tryz.func87 rfl (fn_onK h1 h2 h4 u2) (.k (.g 5 rfl) (.k (.g 6 rfl) (.k (.g 7 rfl) .n)))) (.k (pickF .k (.g 4 rfl) (.g 8 rfl)) (.k (mv .k (.g 9 rfl)) (.k (skp (.o 10 rfl rfl rfl)) (.k (skp (.o 10 rfl rfl rfl)) (.k (skp (.o 10 rfl rfl rfl)) (.k (skp (.o 10 rfl rfl rfl)) (.k (pickT .k (.g 10 rfl) .c) (.k (mv .k (.g 15 rfl)) (.k (skp (.o 16 rfl rfl rfl)) (.k (skp (.o 16 rfl rfl rfl)) (.k (skp (.o 16 rfl rfl rfl)) (.k (skp (.o 16 rfl rfl rfl)) (.k (pickT .k (.g 16 rfl) .c) .n)))))))))))))))))))))) [0,1,2,3,4,5] [21] rfl rfl ?_)
     refine Tr.cond 6 rfl (fun _=>?_) nofun
     refine Tr.rs [] (.k (asg .k .c) (.k (asg .k .c) .n)) [] [0,1] rfl rfl ?_
     refine Tr.ret (end_tmp2 0 1 rfl rfl rfl)
    ·
     rw [if_pos (.inr (.inr (.inl u3)))]
     refine Tr.seq (Tr.rs [] (.k (ld .k (.b 0 rfl) tyP) (.k (ld .k (.b 1 rfl) tyP) (.k (ld .k (.b 2 rfl) tyP) (.k (cal .k Tryz.func87 rfl (fn_onK h1 h2 h3 (fls u1)) (.k (.g 0 rfl) (.k (.g 1 rfl) (.k (.g 2 rfl) .n)))) (.k (mv .k (.g 3 rfl)) (.k (ld (.o 4 rfl rfl rfl) (.b 0 rfl) tyP) (.k (ld (.o 4 rfl rfl rfl) (.b 1 rfl) tyP) (.k (ld (.o 4 rfl rfl rfl) (.b 3 rfl) tyP) (.k (cal (.o 4 rfl rfl rfl) Tryz.func87 rfl (fn_onK h1 h2 h4 (fls u2)) (.k (.g 5 rfl) (.k (.g 6 rfl) (.k (.g 7 rfl) .n)))) (.k (pickF .k (.g 4 rfl) (.g 8 rfl)) (.k (mv .k (.g 9 rfl)) (.k (ld (.o 10 rfl rfl rfl) (.b 2 rfl) tyP) (.k (ld (.o 10 rfl rfl rfl) (.b 3 rfl) tyP) (.k (ld (.o 10 rfl rfl rfl) (.b 0 rfl) tyP) (.k (cal (.o 10 rfl rfl rfl) Tryz.func87 rfl (fn_onK h3 h4 h1 u3) (.k (.g 11 rfl) (.k (.g 12 rfl) (.k (.g 13 rfl) .n)))) (.k (pickF .k (.g 10 rfl) (.g 14 rfl)) (.k (mv .k (.g 15 rfl)) (.k (skp (.o 16 rfl rfl rfl)) (.k (skp (.o 16 rfl rfl rfl)) (.k (skp (.o 16 rfl rfl rfl)) (.k (skp (.o 16 rfl rfl rfl)) (.k (pickT .k (.g 16 rfl) .c) .n)))))))))))))))))))))) [0,1,2,3,4,5] [21] rfl rfl ?_)
     refine Tr.cond 6 rfl (fun _=>?_) nofun
     refine Tr.rs [] (.k (asg .k .c) (.k (asg .k .c) .n)) [] [0,1] rfl rfl ?_
     refine Tr.ret (end_tmp2 0 1 rfl rfl rfl)
    ·
     rw [if_pos (.inr (.inr (.inr u4)))]
     refine Tr.seq (Tr.rs [] (.k (ld .k (.b 0 rfl) tyP) (.k (ld .k (.b 1 rfl) tyP) (.k (ld .k (.b 2 rfl) tyP) (.k (cal .k Tryz.func87 rfl (fn_onK h1 h2 h3 (fls u1)) (.k (.g 0 rfl) (.k (.g 1 rfl) (.k (.g 2 rfl) .n)))) (.k (mv .k (.g 3 rfl)) (.k (ld (.o 4 rfl rfl rfl) (.b 0 rfl) tyP) (.k (ld (.o 4 rfl rfl rfl) (.b 1 rfl) tyP) (.k (ld (.o 4 rfl rfl rfl) (.b 3 rfl) tyP) (.k (cal (.o 4 rfl rfl rfl) Tryz.func87 rfl (fn_onK h1 h2 h4 (fls u2)) (.k (.g 5 rfl) (.k (.g 6 rfl) (.k (.g 7 rfl) .n)))) (.k (pickF .k (.g 4 rfl) (.g 8 rfl)) (.k (mv .k (.g 9 rfl)) (.k (ld (.o 10 rfl rfl rfl) (.b 2 rfl) tyP) (.k (ld (.o 10 rfl rfl rfl) (.b 3 rfl) tyP) (.k (ld (.o 10 rfl rfl rfl) (.b 0 rfl) tyP) (.k (cal (.o 10 rfl rfl rfl) Tryz.func87 rfl (fn_onK h3 h4 h1 (fls u3)) (.k (.g 11 rfl) (.k (.g 12 rfl) (.k (.g 13 rfl) .n)))) (.k (pickF .k (.g 10 rfl) (.g 14 rfl)) (.k (mv .k (.g 15 rfl)) (.k (ld (.o 16 rfl rfl rfl) (.b 2 rfl) tyP) (.k (ld (.o 16 rfl rfl rfl) (.b 3 rfl) tyP) (.k (ld (.o 16 rfl rfl rfl) (.b 1 rfl) tyP) (.k (cal (.o 16 rfl rfl rfl) Tryz.func87 rfl (fn_onK h3 h4 h2 u4) (.k (.g 17 rfl) (.k (.g 18 rfl) (.k (.g 19 rfl) .n)))) (.k (pickF .k (.g 16 rfl) (.g 20 rfl)) .n)))))))))))))))))))))) [0,1,2,3,4,5] [21] rfl rfl ?_)
     refine Tr.cond 6 rfl (fun _=>?_) nofun
     refine Tr.rs [] (.k (asg .k .c) (.k (asg .k .c) .n)) [] [0,1] rfl rfl ?_
     refine Tr.ret (end_tmp2 0 1 rfl rfl rfl)
    ·
     rw [if_neg (not_or.2 ⟨u1,not_or.2 ⟨u2,not_or.2 ⟨u3,u4⟩⟩⟩)]
     refine Tr.seq (Tr.rs [] (.k (ld .k (.b 0 rfl) tyP) (.k (ld .k (.b 1 rfl) tyP) (.k (ld .k (.b 2 rfl) tyP) (.k (cal .k Tryz.func87 rfl (fn_onK h1 h2 h3 (fls u1)) (.k (.g 0 rfl) (.k (.g 1 rfl) (.k (.g 2 rfl) .n)))) (.k (mv .k (.g 3 rfl)) (.k (ld (.o 4 rfl rfl rfl) (.b 0 rfl) tyP) (.k (ld (.o 4 rfl rfl rfl) (.b 1 rfl) tyP) (.k (ld (.o 4 rfl rfl rfl) (.b 3 rfl) tyP) (.k (cal (.o 4 rfl rfl rfl) Tryz.func87 rfl (fn_onK h1 h2 h4 (fls u2)) (.k (.g 5 rfl) (.k (.g 6 rfl) (.k (.g 7 rfl) .n)))) (.k (pickF .k (.g 4 rfl) (.g 8 rfl)) (.k (mv .k (.g 9 rfl)) (.k (ld (.o 10 rfl rfl rfl) (.b 2 rfl) tyP) (.k (ld (.o 10 rfl rfl rfl) (.b 3 rfl) tyP) (.k (ld (.o 10 rfl rfl rfl) (.b 0 rfl) tyP) (.k (cal (.o 10 rfl rfl rfl) Tryz.func87 rfl (fn_onK h3 h4 h1 (fls u3)) (.k (.g 11 rfl) (.k (.g 12 rfl) (.k (.g 13 rfl) .n)))) (.k (pickF .k (.g 10 rfl) (.g 14 rfl)) (.k (mv .k (.g 15 rfl)) (.k (ld (.o 16 rfl rfl rfl) (.b 2 rfl) tyP) (.k (ld (.o 16 rfl rfl rfl) (.b 3 rfl) tyP) (.k (ld (.o 16 rfl rfl rfl) (.b 1 rfl) tyP) (.k (cal (.o 16 rfl rfl rfl) Tryz.func87 rfl (fn_onK h3 h4 h2 (fls u4)) (.k (.g 17 rfl) (.k (.g 18 rfl) (.k (.g 19 rfl) .n)))) (.k (pickF .k (.g 16 rfl) (.g 20 rfl)) .n)))))))))))))))))))))) [0,1,2,3,4,5] [21] rfl rfl ?_)
     refine Tr.cond 6 rfl nofun (fun _=>?_)
     refine Tr.skip (Nx.go (?_))
     rcases and_ways2 (sgn (areaZ ax ay bx b_y cx cy)≠sgn (areaZ ax ay bx b_y dx dy)) (sgn (areaZ cx cy dx dy ax ay)≠sgn (areaZ cx cy dx dy bx b_y)) with v1|⟨v1,v2⟩|⟨v1,v2⟩
     ·
      rw [if_neg (fun h=>v1 h.1)]
      refine Tr.seq (Tr.ds hmx [] (.k (mv .k (.b 4 rfl)) (.k (mv .k (.b 5 rfl)) (.k (ne_ .k (.g 0 rfl) (.g 1 rfl) (bne_eq_false_iff_eq.2 (Classical.not_not.1 v1))) (.k (mv .k (.g 2 rfl)) (.k (skp (.o 3 rfl rfl rfl)) (.k (skp (.o 3 rfl rfl rfl)) (.k (skp (.o 3 rfl rfl rfl)) (.k (skp (.o 3 rfl rfl rfl)) (.k (skp (.o 3 rfl rfl rfl)) (.k (skp (.o 3 rfl rfl rfl)) (.k (skp (.o 3 rfl rfl rfl)) (.k (skp (.o 3 rfl rfl rfl)) (.k (skp (.o 3 rfl rfl rfl)) (.k (pickF .k (.g 3 rfl) .c) .n)))))))))))))) [] [13] rfl rfl ?_)
      refine Tr.cond 0 rfl nofun (fun _=>?_)
      refine Tr.skip (Nx.go (Tr.rs [] (.k (asg .k .c) (.k (asg .k .c) .n)) [] [0,1] rfl rfl ?_))
      refine Tr.ret (end_tmp2 0 1 rfl rfl rfl)
     ·
      rw [if_neg (fun h=>v2 h.2)]
      refine Tr.seq (Tr.ds hmx [] (.k (mv .k (.b 4 rfl)) (.k (mv .k (.b 5 rfl)) (.k (ne_ .k (.g 0 rfl) (.g 1 rfl) (bne_iff_ne.2 v1)) (.k (mv .k (.g 2 rfl)) (.k (ld (.o 3 rfl rfl rfl) (.b 2 rfl) tyP) (.k (ld (.o 3 rfl rfl rfl) (.b 3 rfl) tyP) (.k (ld (.o 3 rfl rfl rfl) (.b 0 rfl) tyP) (.k (cal (.o 3 rfl rfl rfl) Tryz.func47 rfl (fn_rOrientT h3.f h4.f h1.f) (.k (.g 4 rfl) (.k (.g 5 rfl) (.k (.g 6 rfl) .n)))) (.k (ld (.o 3 rfl rfl rfl) (.b 2 rfl) tyP) (.k (ld (.o 3 rfl rfl rfl) (.b 3 rfl) tyP) (.k (ld (.o 3 rfl rfl rfl) (.b 1 rfl) tyP) (.k (cal (.o 3 rfl rfl rfl) Tryz.func47 rfl (fn_rOrientT h3.f h4.f h2.f) (.k (.g 8 rfl) (.k (.g 9 rfl) (.k (.g 10 rfl) .n)))) (.k (ne_ (.o 3 rfl rfl rfl) (.g 7 rfl) (.g 11 rfl) (bne_eq_false_iff_eq.2 (Classical.not_not.1 v2))) (.k (pickT .k (.g 3 rfl) (.g 12 rfl)) .n)))))))))))))) [] [13] rfl rfl ?_)
      refine Tr.cond 0 rfl nofun (fun _=>?_)
      refine Tr.skip (Nx.go (Tr.rs [] (.k (asg .k .c) (.k (asg .k .c) .n)) [] [0,1] rfl rfl ?_))
      refine Tr.ret (end_tmp2 0 1 rfl rfl rfl)
     ·
      rw [if_pos ⟨v1,v2⟩]
      refine Tr.seq (Tr.ds hmx [] (.k (mv .k (.b 4 rfl)) (.k (mv .k (.b 5 rfl)) (.k (ne_ .k (.g 0 rfl) (.g 1 rfl) (bne_iff_ne.2 v1)) (.k (mv .k (.g 2 rfl)) (.k (ld (.o 3 rfl rfl rfl) (.b 2 rfl) tyP) (.k (ld (.o 3 rfl rfl rfl) (.b 3 rfl) tyP) (.k (ld (.o 3 rfl rfl rfl) (.b 0 rfl) tyP) (.k (cal (.o 3 rfl rfl rfl) Tryz.func47 rfl (fn_rOrientT h3.f h4.f h1.f) (.k (.g 4 rfl) (.k (.g 5 rfl) (.k (.g 6 rfl) .n)))) (.k (ld (.o 3 rfl rfl rfl) (.b 2 rfl) tyP) (.k (ld (.o 3 rfl rfl rfl) (.b 3 rfl) tyP) (.k (ld (.o 3 rfl rfl rfl) (.b 1 rfl) tyP) (.k (cal (.o 3 rfl rfl rfl) Tryz.func47 rfl (fn_rOrientT h3.f h4.f h2.f) (.k (.g 8 rfl) (.k (.g 9 rfl) (.k (.g 10 rfl) .n)))) (.k (ne_ (.o 3 rfl rfl rfl) (.g 7 rfl) (.g 11 rfl) (bne_iff_ne.2 v2)) (.k (pickT .k (.g 3 rfl) (.g 12 rfl)) .n)))))))))))))) [] [13] rfl rfl ?_)
      refine Tr.cond 0 rfl (fun _=>?_) nofun
      refine Tr.rs [] (.k (asg .k .c) (.k (asg .k .c) .n)) [] [0,1] rfl rfl ?_
      refine Tr.ret (end_tmp2 0 1 rfl rfl rfl)
  ·
   rcases and_ways2 (sgn (areaZ ax ay bx b_y cx cy)=0) (sgn (areaZ ax ay bx b_y dx dy)=0) with z1|⟨z1,z2⟩|⟨z1,z2⟩
   ·
    refine Tr.rs [] (.k (mv .k (.b 4 rfl)) (.k (eq_ .k (.g 0 rfl) .c (beq_eq_false_iff_ne.2 z1)) (.k (mv .k (.g 1 rfl)) (.k (skp (.o 2 rfl rfl rfl)) (.k (skp (.o 2 rfl rfl rfl)) (.k (pickF .k (.g 2 rfl) .c) .n)))))) [0,1,2,3,4,5] [5] rfl rfl ?_
    refine Tr.cond 6 rfl nofun (fun _=>?_)
    refine Tr.skip (Nx.go (Tr.sub (Sub.all (.cons 0 rfl (.cons 1 rfl (.cons 2 rfl (.cons 3 rfl (.cons 4 rfl (.cons 5 rfl .nil))))))) (H_ (fun h=>z1 h.1))))
   ·
    refine Tr.rs [] (.k (mv .k (.b 4 rfl)) (.k (eq_ .k (.g 0 rfl) .c (beq_iff_eq.2 z1)) (.k (mv .k (.g 1 rfl)) (.k (mv (.o 2 rfl rfl rfl) (.b 5 rfl)) (.k (eq_ (.o 2 rfl rfl rfl) (.g 3 rfl) .c (beq_eq_false_iff_ne.2 z2)) (.k (pickT .k (.g 2 rfl) (.g 4 rfl)) .n)))))) [0,1,2,3,4,5] [5] rfl rfl ?_
    refine Tr.cond 6 rfl nofun (fun _=>?_)
    refine Tr.skip (Nx.go (Tr.sub (Sub.all (.cons 0 rfl (.cons 1 rfl (.cons 2 rfl (.cons 3 rfl (.cons 4 rfl (.cons 5 rfl .nil))))))) (H_ (fun h=>z2 h.2))))
   ·
    rw [if_pos ⟨z1,z2⟩]
    have hb1:=b2i_le (onZ ax ay bx b_y cx cy);have hb2:=b2i_le (onZ ax ay bx b_y dx dy);have hb3:=b2i_le (onZ cx cy dx dy ax ay && (!same ax ay cx cy && !same ax ay dx dy))
    refine Tr.rs [] (.k (mv .k (.b 4 rfl)) (.k (eq_ .k (.g 0 rfl) .c (beq_iff_eq.2 z1)) (.k (mv .k (.g 1 rfl)) (.k (mv (.o 2 rfl rfl rfl) (.b 5 rfl)) (.k (eq_ (.o 2 rfl rfl rfl) (.g 3 rfl) .c (beq_iff_eq.2 z2)) (.k (pickT .k (.g 2 rfl) (.g 4 rfl)) .n)))))) [0,1,2,3,4,5] [5] rfl rfl ?_
    refine Tr.cond 6 rfl (fun _=>?_) nofun
    refine Tr.rs [] (.k (asg .k .c) .n) [0,1,2,3] [0] rfl rfl ?_
    refine Tr.cut [.b 4 (.is (ptv ax ay)) 30 2,.b 5 (.is (ptv bx b_y)) 30 2,.b 6 (.is (ptv cx cy)) 30 2,.b 7 (.is (ptv dx dy)) 30 2,.s 12 (iv (b2i (onZ ax ay bx b_y cx cy)))] ?_ ?_
    ·
     refine Tr.rs [] (.k (ld .k (.b 0 rfl) tyP) (.k (ld .k (.b 1 rfl) tyP) (.k (ld .k (.b 2 rfl) tyP) (.k (cal .k Tryz.func87 rfl (fn_on h1 h2 h3) (.k (.g 0 rfl) (.k (.g 1 rfl) (.k (.g 2 rfl) .n)))) .n)))) [0,1,2,3,4] [3] rfl rfl ?_
     refine Tr.cond 5 rfl (fun e58=>?_) (fun e58=>?_)
     ·
      refine Tr.reg [(4,2)] (.k (mv .k (.b 4 rfl)) (.k (add_ .k (.g 0 rfl) .c (show IntKind.i64.wrap ((0:Int)+1)=b2i (onZ ax ay bx b_y cx cy) by rw [e58];rfl)) (.k (asg .k (.g 1 rfl)) .n))) [0,1,2,3] [2] rfl rfl (Nx.met _ (Sub.all (.cons 0 rfl (.cons 1 rfl (.cons 2 rfl (.cons 3 rfl (.cons 4 rfl .nil)))))))
     ·
      refine Tr.skip (?_)
      rw [show b2i (onZ ax ay bx b_y cx cy)=0 from (show b2i (onZ ax ay bx b_y cx cy)=0 by rw [e58];rfl)]
      refine Nx.met _ (Sub.all (.cons 0 rfl (.cons 1 rfl (.cons 2 rfl (.cons 3 rfl (.cons 4 rfl .nil))))))
    ·
     refine Tr.cut [.b 4 (.is (ptv ax ay)) 30 2,.b 5 (.is (ptv bx b_y)) 30 2,.b 6 (.is (ptv cx cy)) 30 2,.b 7 (.is (ptv dx dy)) 30 2,.s 12 (iv (b2i (onZ ax ay bx b_y cx cy)+b2i (onZ ax ay bx b_y dx dy)))] ?_ ?_
     ·
      refine Tr.rs [] (.k (ld .k (.b 0 rfl) tyP) (.k (ld .k (.b 1 rfl) tyP) (.k (ld .k (.b 3 rfl) tyP) (.k (cal .k Tryz.func87 rfl (fn_on h1 h2 h4) (.k (.g 0 rfl) (.k (.g 1 rfl) (.k (.g 2 rfl) .n)))) .n)))) [0,1,2,3,4] [3] rfl rfl ?_
      refine Tr.cond 5 rfl (fun e64=>?_) (fun e64=>?_)
      ·
       refine Tr.reg [(4,2)] (.k (mv .k (.b 4 rfl)) (.k (add_ .k (.g 0 rfl) .c (cnt_up (by omega) (by omega) e64)) (.k (asg .k (.g 1 rfl)) .n))) [0,1,2,3] [2] rfl rfl (Nx.met _ (Sub.all (.cons 0 rfl (.cons 1 rfl (.cons 2 rfl (.cons 3 rfl (.cons 4 rfl .nil)))))))
      ·
       refine Tr.skip (?_)
       rw [show b2i (onZ ax ay bx b_y cx cy)+b2i (onZ ax ay bx b_y dx dy)=b2i (onZ ax ay bx b_y cx cy) from cnt_no e64]
       refine Nx.met _ (Sub.all (.cons 0 rfl (.cons 1 rfl (.cons 2 rfl (.cons 3 rfl (.cons 4 rfl .nil))))))
     ·
      refine Tr.seq (?_)
      refine Tr.share0 (p:=True) [.b 4 (.is (ptv ax ay)) 30 2,.b 5 (.is (ptv bx b_y)) 30 2,.b 6 (.is (ptv cx cy)) 30 2,.b 7 (.is (ptv dx dy)) 30 2,.s 12 (iv (b2i (onZ ax ay bx b_y cx cy)+b2i (onZ ax ay bx b_y dx dy)+b2i (onZ cx cy dx dy ax ay && (!same ax ay cx cy && !same ax ay dx dy))))] (fun _=>?_) (fun H_=>?_)
      ·
       refine Tr.seq (?_)
       refine Tr.share0 (p:=True) [.b 4 (.is (ptv ax ay)) 30 2,.b 5 (.is (ptv bx b_y)) 30 2,.b 6 (.is (ptv cx cy)) 30 2,.b 7 (.is (ptv dx dy)) 30 2,.s 12 (iv (b2i (onZ ax ay bx b_y cx cy)+b2i (onZ ax ay bx b_y dx dy)+b2i (onZ cx cy dx dy ax ay && (!same ax ay cx cy && !same ax ay dx dy))+b2i (onZ cx cy dx dy bx b_y && (!same bx b_y cx cy && !same bx b_y dx dy))))] (fun _=>?_) (fun H_=>?_)
       ·
        refine Tr.seq (Tr.rs [] (.k (mv .k (.b 4 rfl)) (.k (ge_ .k (.g 0 rfl) .c rfl) .n)) [4] [1] rfl rfl ?_)
        refine Tr.cond 1 rfl (fun e100=>?_) (fun e100=>?_)
        ·
         rw [if_pos (show cntZ ax ay bx b_y cx cy dx dy ≥ 2 from of_decide_eq_true e100)]
         refine Tr.rs [] (.k (asg .k .c) (.k (asg .k .c) .n)) [] [0,1] rfl rfl ?_
         refine Tr.ret (end_tmp2 0 1 rfl rfl rfl)
        ·
         rw [if_neg (show ¬ cntZ ax ay bx b_y cx cy dx dy ≥ 2 from of_decide_eq_false e100)]
         refine Tr.skip (Nx.go (Tr.seq (Tr.rs [] (.k (mv .k (.b 0 rfl)) (.k (eq_ .k (.g 0 rfl) .c rfl) .n)) [] [1] rfl rfl ?_)))
         refine Tr.cond 0 rfl (fun e102=>?_) (fun e102=>?_)
         ·
          rw [if_pos (show cntZ ax ay bx b_y cx cy dx dy=1 from beq_iff_eq.1 e102)]
          refine Tr.rs [] (.k (asg .k .c) (.k (asg .k .c) .n)) [] [0,1] rfl rfl ?_
          refine Tr.ret (end_tmp2 0 1 rfl rfl rfl)
         ·
          rw [if_neg (show ¬ cntZ ax ay bx b_y cx cy dx dy=1 from beq_eq_false_iff_ne.1 e102)]
          refine Tr.skip (Nx.go (Tr.rs [] (.k (asg .k .c) (.k (asg .k .c) .n)) [] [0,1] rfl rfl ?_))
          refine Tr.ret (end_tmp2 0 1 rfl rfl rfl)
       ·
        rcases and_ways3 (onZ cx cy dx dy bx b_y=true) (same bx b_y cx cy=false) (same bx b_y dx dy=false) with c1|⟨c1,c2⟩|⟨c1,c2,c3⟩|⟨c1,c2,c3⟩
        ·
         rw [show b2i (onZ ax ay bx b_y cx cy)+b2i (onZ ax ay bx b_y dx dy)+b2i (onZ cx cy dx dy ax ay && (!same ax ay cx cy && !same ax ay dx dy))+b2i (onZ cx cy dx dy bx b_y && (!same bx b_y cx cy && !same bx b_y dx dy))=b2i (onZ ax ay bx b_y cx cy)+b2i (onZ ax ay bx b_y dx dy)+b2i (onZ cx cy dx dy ax ay && (!same ax ay cx cy && !same ax ay dx dy)) from cnt_no (show (onZ cx cy dx dy bx b_y && (!same bx b_y cx cy && !same bx b_y dx dy))=false by rw [fls c1,Bool.false_and])] at H_
         refine Tr.rs [] (.k (ld .k (.b 2 rfl) tyP) (.k (ld .k (.b 3 rfl) tyP) (.k (ld .k (.b 1 rfl) tyP) (.k (cal .k Tryz.func87 rfl (fn_onK h3 h4 h2 (fls c1)) (.k (.g 0 rfl) (.k (.g 1 rfl) (.k (.g 2 rfl) .n)))) (.k (mv .k (.g 3 rfl)) (.k (skp (.o 4 rfl rfl rfl)) (.k (skp (.o 4 rfl rfl rfl)) (.k (skp (.o 4 rfl rfl rfl)) (.k (pickF .k (.g 4 rfl) .c) (.k (mv .k (.g 8 rfl)) (.k (skp (.o 9 rfl rfl rfl)) (.k (skp (.o 9 rfl rfl rfl)) (.k (skp (.o 9 rfl rfl rfl)) (.k (pickF .k (.g 9 rfl) .c) .n)))))))))))))) [0,1,2,3,4] [13] rfl rfl ?_
         refine Tr.cond 5 rfl nofun (fun _=>?_)
         refine Tr.skip (Nx.go (Tr.sub (Sub.all (.cons 0 rfl (.cons 1 rfl (.cons 2 rfl (.cons 3 rfl (.cons 4 rfl .nil)))))) (H_ trivial)))
        ·
         rw [show b2i (onZ ax ay bx b_y cx cy)+b2i (onZ ax ay bx b_y dx dy)+b2i (onZ cx cy dx dy ax ay && (!same ax ay cx cy && !same ax ay dx dy))+b2i (onZ cx cy dx dy bx b_y && (!same bx b_y cx cy && !same bx b_y dx dy))=b2i (onZ ax ay bx b_y cx cy)+b2i (onZ ax ay bx b_y dx dy)+b2i (onZ cx cy dx dy ax ay && (!same ax ay cx cy && !same ax ay dx dy)) from cnt_no (show (onZ cx cy dx dy bx b_y && (!same bx b_y cx cy && !same bx b_y dx dy))=false by rw [Bool.not_eq_false _ |>.mp c2,Bool.not_true,Bool.false_and,Bool.and_false])] at H_
         refine Tr.rs [] (.k (ld .k (.b 2 rfl) tyP) (.k (ld .k (.b 3 rfl) tyP) (.k (ld .k (.b 1 rfl) tyP) (.k (cal .k Tryz.func87 rfl (fn_onK h3 h4 h2 c1) (.k (.g 0 rfl) (.k (.g 1 rfl) (.k (.g 2 rfl) .n)))) (.k (mv .k (.g 3 rfl)) (.k (ld (.o 4 rfl rfl rfl) (.b 1 rfl) tyP) (.k (ld (.o 4 rfl rfl rfl) (.b 2 rfl) tyP) (.k (neS_ (.o 4 rfl rfl rfl) ptG (.g 5 rfl) (.g 6 rfl) (eqP _ _ _ _) (show (!same _ _ _ _)=false by rw [(Bool.not_eq_false _ |>.mp c2)];rfl)) (.k (pickT .k (.g 4 rfl) (.g 7 rfl)) (.k (mv .k (.g 8 rfl)) (.k (skp (.o 9 rfl rfl rfl)) (.k (skp (.o 9 rfl rfl rfl)) (.k (skp (.o 9 rfl rfl rfl)) (.k (pickF .k (.g 9 rfl) .c) .n)))))))))))))) [0,1,2,3,4] [13] rfl rfl ?_
         refine Tr.cond 5 rfl nofun (fun _=>?_)
         refine Tr.skip (Nx.go (Tr.sub (Sub.all (.cons 0 rfl (.cons 1 rfl (.cons 2 rfl (.cons 3 rfl (.cons 4 rfl .nil)))))) (H_ trivial)))
        ·
         rw [show b2i (onZ ax ay bx b_y cx cy)+b2i (onZ ax ay bx b_y dx dy)+b2i (onZ cx cy dx dy ax ay && (!same ax ay cx cy && !same ax ay dx dy))+b2i (onZ cx cy dx dy bx b_y && (!same bx b_y cx cy && !same bx b_y dx dy))=b2i (onZ ax ay bx b_y cx cy)+b2i (onZ ax ay bx b_y dx dy)+b2i (onZ cx cy dx dy ax ay && (!same ax ay cx cy && !same ax ay dx dy)) from cnt_no (show (onZ cx cy dx dy bx b_y && (!same bx b_y cx cy && !same bx b_y dx dy))=false by rw [Bool.not_eq_false _ |>.mp c3,Bool.not_true,Bool.and_false,Bool.and_false])] at H_
         refine Tr.rs [] (.k (ld .k (.b 2 rfl) tyP) (.k (ld .k (.b 3 rfl) tyP) (.k (ld .k (.b 1 rfl) tyP) (.k (cal .k Tryz.func87 rfl (fn_onK h3 h4 h2 c1) (.k (.g 0 rfl) (.k (.g 1 rfl) (.k (.g 2 rfl) .n)))) (.k (mv .k (.g 3 rfl)) (.k (ld (.o 4 rfl rfl rfl) (.b 1 rfl) tyP) (.k (ld (.o 4 rfl rfl rfl) (.b 2 rfl) tyP) (.k (neS_ (.o 4 rfl rfl rfl) ptG (.g 5 rfl) (.g 6 rfl) (eqP _ _ _ _) (show (!same _ _ _ _)=true by rw [c2];rfl)) (.k (pickT .k (.g 4 rfl) (.g 7 rfl)) (.k (mv .k (.g 8 rfl)) (.k (ld (.o 9 rfl rfl rfl) (.b 1 rfl) tyP) (.k (ld (.o 9 rfl rfl rfl) (.b 3 rfl) tyP) (.k (neS_ (.o 9 rfl rfl rfl) ptG (.g 10 rfl) (.g 11 rfl) (eqP _ _ _ _) (show (!same _ _ _ _)=false by rw [(Bool.not_eq_false _ |>.mp c3)];rfl)) (.k (pickT .k (.g 9 rfl) (.g 12 rfl)) .n)))))))))))))) [0,1,2,3,4] [13] rfl rfl ?_
         refine Tr.cond 5 rfl nofun (fun _=>?_)
         refine Tr.skip (Nx.go (Tr.sub (Sub.all (.cons 0 rfl (.cons 1 rfl (.cons 2 rfl (.cons 3 rfl (.cons 4 rfl .nil)))))) (H_ trivial)))
        ·
         refine Tr.rs [] (.k (ld .k (.b 2 rfl) tyP) (.k (ld .k (.b 3 rfl) tyP) (.k (ld .k (.b 1 rfl) tyP) (.k (cal .k Tryz.func87 rfl (fn_onK h3 h4 h2 c1) (.k (.g 0 rfl) (.k (.g 1 rfl) (.k (.g 2 rfl) .n)))) (.k (mv .k (.g 3 rfl)) (.k (ld (.o 4 rfl rfl rfl) (.b 1 rfl) tyP) (.k (ld (.o 4 rfl rfl rfl) (.b 2 rfl) tyP) (.k (neS_ (.o 4 rfl rfl rfl) ptG (.g 5 rfl) (.g 6 rfl) (eqP _ _ _ _) (show (!same _ _ _ _)=true by rw [c2];rfl)) (.k (pickT .k (.g 4 rfl) (.g 7 rfl)) (.k (mv .k (.g 8 rfl)) (.k (ld (.o 9 rfl rfl rfl) (.b 1 rfl) tyP) (.k (ld (.o 9 rfl rfl rfl) (.b 3 rfl) tyP) (.k (neS_ (.o 9 rfl rfl rfl) ptG (.g 10 rfl) (.g 11 rfl) (eqP _ _ _ _) (show (!same _ _ _ _)=true by rw [c3];rfl)) (.k (pickT .k (.g 9 rfl) (.g 12 rfl)) .n)))))))))))))) [0,1,2,3,4] [13] rfl rfl ?_
         refine Tr.cond 5 rfl (fun _=>?_) nofun
         refine Tr.reg [(4,2)] (.k (mv .k (.b 4 rfl)) (.k (add_ .k (.g 0 rfl) .c (cnt_up (by omega) (by omega) (show (onZ cx cy dx dy bx b_y && (!same bx b_y cx cy && !same bx b_y dx dy))=true by rw [c1,c2,c3];rfl))) (.k (asg .k (.g 1 rfl)) .n))) [0,1,2,3] [2] rfl rfl (Nx.go (Tr.sub (Sub.all (.cons 0 rfl (.cons 1 rfl (.cons 2 rfl (.cons 3 rfl (.cons 4 rfl .nil)))))) (H_ trivial)))
      ·
       rcases and_ways3 (onZ cx cy dx dy ax ay=true) (same ax ay cx cy=false) (same ax ay dx dy=false) with c1|⟨c1,c2⟩|⟨c1,c2,c3⟩|⟨c1,c2,c3⟩
       ·
        rw [show b2i (onZ ax ay bx b_y cx cy)+b2i (onZ ax ay bx b_y dx dy)+b2i (onZ cx cy dx dy ax ay && (!same ax ay cx cy && !same ax ay dx dy))=b2i (onZ ax ay bx b_y cx cy)+b2i (onZ ax ay bx b_y dx dy) from cnt_no (show (onZ cx cy dx dy ax ay && (!same ax ay cx cy && !same ax ay dx dy))=false by rw [fls c1,Bool.false_and])] at H_
        refine Tr.rs [] (.k (ld .k (.b 2 rfl) tyP) (.k (ld .k (.b 3 rfl) tyP) (.k (ld .k (.b 0 rfl) tyP) (.k (cal .k Tryz.func87 rfl (fn_onK h3 h4 h1 (fls c1)) (.k (.g 0 rfl) (.k (.g 1 rfl) (.k (.g 2 rfl) .n)))) (.k (mv .k (.g 3 rfl)) (.k (skp (.o 4 rfl rfl rfl)) (.k (skp (.o 4 rfl rfl rfl)) (.k (skp (.o 4 rfl rfl rfl)) (.k (pickF .k (.g 4 rfl) .c) (.k (mv .k (.g 8 rfl)) (.k (skp (.o 9 rfl rfl rfl)) (.k (skp (.o 9 rfl rfl rfl)) (.k (skp (.o 9 rfl rfl rfl)) (.k (pickF .k (.g 9 rfl) .c) .n)))))))))))))) [0,1,2,3,4] [13] rfl rfl ?_
        refine Tr.cond 5 rfl nofun (fun _=>?_)
        refine Tr.skip (Nx.go (Tr.sub (Sub.all (.cons 0 rfl (.cons 1 rfl (.cons 2 rfl (.cons 3 rfl (.cons 4 rfl .nil)))))) (H_ trivial)))
       ·
        rw [show b2i (onZ ax ay bx b_y cx cy)+b2i (onZ ax ay bx b_y dx dy)+b2i (onZ cx cy dx dy ax ay && (!same ax ay cx cy && !same ax ay dx dy))=b2i (onZ ax ay bx b_y cx cy)+b2i (onZ ax ay bx b_y dx dy) from cnt_no (show (onZ cx cy dx dy ax ay && (!same ax ay cx cy && !same ax ay dx dy))=false by rw [Bool.not_eq_false _ |>.mp c2,Bool.not_true,Bool.false_and,Bool.and_false])] at H_
        refine Tr.rs [] (.k (ld .k (.b 2 rfl) tyP) (.k (ld .k (.b 3 rfl) tyP) (.k (ld .k (.b 0 rfl) tyP) (.k (cal .k Tryz.func87 rfl (fn_onK h3 h4 h1 c1) (.k (.g 0 rfl) (.k (.g 1 rfl) (.k (.g 2 rfl) .n)))) (.k (mv .k (.g 3 rfl)) (.k (ld (.o 4 rfl rfl rfl) (.b 0 rfl) tyP) (.k (ld (.o 4 rfl rfl rfl) (.b 2 rfl) tyP) (.k (neS_ (.o 4 rfl rfl rfl) ptG (.g 5 rfl) (.g 6 rfl) (eqP _ _ _ _) (show (!same _ _ _ _)=false by rw [(Bool.not_eq_false _ |>.mp c2)];rfl)) (.k (pickT .k (.g 4 rfl) (.g 7 rfl)) (.k (mv .k (.g 8 rfl)) (.k (skp (.o 9 rfl rfl rfl)) (.k (skp (.o 9 rfl rfl rfl)) (.k (skp (.o 9 rfl rfl rfl)) (.k (pickF .k (.g 9 rfl) .c) .n)))))))))))))) [0,1,2,3,4] [13] rfl rfl ?_
        refine Tr.cond 5 rfl nofun (fun _=>?_)
        refine Tr.skip (Nx.go (Tr.sub (Sub.all (.cons 0 rfl (.cons 1 rfl (.cons 2 rfl (.cons 3 rfl (.cons 4 rfl .nil)))))) (H_ trivial)))
       ·
        rw [show b2i (onZ ax ay bx b_y cx cy)+b2i (onZ ax ay bx b_y dx dy)+b2i (onZ cx cy dx dy ax ay && (!same ax ay cx cy && !same ax ay dx dy))=b2i (onZ ax ay bx b_y cx cy)+b2i (onZ ax ay bx b_y dx dy) from cnt_no (show (onZ cx cy dx dy ax ay && (!same ax ay cx cy && !same ax ay dx dy))=false by rw [Bool.not_eq_false _ |>.mp c3,Bool.not_true,Bool.and_false,Bool.and_false])] at H_
        refine Tr.rs [] (.k (ld .k (.b 2 rfl) tyP) (.k (ld .k (.b 3 rfl) tyP) (.k (ld .k (.b 0 rfl) tyP) (.k (cal .k Tryz.func87 rfl (fn_onK h3 h4 h1 c1) (.k (.g 0 rfl) (.k (.g 1 rfl) (.k (.g 2 rfl) .n)))) (.k (mv .k (.g 3 rfl)) (.k (ld (.o 4 rfl rfl rfl) (.b 0 rfl) tyP) (.k (ld (.o 4 rfl rfl rfl) (.b 2 rfl) tyP) (.k (neS_ (.o 4 rfl rfl rfl) ptG (.g 5 rfl) (.g 6 rfl) (eqP _ _ _ _) (show (!same _ _ _ _)=true by rw [c2];rfl)) (.k (pickT .k (.g 4 rfl) (.g 7 rfl)) (.k (mv .k (.g 8 rfl)) (.k (ld (.o 9 rfl rfl rfl) (.b 0 rfl) tyP) (.k (ld (.o 9 rfl rfl rfl) (.b 3 rfl) tyP) (.k (neS_ (.o 9 rfl rfl rfl) ptG (.g 10 rfl) (.g 11 rfl) (eqP _ _ _ _) (show (!same _ _ _ _)=false by rw [(Bool.not_eq_false _ |>.mp c3)];rfl)) (.k (pickT .k (.g 9 rfl) (.g 12 rfl)) .n)))))))))))))) [0,1,2,3,4] [13] rfl rfl ?_
        refine Tr.cond 5 rfl nofun (fun _=>?_)
        refine Tr.skip (Nx.go (Tr.sub (Sub.all (.cons 0 rfl (.cons 1 rfl (.cons 2 rfl (.cons 3 rfl (.cons 4 rfl .nil)))))) (H_ trivial)))
       ·
        refine Tr.rs [] (.k (ld .k (.b 2 rfl) tyP) (.k (ld .k (.b 3 rfl) tyP) (.k (ld .k (.b 0 rfl) tyP) (.k (cal .k Tryz.func87 rfl (fn_onK h3 h4 h1 c1) (.k (.g 0 rfl) (.k (.g 1 rfl) (.k (.g 2 rfl) .n)))) (.k (mv .k (.g 3 rfl)) (.k (ld (.o 4 rfl rfl rfl) (.b 0 rfl) tyP) (.k (ld (.o 4 rfl rfl rfl) (.b 2 rfl) tyP) (.k (neS_ (.o 4 rfl rfl rfl) ptG (.g 5 rfl) (.g 6 rfl) (eqP _ _ _ _) (show (!same _ _ _ _)=true by rw [c2];rfl)) (.k (pickT .k (.g 4 rfl) (.g 7 rfl)) (.k (mv .k (.g 8 rfl)) (.k (ld (.o 9 rfl rfl rfl) (.b 0 rfl) tyP) (.k (ld (.o 9 rfl rfl rfl) (.b 3 rfl) tyP) (.k (neS_ (.o 9 rfl rfl rfl) ptG (.g 10 rfl) (.g 11 rfl) (eqP _ _ _ _) (show (!same _ _ _ _)=true by rw [c3];rfl)) (.k (pickT .k (.g 9 rfl) (.g 12 rfl)) .n)))))))))))))) [0,1,2,3,4] [13] rfl rfl ?_
        refine Tr.cond 5 rfl (fun _=>?_) nofun
        refine Tr.reg [(4,2)] (.k (mv .k (.b 4 rfl)) (.k (add_ .k (.g 0 rfl) .c (cnt_up (by omega) (by omega) (show (onZ cx cy dx dy ax ay && (!same ax ay cx cy && !same ax ay dx dy))=true by rw [c1,c2,c3];rfl))) (.k (asg .k (.g 1 rfl)) .n))) [0,1,2,3] [2] rfl rfl (Nx.go (Tr.sub (Sub.all (.cons 0 rfl (.cons 1 rfl (.cons 2 rfl (.cons 3 rfl (.cons 4 rfl .nil)))))) (H_ trivial)))
end Go.Proofs.YtkgagdjogedoiaaGreat

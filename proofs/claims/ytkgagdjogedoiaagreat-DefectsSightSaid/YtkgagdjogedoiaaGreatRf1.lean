/- The document's functions of layer 3, walked: the first. -/
import Derived.Test.YtkgagdjogedoiaaGreatPr6
import Derived.Test.YtkgagdjogedoiaaGreatNm2
set_option linter.unusedVariables false
set_option linter.unusedSimpArgs false
namespace Go.Proofs.YtkgagdjogedoiaaGreat
open Go Go.RowKit Go.Proofs.YtkgagdjogedoiaaGreat.Fx Go.Proofs.YtkgagdjogedoiaaGreatW.PrintWords
set_option maxRecDepth 100000 in
set_option maxHeartbeats 8000000 in
theorem fn_ncmp {L1 L2:Nat} {z1 z2:Int} (h1:L1≤1000000) (h2:L2≤1000000):FnC Tryz.prog 46 [.num L1 z1,.num L2 z2] (iv (sgn (z1 - z2))):=by
 refine FnC.of (N:=10) Tryz.func46 rfl rfl (Nat.le_of_ble_eq_true rfl) (fun w0 ok0=>?_)
 rw [Int.sub_eq_add_neg]
 refine Tr.rs [] (.k (bxx .k (.b 0 rfl)) (.k (bxx .k (.b 1 rfl)) (.k (asg .k .c) .n))) [] [0,1] rfl rfl ?_
 refine Tr.ds hmx [] (.k (ld .k (.b 0 rfl) tyN) (.k (ld .k (.b 1 rfl) tyN) (.k (cal .k Tryz.func86 rfl fn_nneg (.k (.g 1 rfl) .n)) (.k (cal .k Tryz.func45 rfl (fn_plus h1 h2) (.k (.g 0 rfl) (.k (.g 2 rfl) .n))) (.k (cal .k Tryz.func70 rfl fn_nsign (.k (.g 3 rfl) .n)) (.k (asg .k (.g 4 rfl)) .n)))))) [] [5] rfl rfl ?_
 refine Tr.ret (end_tmp 0 rfl rfl)
set_option maxRecDepth 100000 in
theorem fn_rFits {x y:Int}:FnC Tryz.prog 43 [.is (ptv x y)] (bv (decide (fit x y))):=by
 refine FnC.of (N:=21) Tryz.func43 rfl rfl (Nat.le_of_ble_eq_true rfl) (fun w0 ok0=>?_)
 refine Tr.rs [] (.k (bxx .k (.b 0 rfl)) (.k (asg .k .c) .n)) [] [0] rfl rfl ?_
 rcases (show ¬ x ≥ -4294967296∨x ≥ -4294967296∧¬ x≤4294967296∨x ≥ -4294967296∧x≤4294967296∧¬ y ≥ -4294967296∨x ≥ -4294967296∧x≤4294967296∧y ≥ -4294967296∧¬ y≤4294967296∨x ≥ -4294967296∧x≤4294967296∧y ≥ -4294967296∧y≤4294967296 by omega) with c1|⟨c1,c2⟩|⟨c1,c2,c3⟩|⟨c1,c2,c3,c4⟩|⟨c1,c2,c3,c4⟩
 ·
  rw [decide_eq_false (show ¬ fit x y by unfold fit;omega)]
  refine Tr.rs [] (.k (faddr .k (.b 0 rfl) rfl fPX) (.k (ldc .k (.g 0 rfl) (.b 0 rfl) tyI) (.k (ge_ .k (.g 1 rfl) .c (decide_eq_false c1)) (.k (mv .k (.g 2 rfl)) (.k (skp (.o 3 rfl rfl rfl)) (.k (skp (.o 3 rfl rfl rfl)) (.k (skp (.o 3 rfl rfl rfl)) (.k (pickF .k (.g 3 rfl) .c) (.k (mv .k (.g 7 rfl)) (.k (skp (.o 8 rfl rfl rfl)) (.k (skp (.o 8 rfl rfl rfl)) (.k (skp (.o 8 rfl rfl rfl)) (.k (pickF .k (.g 8 rfl) .c) (.k (mv .k (.g 12 rfl)) (.k (skp (.o 13 rfl rfl rfl)) (.k (skp (.o 13 rfl rfl rfl)) (.k (skp (.o 13 rfl rfl rfl)) (.k (pickF .k (.g 13 rfl) .c) (.k (asg .k (.g 17 rfl)) .n))))))))))))))))))) [] [18] rfl rfl ?_
  refine Tr.ret (end_tmp 0 rfl rfl)
 ·
  rw [decide_eq_false (show ¬ fit x y by unfold fit;omega)]
  refine Tr.rs [] (.k (faddr .k (.b 0 rfl) rfl fPX) (.k (ldc .k (.g 0 rfl) (.b 0 rfl) tyI) (.k (ge_ .k (.g 1 rfl) .c (decide_eq_true c1)) (.k (mv .k (.g 2 rfl)) (.k (faddr (.o 3 rfl rfl rfl) (.b 0 rfl) rfl fPX) (.k (ldc (.o 3 rfl rfl rfl) (.g 4 rfl) (.b 0 rfl) tyI) (.k (le_ (.o 3 rfl rfl rfl) (.g 5 rfl) .c (decide_eq_false c2)) (.k (pickT .k (.g 3 rfl) (.g 6 rfl)) (.k (mv .k (.g 7 rfl)) (.k (skp (.o 8 rfl rfl rfl)) (.k (skp (.o 8 rfl rfl rfl)) (.k (skp (.o 8 rfl rfl rfl)) (.k (pickF .k (.g 8 rfl) .c) (.k (mv .k (.g 12 rfl)) (.k (skp (.o 13 rfl rfl rfl)) (.k (skp (.o 13 rfl rfl rfl)) (.k (skp (.o 13 rfl rfl rfl)) (.k (pickF .k (.g 13 rfl) .c) (.k (asg .k (.g 17 rfl)) .n))))))))))))))))))) [] [18] rfl rfl ?_
  refine Tr.ret (end_tmp 0 rfl rfl)
 ·
  rw [decide_eq_false (show ¬ fit x y by unfold fit;omega)]
  refine Tr.rs [] (.k (faddr .k (.b 0 rfl) rfl fPX) (.k (ldc .k (.g 0 rfl) (.b 0 rfl) tyI) (.k (ge_ .k (.g 1 rfl) .c (decide_eq_true c1)) (.k (mv .k (.g 2 rfl)) (.k (faddr (.o 3 rfl rfl rfl) (.b 0 rfl) rfl fPX) (.k (ldc (.o 3 rfl rfl rfl) (.g 4 rfl) (.b 0 rfl) tyI) (.k (le_ (.o 3 rfl rfl rfl) (.g 5 rfl) .c (decide_eq_true c2)) (.k (pickT .k (.g 3 rfl) (.g 6 rfl)) (.k (mv .k (.g 7 rfl)) (.k (faddr (.o 8 rfl rfl rfl) (.b 0 rfl) rfl fPY) (.k (ldc (.o 8 rfl rfl rfl) (.g 9 rfl) (.b 0 rfl) tyI) (.k (ge_ (.o 8 rfl rfl rfl) (.g 10 rfl) .c (decide_eq_false c3)) (.k (pickT .k (.g 8 rfl) (.g 11 rfl)) (.k (mv .k (.g 12 rfl)) (.k (skp (.o 13 rfl rfl rfl)) (.k (skp (.o 13 rfl rfl rfl)) (.k (skp (.o 13 rfl rfl rfl)) (.k (pickF .k (.g 13 rfl) .c) (.k (asg .k (.g 17 rfl)) .n))))))))))))))))))) [] [18] rfl rfl ?_
  refine Tr.ret (end_tmp 0 rfl rfl)
 ·
  rw [decide_eq_false (show ¬ fit x y by unfold fit;omega)]
  refine Tr.rs [] (.k (faddr .k (.b 0 rfl) rfl fPX) (.k (ldc .k (.g 0 rfl) (.b 0 rfl) tyI) (.k (ge_ .k (.g 1 rfl) .c (decide_eq_true c1)) (.k (mv .k (.g 2 rfl)) (.k (faddr (.o 3 rfl rfl rfl) (.b 0 rfl) rfl fPX) (.k (ldc (.o 3 rfl rfl rfl) (.g 4 rfl) (.b 0 rfl) tyI) (.k (le_ (.o 3 rfl rfl rfl) (.g 5 rfl) .c (decide_eq_true c2)) (.k (pickT .k (.g 3 rfl) (.g 6 rfl)) (.k (mv .k (.g 7 rfl)) (.k (faddr (.o 8 rfl rfl rfl) (.b 0 rfl) rfl fPY) (.k (ldc (.o 8 rfl rfl rfl) (.g 9 rfl) (.b 0 rfl) tyI) (.k (ge_ (.o 8 rfl rfl rfl) (.g 10 rfl) .c (decide_eq_true c3)) (.k (pickT .k (.g 8 rfl) (.g 11 rfl)) (.k (mv .k (.g 12 rfl)) (.k (faddr (.o 13 rfl rfl rfl) (.b 0 rfl) rfl fPY) (.k (ldc (.o 13 rfl rfl rfl) (.g 14 rfl) (.b 0 rfl) tyI) (.k (le_ (.o 13 rfl rfl rfl) (.g 15 rfl) .c (decide_eq_false c4)) (.k (pickT .k (.g 13 rfl) (.g 16 rfl)) (.k (asg .k (.g 17 rfl)) .n))))))))))))))))))) [] [18] rfl rfl ?_
  refine Tr.ret (end_tmp 0 rfl rfl)
 ·
  rw [decide_eq_true (show fit x y by unfold fit;omega)]
  refine Tr.rs [] (.k (faddr .k (.b 0 rfl) rfl fPX) (.k (ldc .k (.g 0 rfl) (.b 0 rfl) tyI) (.k (ge_ .k (.g 1 rfl) .c (decide_eq_true c1)) (.k (mv .k (.g 2 rfl)) (.k (faddr (.o 3 rfl rfl rfl) (.b 0 rfl) rfl fPX) (.k (ldc (.o 3 rfl rfl rfl) (.g 4 rfl) (.b 0 rfl) tyI) (.k (le_ (.o 3 rfl rfl rfl) (.g 5 rfl) .c (decide_eq_true c2)) (.k (pickT .k (.g 3 rfl) (.g 6 rfl)) (.k (mv .k (.g 7 rfl)) (.k (faddr (.o 8 rfl rfl rfl) (.b 0 rfl) rfl fPY) (.k (ldc (.o 8 rfl rfl rfl) (.g 9 rfl) (.b 0 rfl) tyI) (.k (ge_ (.o 8 rfl rfl rfl) (.g 10 rfl) .c (decide_eq_true c3)) (.k (pickT .k (.g 8 rfl) (.g 11 rfl)) (.k (mv .k (.g 12 rfl)) (.k (faddr (.o 13 rfl rfl rfl) (.b 0 rfl) rfl fPY) (.k (ldc (.o 13 rfl rfl rfl) (.g 14 rfl) (.b 0 rfl) tyI) (.k (le_ (.o 13 rfl rfl rfl) (.g 15 rfl) .c (decide_eq_true c4)) (.k (pickT .k (.g 13 rfl) (.g 16 rfl)) (.k (asg .k (.g 17 rfl)) .n))))))))))))))))))) [] [18] rfl rfl ?_
  refine Tr.ret (end_tmp 0 rfl rfl)
theorem fn_rFitsT {x y:Int} (h:fit x y):FnC Tryz.prog 43 [.is (ptv x y)] (bv true):=decide_eq_true h ▸ fn_rFits
theorem fn_rFitsF {x y:Int} (h:¬ fit x y):FnC Tryz.prog 43 [.is (ptv x y)] (bv false):=decide_eq_false h ▸ fn_rFits
set_option maxRecDepth 100000 in
theorem fn_rnum {n:Int} (h0 : -9223372036854775808≤n) (h1:n≤9223372036854775807):FnC Tryz.prog 72 [iv n] (.num 4 n):=by
 refine FnC.of (N:=5) Tryz.func72 rfl rfl (Nat.le_of_ble_eq_true rfl) (fun w0 ok0=>?_)
 refine Tr.rs [] (.k (alc .k zN) .n) [0] [0] rfl rfl ?_
 refine Tr.rs [(1,2)] (.k (mv .k (.b 0 rfl)) (.k (cal .k Tryz.func99 rfl (fn_small h0 h1) (.k (.g 0 rfl) .n)) (.k (sto .k (.b 1 rfl) (.g 1 rfl) tyN) .n))) [] [2] rfl rfl ?_
 refine Tr.ret (end_cell 0 rfl rfl tyN)
set_option maxRecDepth 100000 in
theorem fn_rminus {L1 L2:Nat} {a b:Int} (h1:L1≤1000) (h2:L2≤1000):FnC Tryz.prog 127 [.num L1 a,.num L2 b] (.num (max L1 L2+1) (a+-b)):=by
 refine FnC.of (N:=9) Tryz.func127 rfl rfl (Nat.le_of_ble_eq_true rfl) (fun w0 ok0=>?_)
 refine Tr.rs [] (.k (bxx .k (.b 0 rfl)) (.k (bxx .k (.b 1 rfl)) (.k (alc .k zN) .n))) [] [0,1,2] rfl rfl ?_
 refine Tr.ds hmx [(2,4)] (.k (ld .k (.b 0 rfl) tyN) (.k (ld .k (.b 1 rfl) tyN) (.k (cal .k Tryz.func86 rfl fn_nneg (.k (.g 1 rfl) .n)) (.k (cal .k Tryz.func45 rfl (fn_plus (by omega) (by omega)) (.k (.g 0 rfl) (.k (.g 2 rfl) .n))) (.k (sto .k (.b 2 rfl) (.g 3 rfl) tyN) .n))))) [] [4] rfl rfl ?_
 refine Tr.ret (end_cell 0 rfl rfl tyN)
set_option maxRecDepth 100000 in
theorem fn_rdet {L1 L2 L3 L4:Nat} {a b c d:Int} (h1:L1+L4≤1000) (h2:L2+L3≤1000):FnC Tryz.prog 98 [.num L1 a,.num L2 b,.num L3 c,.num L4 d] (.num (max (L1+L4) (L2+L3)+1) (a * d+-(b * c))):=by
 refine FnC.of (N:=16) Tryz.func98 rfl rfl (Nat.le_of_ble_eq_true rfl) (fun w0 ok0=>?_)
 refine Tr.rs [] (.k (bxx .k (.b 0 rfl)) (.k (bxx .k (.b 1 rfl)) (.k (bxx .k (.b 2 rfl)) (.k (bxx .k (.b 3 rfl)) (.k (alc .k zN) .n))))) [] [0,1,2,3,4] rfl rfl ?_
 refine Tr.ds hmx [(4,7)] (.k (ld .k (.b 0 rfl) tyN) (.k (ld .k (.b 3 rfl) tyN) (.k (cal .k Tryz.func71 rfl (fn_times (by omega) (by omega)) (.k (.g 0 rfl) (.k (.g 1 rfl) .n))) (.k (ld .k (.b 1 rfl) tyN) (.k (ld .k (.b 2 rfl) tyN) (.k (cal .k Tryz.func71 rfl (fn_times (by omega) (by omega)) (.k (.g 3 rfl) (.k (.g 4 rfl) .n))) (.k (cal .k Tryz.func127 rfl (fn_rminus h1 h2) (.k (.g 2 rfl) (.k (.g 5 rfl) .n))) (.k (sto .k (.b 4 rfl) (.g 6 rfl) tyN) .n)))))))) [] [7] rfl rfl ?_
 refine Tr.ret (end_cell 0 rfl rfl tyN)
def shoZ (ax ay bx b_y cx cy:Int):Int:=ax * b_y+-(ay * bx)+(bx * cy+-(b_y * cx))+(cx * ay+-(cy * ax))
theorem sho_area (ax ay bx b_y cx cy:Int):shoZ ax ay bx b_y cx cy=areaZ ax ay bx b_y cx cy:=by unfold shoZ areaZ;grind
def thrZ (ax ay bx b_y cx cy:Int):Int:=ax * (b_y * (cx * cx+cy * cy)+-((bx * bx+b_y * b_y) * cy))+-(ay * (bx * (cx * cx+cy * cy)+-((bx * bx+b_y * b_y) * cx)))+(ax * ax+ay * ay) * (bx * cy+-(b_y * cx))
set_option maxRecDepth 100000 in
theorem fn_rarea {ax ay bx b_y cx cy:Int} (f1:fit ax ay) (f2:fit bx b_y) (f3:fit cx cy):FnC Tryz.prog 69 [.is (ptv ax ay),.is (ptv bx b_y),.is (ptv cx cy)] (.num 11 (shoZ ax ay bx b_y cx cy)):=by
 refine FnC.of (N:=51) Tryz.func69 rfl rfl (Nat.le_of_ble_eq_true rfl) (fun w0 ok0=>?_)
 refine Tr.rs [] (.k (bxx .k (.b 0 rfl)) (.k (bxx .k (.b 1 rfl)) (.k (bxx .k (.b 2 rfl)) (.k (alc .k zN) .n)))) [] [0,1,2,3] rfl rfl ?_
 refine Tr.ds hmx [] (.k (faddr .k (.b 0 rfl) rfl fPX) (.k (ldc .k (.g 0 rfl) (.b 0 rfl) tyI) (.k (cal .k Tryz.func72 rfl (fn_rnum (lN f1.x (by decide)).1 (lN f1.x (by decide)).2) (.k (.g 1 rfl) .n)) (.k (faddr .k (.b 0 rfl) rfl fPY) (.k (ldc .k (.g 3 rfl) (.b 0 rfl) tyI) (.k (cal .k Tryz.func72 rfl (fn_rnum (lN f1.y (by decide)).1 (lN f1.y (by decide)).2) (.k (.g 4 rfl) .n)) (.k (faddr .k (.b 1 rfl) rfl fPX) (.k (ldc .k (.g 6 rfl) (.b 1 rfl) tyI) (.k (cal .k Tryz.func72 rfl (fn_rnum (lN f2.x (by decide)).1 (lN f2.x (by decide)).2) (.k (.g 7 rfl) .n)) (.k (faddr .k (.b 1 rfl) rfl fPY) (.k (ldc .k (.g 9 rfl) (.b 1 rfl) tyI) (.k (cal .k Tryz.func72 rfl (fn_rnum (lN f2.y (by decide)).1 (lN f2.y (by decide)).2) (.k (.g 10 rfl) .n)) (.k (cal .k Tryz.func98 rfl (fn_rdet (by decide) (by decide)) (.k (.g 2 rfl) (.k (.g 5 rfl) (.k (.g 8 rfl) (.k (.g 11 rfl) .n))))) (.k (ala .k zN) (.k (sta .k (.g 13 rfl) (.g 12 rfl) tyN) .n))))))))))))))) [0,1,2,3] [14] rfl rfl ?_
 refine Tr.ds hmx [(4,15)] (.k (ld .k (.b 4 rfl) tyN) (.k (faddr .k (.b 1 rfl) rfl fPX) (.k (ldc .k (.g 1 rfl) (.b 1 rfl) tyI) (.k (cal .k Tryz.func72 rfl (fn_rnum (lN f2.x (by decide)).1 (lN f2.x (by decide)).2) (.k (.g 2 rfl) .n)) (.k (faddr .k (.b 1 rfl) rfl fPY) (.k (ldc .k (.g 4 rfl) (.b 1 rfl) tyI) (.k (cal .k Tryz.func72 rfl (fn_rnum (lN f2.y (by decide)).1 (lN f2.y (by decide)).2) (.k (.g 5 rfl) .n)) (.k (faddr .k (.b 2 rfl) rfl fPX) (.k (ldc .k (.g 7 rfl) (.b 2 rfl) tyI) (.k (cal .k Tryz.func72 rfl (fn_rnum (lN f3.x (by decide)).1 (lN f3.x (by decide)).2) (.k (.g 8 rfl) .n)) (.k (faddr .k (.b 2 rfl) rfl fPY) (.k (ldc .k (.g 10 rfl) (.b 2 rfl) tyI) (.k (cal .k Tryz.func72 rfl (fn_rnum (lN f3.y (by decide)).1 (lN f3.y (by decide)).2) (.k (.g 11 rfl) .n)) (.k (cal .k Tryz.func98 rfl (fn_rdet (by decide) (by decide)) (.k (.g 3 rfl) (.k (.g 6 rfl) (.k (.g 9 rfl) (.k (.g 12 rfl) .n))))) (.k (cal .k Tryz.func45 rfl (fn_plus (by decide) (by decide)) (.k (.g 0 rfl) (.k (.g 13 rfl) .n))) (.k (sto .k (.b 4 rfl) (.g 14 rfl) tyN) .n)))))))))))))))) [0,2,3] [15] rfl rfl ?_
 refine Tr.ds hmx [(2,15)] (.k (ld .k (.b 3 rfl) tyN) (.k (faddr .k (.b 1 rfl) rfl fPX) (.k (ldc .k (.g 1 rfl) (.b 1 rfl) tyI) (.k (cal .k Tryz.func72 rfl (fn_rnum (lN f3.x (by decide)).1 (lN f3.x (by decide)).2) (.k (.g 2 rfl) .n)) (.k (faddr .k (.b 1 rfl) rfl fPY) (.k (ldc .k (.g 4 rfl) (.b 1 rfl) tyI) (.k (cal .k Tryz.func72 rfl (fn_rnum (lN f3.y (by decide)).1 (lN f3.y (by decide)).2) (.k (.g 5 rfl) .n)) (.k (faddr .k (.b 0 rfl) rfl fPX) (.k (ldc .k (.g 7 rfl) (.b 0 rfl) tyI) (.k (cal .k Tryz.func72 rfl (fn_rnum (lN f1.x (by decide)).1 (lN f1.x (by decide)).2) (.k (.g 8 rfl) .n)) (.k (faddr .k (.b 0 rfl) rfl fPY) (.k (ldc .k (.g 10 rfl) (.b 0 rfl) tyI) (.k (cal .k Tryz.func72 rfl (fn_rnum (lN f1.y (by decide)).1 (lN f1.y (by decide)).2) (.k (.g 11 rfl) .n)) (.k (cal .k Tryz.func98 rfl (fn_rdet (by decide) (by decide)) (.k (.g 3 rfl) (.k (.g 6 rfl) (.k (.g 9 rfl) (.k (.g 12 rfl) .n))))) (.k (cal .k Tryz.func45 rfl (fn_plus (by decide) (by decide)) (.k (.g 0 rfl) (.k (.g 13 rfl) .n))) (.k (sto .k (.b 2 rfl) (.g 14 rfl) tyN) .n)))))))))))))))) [] [15] rfl rfl ?_
 refine Tr.ret (end_cell 0 rfl rfl tyN)
set_option maxRecDepth 100000 in
theorem fn_rsq {ax ay bx b_y:Int} (f1:fit ax ay) (f2:fit bx b_y):FnC Tryz.prog 44 [.is (ptv ax ay),.is (ptv bx b_y)] (.num 9 (wayZ ax ay bx b_y)):=by
 refine FnC.of (N:=26) Tryz.func44 rfl rfl (Nat.le_of_ble_eq_true rfl) (fun w0 ok0=>?_)
 refine Tr.rs [] (.k (bxx .k (.b 0 rfl)) (.k (bxx .k (.b 1 rfl)) (.k (alc .k zN) .n))) [] [0,1,2] rfl rfl ?_
 refine Tr.rs [] (.k (faddr .k (.b 1 rfl) rfl fPX) (.k (ldc .k (.g 0 rfl) (.b 1 rfl) tyI) (.k (faddr .k (.b 0 rfl) rfl fPX) (.k (ldc .k (.g 2 rfl) (.b 0 rfl) tyI) (.k (sub_ .k (.g 1 rfl) (.g 3 rfl) (Bd.wrap (Bd.sub f2.x f1.x) (by decide))) (.k (cal .k Tryz.func72 rfl (fn_rnum (lN (Bd.sub f2.x f1.x) (by decide)).1 (lN (Bd.sub f2.x f1.x) (by decide)).2) (.k (.g 4 rfl) .n)) (.k (ala .k zN) (.k (sta .k (.g 6 rfl) (.g 5 rfl) tyN) .n)))))))) [0,1,2] [7] rfl rfl ?_
 refine Tr.rs [] (.k (faddr .k (.b 1 rfl) rfl fPY) (.k (ldc .k (.g 0 rfl) (.b 1 rfl) tyI) (.k (faddr .k (.b 0 rfl) rfl fPY) (.k (ldc .k (.g 2 rfl) (.b 0 rfl) tyI) (.k (sub_ .k (.g 1 rfl) (.g 3 rfl) (Bd.wrap (Bd.sub f2.y f1.y) (by decide))) (.k (cal .k Tryz.func72 rfl (fn_rnum (lN (Bd.sub f2.y f1.y) (by decide)).1 (lN (Bd.sub f2.y f1.y) (by decide)).2) (.k (.g 4 rfl) .n)) (.k (ala .k zN) (.k (sta .k (.g 6 rfl) (.g 5 rfl) tyN) .n)))))))) [2,3] [7] rfl rfl ?_
 refine Tr.ds hmx [(0,7)] (.k (ld .k (.b 1 rfl) tyN) (.k (ld .k (.b 1 rfl) tyN) (.k (cal .k Tryz.func71 rfl (fn_times (by decide) (by decide)) (.k (.g 0 rfl) (.k (.g 1 rfl) .n))) (.k (ld .k (.b 2 rfl) tyN) (.k (ld .k (.b 2 rfl) tyN) (.k (cal .k Tryz.func71 rfl (fn_times (by decide) (by decide)) (.k (.g 3 rfl) (.k (.g 4 rfl) .n))) (.k (cal .k Tryz.func45 rfl (fn_plus (by decide) (by decide)) (.k (.g 2 rfl) (.k (.g 5 rfl) .n))) (.k (sto .k (.b 0 rfl) (.g 6 rfl) tyN) .n)))))))) [] [7] rfl rfl ?_
 refine Tr.ret (end_cell 0 rfl rfl tyN)
set_option maxRecDepth 100000 in
theorem fn_rlift {ax ay:Int} (f1:fit ax ay):FnC Tryz.prog 156 [.is (ptv ax ay)] (.tup [.num 4 ax,.num 4 ay,.num 9 (ax * ax+ay * ay)]):=by
 refine FnC.of (N:=22) Tryz.func156 rfl rfl (Nat.le_of_ble_eq_true rfl) (fun w0 ok0=>?_)
 refine Tr.rs [] (.k (bxx .k (.b 0 rfl)) (.k (alc .k zN) (.k (alc .k zN) (.k (alc .k zN) .n)))) [] [0,1,2,3] rfl rfl ?_
 refine Tr.rs [] (.k (faddr .k (.b 0 rfl) rfl fPX) (.k (ldc .k (.g 0 rfl) (.b 0 rfl) tyI) (.k (cal .k Tryz.func72 rfl (fn_rnum (lN f1.x (by decide)).1 (lN f1.x (by decide)).2) (.k (.g 1 rfl) .n)) (.k (ala .k zN) (.k (sta .k (.g 3 rfl) (.g 2 rfl) tyN) .n))))) [0,1,2,3] [4] rfl rfl ?_
 refine Tr.rs [] (.k (faddr .k (.b 0 rfl) rfl fPY) (.k (ldc .k (.g 0 rfl) (.b 0 rfl) tyI) (.k (cal .k Tryz.func72 rfl (fn_rnum (lN f1.y (by decide)).1 (lN f1.y (by decide)).2) (.k (.g 1 rfl) .n)) (.k (ala .k zN) (.k (sta .k (.g 3 rfl) (.g 2 rfl) tyN) .n))))) [1,2,3,4] [4] rfl rfl ?_
 refine Tr.ds hmx [(0,9),(1,10),(2,11)] (.k (ld .k (.b 3 rfl) tyN) (.k (ld .k (.b 4 rfl) tyN) (.k (ld .k (.b 3 rfl) tyN) (.k (ld .k (.b 3 rfl) tyN) (.k (cal .k Tryz.func71 rfl (fn_times (by decide) (by decide)) (.k (.g 2 rfl) (.k (.g 3 rfl) .n))) (.k (ld .k (.b 4 rfl) tyN) (.k (ld .k (.b 4 rfl) tyN) (.k (cal .k Tryz.func71 rfl (fn_times (by decide) (by decide)) (.k (.g 5 rfl) (.k (.g 6 rfl) .n))) (.k (cal .k Tryz.func45 rfl (fn_plus (by decide) (by decide)) (.k (.g 4 rfl) (.k (.g 7 rfl) .n))) (.k (sto .k (.b 0 rfl) (.g 0 rfl) tyN) (.k (sto .k (.b 1 rfl) (.g 1 rfl) tyN) (.k (sto .k (.b 2 rfl) (.g 8 rfl) tyN) .n)))))))))))) [] [9,10,11] rfl rfl ?_
 refine Tr.ret (end_cell3 0 1 2 rfl rfl rfl rfl tyN tyN tyN)
set_option maxRecDepth 100000 in
theorem fn_rthree {ax ay bx b_y cx cy:Int} (f1:fit ax ay) (f2:fit bx b_y) (f3:fit cx cy):FnC Tryz.prog 153 [.is (ptv ax ay),.is (ptv bx b_y),.is (ptv cx cy)] (.num 20 (thrZ ax ay bx b_y cx cy)):=by
 refine FnC.of (N:=60) Tryz.func153 rfl rfl (Nat.le_of_ble_eq_true rfl) (fun w0 ok0=>?_)
 refine Tr.rs [] (.k (bxx .k (.b 0 rfl)) (.k (bxx .k (.b 1 rfl)) (.k (bxx .k (.b 2 rfl)) (.k (alc .k zN) .n)))) [] [0,1,2,3] rfl rfl ?_
 refine Tr.rs [] (.k (ld .k (.b 0 rfl) tyP) (.k (cal .k Tryz.func156 rfl (fn_rlift f1) (.k (.g 0 rfl) .n)) (.k (mv .k (.g 1 rfl)) (.k (exx .k (.g 2 rfl) rfl) (.k (exx .k (.g 2 rfl) rfl) (.k (exx .k (.g 2 rfl) rfl) (.k (ala .k zN) (.k (ala .k zN) (.k (ala .k zN) (.k (sta .k (.g 6 rfl) (.g 3 rfl) tyN) (.k (sta .k (.g 7 rfl) (.g 4 rfl) tyN) (.k (sta .k (.g 8 rfl) (.g 5 rfl) tyN) .n)))))))))))) [1,2,3] [9,10,11] rfl rfl ?_
 refine Tr.rs [] (.k (ld .k (.b 0 rfl) tyP) (.k (cal .k Tryz.func156 rfl (fn_rlift f2) (.k (.g 0 rfl) .n)) (.k (mv .k (.g 1 rfl)) (.k (exx .k (.g 2 rfl) rfl) (.k (exx .k (.g 2 rfl) rfl) (.k (exx .k (.g 2 rfl) rfl) (.k (ala .k zN) (.k (ala .k zN) (.k (ala .k zN) (.k (sta .k (.g 6 rfl) (.g 3 rfl) tyN) (.k (sta .k (.g 7 rfl) (.g 4 rfl) tyN) (.k (sta .k (.g 8 rfl) (.g 5 rfl) tyN) .n)))))))))))) [1,2,3,4,5] [9,10,11] rfl rfl ?_
 refine Tr.rs [] (.k (ld .k (.b 0 rfl) tyP) (.k (cal .k Tryz.func156 rfl (fn_rlift f3) (.k (.g 0 rfl) .n)) (.k (mv .k (.g 1 rfl)) (.k (exx .k (.g 2 rfl) rfl) (.k (exx .k (.g 2 rfl) rfl) (.k (exx .k (.g 2 rfl) rfl) (.k (ala .k zN) (.k (ala .k zN) (.k (ala .k zN) (.k (sta .k (.g 6 rfl) (.g 3 rfl) tyN) (.k (sta .k (.g 7 rfl) (.g 4 rfl) tyN) (.k (sta .k (.g 8 rfl) (.g 5 rfl) tyN) .n)))))))))))) [1,2,3,4,5,6,7] [9,10,11] rfl rfl ?_
 refine Tr.ds hmx [] (.k (ld .k (.b 1 rfl) tyN) (.k (ld .k (.b 5 rfl) tyN) (.k (ld .k (.b 6 rfl) tyN) (.k (ld .k (.b 8 rfl) tyN) (.k (ld .k (.b 9 rfl) tyN) (.k (cal .k Tryz.func98 rfl (fn_rdet (by decide) (by decide)) (.k (.g 1 rfl) (.k (.g 2 rfl) (.k (.g 3 rfl) (.k (.g 4 rfl) .n))))) (.k (cal .k Tryz.func71 rfl (fn_times (by decide) (by decide)) (.k (.g 0 rfl) (.k (.g 5 rfl) .n))) (.k (ala .k zN) (.k (sta .k (.g 7 rfl) (.g 6 rfl) tyN) .n))))))))) [0,2,3,4,5,6,7,8,9] [8] rfl rfl ?_
 refine Tr.ds hmx [(9,9)] (.k (ld .k (.b 9 rfl) tyN) (.k (ld .k (.b 1 rfl) tyN) (.k (ld .k (.b 3 rfl) tyN) (.k (ld .k (.b 5 rfl) tyN) (.k (ld .k (.b 6 rfl) tyN) (.k (ld .k (.b 8 rfl) tyN) (.k (cal .k Tryz.func98 rfl (fn_rdet (by decide) (by decide)) (.k (.g 2 rfl) (.k (.g 3 rfl) (.k (.g 4 rfl) (.k (.g 5 rfl) .n))))) (.k (cal .k Tryz.func71 rfl (fn_times (by decide) (by decide)) (.k (.g 1 rfl) (.k (.g 6 rfl) .n))) (.k (cal .k Tryz.func127 rfl (fn_rminus (by decide) (by decide)) (.k (.g 0 rfl) (.k (.g 7 rfl) .n))) (.k (sto .k (.b 9 rfl) (.g 8 rfl) tyN) .n)))))))))) [0,2,3,4,6,7] [9] rfl rfl ?_
 refine Tr.ds hmx [(0,9)] (.k (ld .k (.b 6 rfl) tyN) (.k (ld .k (.b 1 rfl) tyN) (.k (ld .k (.b 2 rfl) tyN) (.k (ld .k (.b 3 rfl) tyN) (.k (ld .k (.b 4 rfl) tyN) (.k (ld .k (.b 5 rfl) tyN) (.k (cal .k Tryz.func98 rfl (fn_rdet (by decide) (by decide)) (.k (.g 2 rfl) (.k (.g 3 rfl) (.k (.g 4 rfl) (.k (.g 5 rfl) .n))))) (.k (cal .k Tryz.func71 rfl (fn_times (by decide) (by decide)) (.k (.g 1 rfl) (.k (.g 6 rfl) .n))) (.k (cal .k Tryz.func45 rfl (fn_plus (by decide) (by decide)) (.k (.g 0 rfl) (.k (.g 7 rfl) .n))) (.k (sto .k (.b 0 rfl) (.g 8 rfl) tyN) .n)))))))))) [] [9] rfl rfl ?_
 refine Tr.ret (end_cell 0 rfl rfl tyN)
end Go.Proofs.YtkgagdjogedoiaaGreat

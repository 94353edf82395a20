/- The document's functions of layer 3, walked: the others. -/
import Derived.Test.YtkgagdjogedoiaaGreatRf1
set_option linter.unusedVariables false
set_option linter.unusedSimpArgs false
namespace Go.Proofs.YtkgagdjogedoiaaGreat
open Go Go.RowKit Go.Proofs.YtkgagdjogedoiaaGreat.Fx Go.Proofs.YtkgagdjogedoiaaGreatW.PrintWords
set_option maxRecDepth 100000 in
theorem fn_rOrient {ax ay bx b_y cx cy:Int}:FnC Tryz.prog 47 [.is (ptv ax ay),.is (ptv bx b_y),.is (ptv cx cy)] (iv (oriZ ax ay bx b_y cx cy)):=by
 refine FnC.of (N:=25) Tryz.func47 rfl rfl (Nat.le_of_ble_eq_true rfl) (fun w0 ok0=>?_)
 refine Tr.rs [] (.k (bxx .k (.b 0 rfl)) (.k (bxx .k (.b 1 rfl)) (.k (bxx .k (.b 2 rfl)) (.k (asg .k .c) .n)))) [] [0,1,2] rfl rfl ?_
 rcases (show ¬ fit ax ay∨fit ax ay∧¬ fit bx b_y∨fit ax ay∧fit bx b_y∧¬ fit cx cy∨fit ax ay∧fit bx b_y∧fit cx cy by by_cases h0:fit ax ay<;>by_cases h1:fit bx b_y<;>by_cases h2:fit cx cy<;>simp [h0,h1,h2]) with f1|⟨f1,f2⟩|⟨f1,f2,f3⟩|⟨f1,f2,f3⟩
 ·
  have hn:¬ (fit ax ay∧fit bx b_y∧fit cx cy):=fun h=>f1 h.1
  unfold oriZ;rw [if_neg hn]
  refine Tr.seq (Tr.rs [] (.k (ld .k (.b 0 rfl) tyP) (.k (cal .k Tryz.func43 rfl (fn_rFitsF f1) (.k (.g 0 rfl) .n)) (.k (not_ .k (.g 1 rfl)) (.k (mv .k (.g 2 rfl)) (.k (skp (.o 3 rfl rfl rfl)) (.k (skp (.o 3 rfl rfl rfl)) (.k (skp (.o 3 rfl rfl rfl)) (.k (pickT .k (.g 3 rfl) .c) (.k (mv .k (.g 7 rfl)) (.k (skp (.o 8 rfl rfl rfl)) (.k (skp (.o 8 rfl rfl rfl)) (.k (skp (.o 8 rfl rfl rfl)) (.k (pickT .k (.g 8 rfl) .c) .n))))))))))))) [0,1,2] [12] rfl rfl ?_)
  refine Tr.cond 3 rfl (fun _=>?_) nofun
  refine Tr.rs [] (.k (asg .k .c) .n) [] [0] rfl rfl ?_
  refine Tr.ret (end_tmp 0 rfl rfl)
 ·
  have hn:¬ (fit ax ay∧fit bx b_y∧fit cx cy):=fun h=>f2 h.2.1
  unfold oriZ;rw [if_neg hn]
  refine Tr.seq (Tr.rs [] (.k (ld .k (.b 0 rfl) tyP) (.k (cal .k Tryz.func43 rfl (fn_rFitsT f1) (.k (.g 0 rfl) .n)) (.k (not_ .k (.g 1 rfl)) (.k (mv .k (.g 2 rfl)) (.k (ld (.o 3 rfl rfl rfl) (.b 1 rfl) tyP) (.k (cal (.o 3 rfl rfl rfl) Tryz.func43 rfl (fn_rFitsF f2) (.k (.g 4 rfl) .n)) (.k (not_ (.o 3 rfl rfl rfl) (.g 5 rfl)) (.k (pickF .k (.g 3 rfl) (.g 6 rfl)) (.k (mv .k (.g 7 rfl)) (.k (skp (.o 8 rfl rfl rfl)) (.k (skp (.o 8 rfl rfl rfl)) (.k (skp (.o 8 rfl rfl rfl)) (.k (pickT .k (.g 8 rfl) .c) .n))))))))))))) [0,1,2] [12] rfl rfl ?_)
  refine Tr.cond 3 rfl (fun _=>?_) nofun
  refine Tr.rs [] (.k (asg .k .c) .n) [] [0] rfl rfl ?_
  refine Tr.ret (end_tmp 0 rfl rfl)
 ·
  have hn:¬ (fit ax ay∧fit bx b_y∧fit cx cy):=fun h=>f3 h.2.2
  unfold oriZ;rw [if_neg hn]
  refine Tr.seq (Tr.rs [] (.k (ld .k (.b 0 rfl) tyP) (.k (cal .k Tryz.func43 rfl (fn_rFitsT f1) (.k (.g 0 rfl) .n)) (.k (not_ .k (.g 1 rfl)) (.k (mv .k (.g 2 rfl)) (.k (ld (.o 3 rfl rfl rfl) (.b 1 rfl) tyP) (.k (cal (.o 3 rfl rfl rfl) Tryz.func43 rfl (fn_rFitsT f2) (.k (.g 4 rfl) .n)) (.k (not_ (.o 3 rfl rfl rfl) (.g 5 rfl)) (.k (pickF .k (.g 3 rfl) (.g 6 rfl)) (.k (mv .k (.g 7 rfl)) (.k (ld (.o 8 rfl rfl rfl) (.b 2 rfl) tyP) (.k (cal (.o 8 rfl rfl rfl) Tryz.func43 rfl (fn_rFitsF f3) (.k (.g 9 rfl) .n)) (.k (not_ (.o 8 rfl rfl rfl) (.g 10 rfl)) (.k (pickF .k (.g 8 rfl) (.g 11 rfl)) .n))))))))))))) [0,1,2] [12] rfl rfl ?_)
  refine Tr.cond 3 rfl (fun _=>?_) nofun
  refine Tr.rs [] (.k (asg .k .c) .n) [] [0] rfl rfl ?_
  refine Tr.ret (end_tmp 0 rfl rfl)
 ·
  unfold oriZ;rw [if_pos ⟨f1,f2,f3⟩,← sho_area]
  refine Tr.seq (Tr.rs [] (.k (ld .k (.b 0 rfl) tyP) (.k (cal .k Tryz.func43 rfl (fn_rFitsT f1) (.k (.g 0 rfl) .n)) (.k (not_ .k (.g 1 rfl)) (.k (mv .k (.g 2 rfl)) (.k (ld (.o 3 rfl rfl rfl) (.b 1 rfl) tyP) (.k (cal (.o 3 rfl rfl rfl) Tryz.func43 rfl (fn_rFitsT f2) (.k (.g 4 rfl) .n)) (.k (not_ (.o 3 rfl rfl rfl) (.g 5 rfl)) (.k (pickF .k (.g 3 rfl) (.g 6 rfl)) (.k (mv .k (.g 7 rfl)) (.k (ld (.o 8 rfl rfl rfl) (.b 2 rfl) tyP) (.k (cal (.o 8 rfl rfl rfl) Tryz.func43 rfl (fn_rFitsT f3) (.k (.g 9 rfl) .n)) (.k (not_ (.o 8 rfl rfl rfl) (.g 10 rfl)) (.k (pickF .k (.g 8 rfl) (.g 11 rfl)) .n))))))))))))) [0,1,2] [12] rfl rfl ?_)
  refine Tr.cond 3 rfl nofun (fun _=>?_)
  refine Tr.skip (Nx.go (Tr.rs [] (.k (ld .k (.b 0 rfl) tyP) (.k (ld .k (.b 1 rfl) tyP) (.k (ld .k (.b 2 rfl) tyP) (.k (cal .k Tryz.func69 rfl (fn_rarea f1 f2 f3) (.k (.g 0 rfl) (.k (.g 1 rfl) (.k (.g 2 rfl) .n)))) (.k (cal .k Tryz.func70 rfl fn_nsign (.k (.g 3 rfl) .n)) (.k (asg .k (.g 4 rfl)) .n)))))) [] [5] rfl rfl ?_))
  refine Tr.ret (end_tmp 0 rfl rfl)
theorem fn_rOrientT {ax ay bx b_y cx cy:Int} (f1:fit ax ay) (f2:fit bx b_y) (f3:fit cx cy):FnC Tryz.prog 47 [.is (ptv ax ay),.is (ptv bx b_y),.is (ptv cx cy)] (iv (sgn (areaZ ax ay bx b_y cx cy))):=by
  have h:=fn_rOrient (ax:=ax) (ay:=ay) (bx:=bx) (b_y:=b_y) (cx:=cx) (cy:=cy)
  unfold oriZ at h
  rwa [if_pos ⟨f1,f2,f3⟩] at h
def detZ (ax ay bx b_y cx cy dx dy:Int):Int:=thrZ ax ay bx b_y cx cy+-(thrZ ax ay bx b_y dx dy)+thrZ ax ay cx cy dx dy+-(thrZ bx b_y cx cy dx dy)
theorem det_all (ax ay bx b_y cx cy dx dy:Int):detZ ax ay bx b_y cx cy dx dy=allZ ax ay bx b_y cx cy dx dy:=by unfold detZ thrZ allZ sqZ tuZ;grind
set_option maxRecDepth 100000 in
theorem fn_rInCircle {ax ay bx b_y cx cy dx dy:Int}:FnC Tryz.prog 136 [.is (ptv ax ay),.is (ptv bx b_y),.is (ptv cx cy),.is (ptv dx dy)] (iv (incZ ax ay bx b_y cx cy dx dy)):=by
 refine FnC.of (N:=56) Tryz.func136 rfl rfl (Nat.le_of_ble_eq_true rfl) (fun w0 ok0=>?_)
 refine Tr.rs [] (.k (bxx .k (.b 0 rfl)) (.k (bxx .k (.b 1 rfl)) (.k (bxx .k (.b 2 rfl)) (.k (bxx .k (.b 3 rfl)) (.k (asg .k .c) .n))))) [] [0,1,2,3] rfl rfl ?_
 rcases (show ¬ fit ax ay∨fit ax ay∧¬ fit bx b_y∨fit ax ay∧fit bx b_y∧¬ fit cx cy∨fit ax ay∧fit bx b_y∧fit cx cy∧¬ fit dx dy∨fit ax ay∧fit bx b_y∧fit cx cy∧fit dx dy by by_cases h0:fit ax ay<;>by_cases h1:fit bx b_y<;>by_cases h2:fit cx cy<;>by_cases h3:fit dx dy<;>simp [h0,h1,h2,h3]) with f1|⟨f1,f2⟩|⟨f1,f2,f3⟩|⟨f1,f2,f3,f4⟩|⟨f1,f2,f3,f4⟩
 ·
  have hn:¬ (fit ax ay∧fit bx b_y∧fit cx cy∧fit dx dy):=fun h=>f1 h.1
  unfold incZ;rw [if_neg hn]
  refine Tr.seq (Tr.rs [] (.k (ld .k (.b 0 rfl) tyP) (.k (cal .k Tryz.func43 rfl (fn_rFitsF f1) (.k (.g 0 rfl) .n)) (.k (not_ .k (.g 1 rfl)) (.k (mv .k (.g 2 rfl)) (.k (skp (.o 3 rfl rfl rfl)) (.k (skp (.o 3 rfl rfl rfl)) (.k (skp (.o 3 rfl rfl rfl)) (.k (pickT .k (.g 3 rfl) .c) (.k (mv .k (.g 7 rfl)) (.k (skp (.o 8 rfl rfl rfl)) (.k (skp (.o 8 rfl rfl rfl)) (.k (skp (.o 8 rfl rfl rfl)) (.k (pickT .k (.g 8 rfl) .c) (.k (mv .k (.g 12 rfl)) (.k (skp (.o 13 rfl rfl rfl)) (.k (skp (.o 13 rfl rfl rfl)) (.k (skp (.o 13 rfl rfl rfl)) (.k (pickT .k (.g 13 rfl) .c) .n)))))))))))))))))) [0,1,2,3] [17] rfl rfl ?_)
  refine Tr.cond 4 rfl (fun _=>?_) nofun
  refine Tr.rs [] (.k (asg .k .c) .n) [] [0] rfl rfl ?_
  refine Tr.ret (end_tmp 0 rfl rfl)
 ·
  have hn:¬ (fit ax ay∧fit bx b_y∧fit cx cy∧fit dx dy):=fun h=>f2 h.2.1
  unfold incZ;rw [if_neg hn]
  refine Tr.seq (Tr.rs [] (.k (ld .k (.b 0 rfl) tyP) (.k (cal .k Tryz.func43 rfl (fn_rFitsT f1) (.k (.g 0 rfl) .n)) (.k (not_ .k (.g 1 rfl)) (.k (mv .k (.g 2 rfl)) (.k (ld (.o 3 rfl rfl rfl) (.b 1 rfl) tyP) (.k (cal (.o 3 rfl rfl rfl) Tryz.func43 rfl (fn_rFitsF f2) (.k (.g 4 rfl) .n)) (.k (not_ (.o 3 rfl rfl rfl) (.g 5 rfl)) (.k (pickF .k (.g 3 rfl) (.g 6 rfl)) (.k (mv .k (.g 7 rfl)) (.k (skp (.o 8 rfl rfl rfl)) (.k (skp (.o 8 rfl rfl rfl)) (.k (skp (.o 8 rfl rfl rfl)) (.k (pickT .k (.g 8 rfl) .c) (.k (mv .k (.g 12 rfl)) (.k (skp (.o 13 rfl rfl rfl)) (.k (skp (.o 13 rfl rfl rfl)) (.k (skp (.o 13 rfl rfl rfl)) (.k (pickT .k (.g 13 rfl) .c) .n)))))))))))))))))) [0,1,2,3] [17] rfl rfl ?_)
  refine Tr.cond 4 rfl (fun _=>?_) nofun
  refine Tr.rs [] (.k (asg .k .c) .n) [] [0] rfl rfl ?_
  refine Tr.ret (end_tmp 0 rfl rfl)
 ·
  have hn:¬ (fit ax ay∧fit bx b_y∧fit cx cy∧fit dx dy):=fun h=>f3 h.2.2.1
  unfold incZ;rw [if_neg hn]
  refine Tr.seq (Tr.rs [] (.k (ld .k (.b 0 rfl) tyP) (.k (cal .k Tryz.func43 rfl (fn_rFitsT f1) (.k (.g 0 rfl) .n)) (.k (not_ .k (.g 1 rfl)) (.k (mv .k (.g 2 rfl)) (.k (ld (.o 3 rfl rfl rfl) (.b 1 rfl) tyP) (.k (cal (.o 3 rfl rfl rfl) Tryz.func43 rfl (fn_rFitsT f2) (.k (.g 4 rfl) .n)) (.k (not_ (.o 3 rfl rfl rfl) (.g 5 rfl)) (.k (pickF .k (.g 3 rfl) (.g 6 rfl)) (.k (mv .k (.g 7 rfl)) (.k (ld (.o 8 rfl rfl rfl) (.b 2 rfl) tyP) (.k (cal (.o 8 rfl rfl rfl) Tryz.func43 rfl (fn_rFitsF f3) (.k (.g 9 rfl) .n)) (.k (not_ (.o 8 rfl rfl rfl) (.g 10 rfl)) (.k (pickF .k (.g 8 rfl) (.g 11 rfl)) (.k (mv .k (.g 12 rfl)) (.k (skp (.o 13 rfl rfl rfl)) (.k (skp (.o 13 rfl rfl rfl)) (.k (skp (.o 13 rfl rfl rfl)) (.k (pickT .k (.g 13 rfl) .c) .n)))))))))))))))))) [0,1,2,3] [17] rfl rfl ?_)
  refine Tr.cond 4 rfl (fun _=>?_) nofun
  refine Tr.rs [] (.k (asg .k .c) .n) [] [0] rfl rfl ?_
  refine Tr.ret (end_tmp 0 rfl rfl)
 ·
  have hn:¬ (fit ax ay∧fit bx b_y∧fit cx cy∧fit dx dy):=fun h=>f4 h.2.2.2
  unfold incZ;rw [if_neg hn]
  refine Tr.seq (Tr.rs [] (.k (ld .k (.b 0 rfl) tyP) (.k (cal .k Tryz.func43 rfl (fn_rFitsT f1) (.k (.g 0 rfl) .n)) (.k (not_ .k (.g 1 rfl)) (.k (mv .k (.g 2 rfl)) (.k (ld (.o 3 rfl rfl rfl) (.b 1 rfl) tyP) (.k (cal (.o 3 rfl rfl rfl) Tryz.func43 rfl (fn_rFitsT f2) (.k (.g 4 rfl) .n)) (.k (not_ (.o 3 rfl rfl rfl) (.g 5 rfl)) (.k (pickF .k (.g 3 rfl) (.g 6 rfl)) (.k (mv .k (.g 7 rfl)) (.k (ld (.o 8 rfl rfl rfl) (.b 2 rfl) tyP) (.k (cal (.o 8 rfl rfl rfl) Tryz.func43 rfl (fn_rFitsT f3) (.k (.g 9 rfl) .n)) (.k (not_ (.o 8 rfl rfl rfl) (.g 10 rfl)) (.k (pickF .k (.g 8 rfl) (.g 11 rfl)) (.k (mv .k (.g 12 rfl)) (.k (ld (.o 13 rfl rfl rfl) (.b 3 rfl) tyP) (.k (cal (.o 13 rfl rfl rfl) Tryz.func43 rfl (fn_rFitsF f4) (.k (.g 14 rfl) .n)) (.k (not_ (.o 13 rfl rfl rfl) (.g 15 rfl)) (.k (pickF .k (.g 13 rfl) (.g 16 rfl)) .n)))))))))))))))))) [0,1,2,3] [17] rfl rfl ?_)
  refine Tr.cond 4 rfl (fun _=>?_) nofun
  refine Tr.rs [] (.k (asg .k .c) .n) [] [0] rfl rfl ?_
  refine Tr.ret (end_tmp 0 rfl rfl)
 ·
  unfold incZ;rw [if_pos ⟨f1,f2,f3,f4⟩,← det_all]
  unfold detZ
  refine Tr.seq (Tr.rs [] (.k (ld .k (.b 0 rfl) tyP) (.k (cal .k Tryz.func43 rfl (fn_rFitsT f1) (.k (.g 0 rfl) .n)) (.k (not_ .k (.g 1 rfl)) (.k (mv .k (.g 2 rfl)) (.k (ld (.o 3 rfl rfl rfl) (.b 1 rfl) tyP) (.k (cal (.o 3 rfl rfl rfl) Tryz.func43 rfl (fn_rFitsT f2) (.k (.g 4 rfl) .n)) (.k (not_ (.o 3 rfl rfl rfl) (.g 5 rfl)) (.k (pickF .k (.g 3 rfl) (.g 6 rfl)) (.k (mv .k (.g 7 rfl)) (.k (ld (.o 8 rfl rfl rfl) (.b 2 rfl) tyP) (.k (cal (.o 8 rfl rfl rfl) Tryz.func43 rfl (fn_rFitsT f3) (.k (.g 9 rfl) .n)) (.k (not_ (.o 8 rfl rfl rfl) (.g 10 rfl)) (.k (pickF .k (.g 8 rfl) (.g 11 rfl)) (.k (mv .k (.g 12 rfl)) (.k (ld (.o 13 rfl rfl rfl) (.b 3 rfl) tyP) (.k (cal (.o 13 rfl rfl rfl) Tryz.func43 rfl (fn_rFitsT f4) (.k (.g 14 rfl) .n)) (.k (not_ (.o 13 rfl rfl rfl) (.g 15 rfl)) (.k (pickF .k (.g 13 rfl) (.g 16 rfl)) .n)))))))))))))))))) [0,1,2,3] [17] rfl rfl ?_)
  refine Tr.cond 4 rfl nofun (fun _=>?_)
  refine Tr.skip (Nx.go (Tr.ds hmx [] (.k (ld .k (.b 0 rfl) tyP) (.k (ld .k (.b 1 rfl) tyP) (.k (ld .k (.b 2 rfl) tyP) (.k (cal .k Tryz.func153 rfl (fn_rthree f1 f2 f3) (.k (.g 0 rfl) (.k (.g 1 rfl) (.k (.g 2 rfl) .n)))) (.k (ld .k (.b 0 rfl) tyP) (.k (ld .k (.b 1 rfl) tyP) (.k (ld .k (.b 3 rfl) tyP) (.k (cal .k Tryz.func153 rfl (fn_rthree f1 f2 f4) (.k (.g 4 rfl) (.k (.g 5 rfl) (.k (.g 6 rfl) .n)))) (.k (cal .k Tryz.func127 rfl (fn_rminus (by decide) (by decide)) (.k (.g 3 rfl) (.k (.g 7 rfl) .n))) (.k (ala .k zN) (.k (sta .k (.g 9 rfl) (.g 8 rfl) tyN) .n))))))))))) [0,1,2,3] [10] rfl rfl ?_))
  refine Tr.ds hmx [(4,6)] (.k (ld .k (.b 4 rfl) tyN) (.k (ld .k (.b 0 rfl) tyP) (.k (ld .k (.b 2 rfl) tyP) (.k (ld .k (.b 3 rfl) tyP) (.k (cal .k Tryz.func153 rfl (fn_rthree f1 f3 f4) (.k (.g 1 rfl) (.k (.g 2 rfl) (.k (.g 3 rfl) .n)))) (.k (cal .k Tryz.func45 rfl (fn_plus (by decide) (by decide)) (.k (.g 0 rfl) (.k (.g 4 rfl) .n))) (.k (sto .k (.b 4 rfl) (.g 5 rfl) tyN) .n))))))) [0,1,2,3] [6] rfl rfl ?_
  refine Tr.ds hmx [(4,6)] (.k (ld .k (.b 4 rfl) tyN) (.k (ld .k (.b 1 rfl) tyP) (.k (ld .k (.b 2 rfl) tyP) (.k (ld .k (.b 3 rfl) tyP) (.k (cal .k Tryz.func153 rfl (fn_rthree f2 f3 f4) (.k (.g 1 rfl) (.k (.g 2 rfl) (.k (.g 3 rfl) .n)))) (.k (cal .k Tryz.func127 rfl (fn_rminus (by decide) (by decide)) (.k (.g 0 rfl) (.k (.g 4 rfl) .n))) (.k (sto .k (.b 4 rfl) (.g 5 rfl) tyN) .n))))))) [0,1,2] [6] rfl rfl ?_
  refine Tr.ds hmx [] (.k (ld .k (.b 3 rfl) tyN) (.k (cal .k Tryz.func70 rfl fn_nsign (.k (.g 0 rfl) .n)) (.k (ld .k (.b 0 rfl) tyP) (.k (ld .k (.b 1 rfl) tyP) (.k (ld .k (.b 2 rfl) tyP) (.k (cal .k Tryz.func47 rfl (fn_rOrientT f1 f2 f3) (.k (.g 2 rfl) (.k (.g 3 rfl) (.k (.g 4 rfl) .n)))) (.k (mul_ .k (.g 1 rfl) (.g 5 rfl) (sgn_mul _ _)) (.k (asg .k (.g 6 rfl)) .n)))))))) [] [7] rfl rfl ?_
  refine Tr.ret (end_tmp 0 rfl rfl)
theorem disc_two {ax ay bx b_y px py:Int}:wayZ ax ay px py+wayZ px py bx b_y - wayZ ax ay bx b_y=2 * discZ ax ay bx b_y px py:=by unfold wayZ discZ sqZ;grind
theorem sgn_le {z:Int}:sgn z≤0↔z≤0:=by rcases sgn_cases z with ⟨e,h⟩|⟨e,h⟩|⟨e,h⟩<;>rw [e]<;>omega
theorem disc_le {ax ay bx b_y px py:Int}:decide (sgn (wayZ ax ay px py+wayZ px py bx b_y - wayZ ax ay bx b_y)≤0)=decide (sgn (discZ ax ay bx b_y px py)≤0) :=
  decide_eq_decide.2 (by rw [sgn_le,sgn_le,disc_two];omega)
set_option maxRecDepth 100000 in
theorem fn_rInDisc {ax ay bx b_y px py:Int}:FnC Tryz.prog 22 [.is (ptv ax ay),.is (ptv bx b_y),.is (ptv px py)] (bv (disB ax ay bx b_y px py)):=by
 refine FnC.of (N:=42) Tryz.func22 rfl rfl (Nat.le_of_ble_eq_true rfl) (fun w0 ok0=>?_)
 refine Tr.rs [] (.k (bxx .k (.b 0 rfl)) (.k (bxx .k (.b 1 rfl)) (.k (bxx .k (.b 2 rfl)) (.k (asg .k .c) .n)))) [] [0,1,2] rfl rfl ?_
 rcases (show ¬ fit ax ay∨fit ax ay∧¬ fit bx b_y∨fit ax ay∧fit bx b_y∧¬ fit px py∨fit ax ay∧fit bx b_y∧fit px py∧same px py ax ay=true∨fit ax ay∧fit bx b_y∧fit px py∧same px py ax ay=false∧same px py bx b_y=true∨fit ax ay∧fit bx b_y∧fit px py∧same px py ax ay=false∧same px py bx b_y=false by by_cases h0:fit ax ay<;>by_cases h1:fit bx b_y<;>by_cases h2:fit px py<;>cases same px py ax ay<;>cases same px py bx b_y<;>simp [h0,h1,h2]) with f1|⟨f1,f2⟩|⟨f1,f2,f3⟩|⟨f1,f2,f3,s1⟩|⟨f1,f2,f3,s1,s2⟩|⟨f1,f2,f3,s1,s2⟩
 ·
  have hn:¬ (fit ax ay∧fit bx b_y∧fit px py):=fun h=>f1 h.1
  unfold disB;rw [if_pos (.inl hn)]
  refine Tr.seq (Tr.rs [] (.k (ld .k (.b 0 rfl) tyP) (.k (cal .k Tryz.func43 rfl (fn_rFitsF f1) (.k (.g 0 rfl) .n)) (.k (not_ .k (.g 1 rfl)) (.k (mv .k (.g 2 rfl)) (.k (skp (.o 3 rfl rfl rfl)) (.k (skp (.o 3 rfl rfl rfl)) (.k (skp (.o 3 rfl rfl rfl)) (.k (pickT .k (.g 3 rfl) .c) (.k (mv .k (.g 7 rfl)) (.k (skp (.o 8 rfl rfl rfl)) (.k (skp (.o 8 rfl rfl rfl)) (.k (skp (.o 8 rfl rfl rfl)) (.k (pickT .k (.g 8 rfl) .c) (.k (mv .k (.g 12 rfl)) (.k (skp (.o 13 rfl rfl rfl)) (.k (skp (.o 13 rfl rfl rfl)) (.k (skp (.o 13 rfl rfl rfl)) (.k (pickT .k (.g 13 rfl) .c) (.k (mv .k (.g 17 rfl)) (.k (skp (.o 18 rfl rfl rfl)) (.k (skp (.o 18 rfl rfl rfl)) (.k (skp (.o 18 rfl rfl rfl)) (.k (pickT .k (.g 18 rfl) .c) .n))))))))))))))))))))))) [0,1,2] [22] rfl rfl ?_)
  refine Tr.cond 3 rfl (fun _=>?_) nofun
  refine Tr.rs [] (.k (asg .k .c) .n) [] [0] rfl rfl ?_
  refine Tr.ret (end_tmp 0 rfl rfl)
 ·
  have hn:¬ (fit ax ay∧fit bx b_y∧fit px py):=fun h=>f2 h.2.1
  unfold disB;rw [if_pos (.inl hn)]
  refine Tr.seq (Tr.rs [] (.k (ld .k (.b 0 rfl) tyP) (.k (cal .k Tryz.func43 rfl (fn_rFitsT f1) (.k (.g 0 rfl) .n)) (.k (not_ .k (.g 1 rfl)) (.k (mv .k (.g 2 rfl)) (.k (ld (.o 3 rfl rfl rfl) (.b 1 rfl) tyP) (.k (cal (.o 3 rfl rfl rfl) Tryz.func43 rfl (fn_rFitsF f2) (.k (.g 4 rfl) .n)) (.k (not_ (.o 3 rfl rfl rfl) (.g 5 rfl)) (.k (pickF .k (.g 3 rfl) (.g 6 rfl)) (.k (mv .k (.g 7 rfl)) (.k (skp (.o 8 rfl rfl rfl)) (.k (skp (.o 8 rfl rfl rfl)) (.k (skp (.o 8 rfl rfl rfl)) (.k (pickT .k (.g 8 rfl) .c) (.k (mv .k (.g 12 rfl)) (.k (skp (.o 13 rfl rfl rfl)) (.k (skp (.o 13 rfl rfl rfl)) (.k (skp (.o 13 rfl rfl rfl)) (.k (pickT .k (.g 13 rfl) .c) (.k (mv .k (.g 17 rfl)) (.k (skp (.o 18 rfl rfl rfl)) (.k (skp (.o 18 rfl rfl rfl)) (.k (skp (.o 18 rfl rfl rfl)) (.k (pickT .k (.g 18 rfl) .c) .n))))))))))))))))))))))) [0,1,2] [22] rfl rfl ?_)
  refine Tr.cond 3 rfl (fun _=>?_) nofun
  refine Tr.rs [] (.k (asg .k .c) .n) [] [0] rfl rfl ?_
  refine Tr.ret (end_tmp 0 rfl rfl)
 ·
  have hn:¬ (fit ax ay∧fit bx b_y∧fit px py):=fun h=>f3 h.2.2
  unfold disB;rw [if_pos (.inl hn)]
  refine Tr.seq (Tr.rs [] (.k (ld .k (.b 0 rfl) tyP) (.k (cal .k Tryz.func43 rfl (fn_rFitsT f1) (.k (.g 0 rfl) .n)) (.k (not_ .k (.g 1 rfl)) (.k (mv .k (.g 2 rfl)) (.k (ld (.o 3 rfl rfl rfl) (.b 1 rfl) tyP) (.k (cal (.o 3 rfl rfl rfl) Tryz.func43 rfl (fn_rFitsT f2) (.k (.g 4 rfl) .n)) (.k (not_ (.o 3 rfl rfl rfl) (.g 5 rfl)) (.k (pickF .k (.g 3 rfl) (.g 6 rfl)) (.k (mv .k (.g 7 rfl)) (.k (ld (.o 8 rfl rfl rfl) (.b 2 rfl) tyP) (.k (cal (.o 8 rfl rfl rfl) Tryz.func43 rfl (fn_rFitsF f3) (.k (.g 9 rfl) .n)) (.k (not_ (.o 8 rfl rfl rfl) (.g 10 rfl)) (.k (pickF .k (.g 8 rfl) (.g 11 rfl)) (.k (mv .k (.g 12 rfl)) (.k (skp (.o 13 rfl rfl rfl)) (.k (skp (.o 13 rfl rfl rfl)) (.k (skp (.o 13 rfl rfl rfl)) (.k (pickT .k (.g 13 rfl) .c) (.k (mv .k (.g 17 rfl)) (.k (skp (.o 18 rfl rfl rfl)) (.k (skp (.o 18 rfl rfl rfl)) (.k (skp (.o 18 rfl rfl rfl)) (.k (pickT .k (.g 18 rfl) .c) .n))))))))))))))))))))))) [0,1,2] [22] rfl rfl ?_)
  refine Tr.cond 3 rfl (fun _=>?_) nofun
  refine Tr.rs [] (.k (asg .k .c) .n) [] [0] rfl rfl ?_
  refine Tr.ret (end_tmp 0 rfl rfl)
 ·
  unfold disB;rw [if_pos (.inr (.inl s1))]
  refine Tr.seq (Tr.rs [] (.k (ld .k (.b 0 rfl) tyP) (.k (cal .k Tryz.func43 rfl (fn_rFitsT f1) (.k (.g 0 rfl) .n)) (.k (not_ .k (.g 1 rfl)) (.k (mv .k (.g 2 rfl)) (.k (ld (.o 3 rfl rfl rfl) (.b 1 rfl) tyP) (.k (cal (.o 3 rfl rfl rfl) Tryz.func43 rfl (fn_rFitsT f2) (.k (.g 4 rfl) .n)) (.k (not_ (.o 3 rfl rfl rfl) (.g 5 rfl)) (.k (pickF .k (.g 3 rfl) (.g 6 rfl)) (.k (mv .k (.g 7 rfl)) (.k (ld (.o 8 rfl rfl rfl) (.b 2 rfl) tyP) (.k (cal (.o 8 rfl rfl rfl) Tryz.func43 rfl (fn_rFitsT f3) (.k (.g 9 rfl) .n)) (.k (not_ (.o 8 rfl rfl rfl) (.g 10 rfl)) (.k (pickF .k (.g 8 rfl) (.g 11 rfl)) (.k (mv .k (.g 12 rfl)) (.k (ld (.o 13 rfl rfl rfl) (.b 2 rfl) tyP) (.k (ld (.o 13 rfl rfl rfl) (.b 0 rfl) tyP) (.k (eqS_ (.o 13 rfl rfl rfl) ptG (.g 14 rfl) (.g 15 rfl) (eqP _ _ _ _) s1) (.k (pickF .k (.g 13 rfl) (.g 16 rfl)) (.k (mv .k (.g 17 rfl)) (.k (skp (.o 18 rfl rfl rfl)) (.k (skp (.o 18 rfl rfl rfl)) (.k (skp (.o 18 rfl rfl rfl)) (.k (pickT .k (.g 18 rfl) .c) .n))))))))))))))))))))))) [0,1,2] [22] rfl rfl ?_)
  refine Tr.cond 3 rfl (fun _=>?_) nofun
  refine Tr.rs [] (.k (asg .k .c) .n) [] [0] rfl rfl ?_
  refine Tr.ret (end_tmp 0 rfl rfl)
 ·
  unfold disB;rw [if_pos (.inr (.inr s2))]
  refine Tr.seq (Tr.rs [] (.k (ld .k (.b 0 rfl) tyP) (.k (cal .k Tryz.func43 rfl (fn_rFitsT f1) (.k (.g 0 rfl) .n)) (.k (not_ .k (.g 1 rfl)) (.k (mv .k (.g 2 rfl)) (.k (ld (.o 3 rfl rfl rfl) (.b 1 rfl) tyP) (.k (cal (.o 3 rfl rfl rfl) Tryz.func43 rfl (fn_rFitsT f2) (.k (.g 4 rfl) .n)) (.k (not_ (.o 3 rfl rfl rfl) (.g 5 rfl)) (.k (pickF .k (.g 3 rfl) (.g 6 rfl)) (.k (mv .k (.g 7 rfl)) (.k (ld (.o 8 rfl rfl rfl) (.b 2 rfl) tyP) (.k (cal (.o 8 rfl rfl rfl) Tryz.func43 rfl (fn_rFitsT f3) (.k (.g 9 rfl) .n)) (.k (not_ (.o 8 rfl rfl rfl) (.g 10 rfl)) (.k (pickF .k (.g 8 rfl) (.g 11 rfl)) (.k (mv .k (.g 12 rfl)) (.k (ld (.o 13 rfl rfl rfl) (.b 2 rfl) tyP) (.k (ld (.o 13 rfl rfl rfl) (.b 0 rfl) tyP) (.k (eqS_ (.o 13 rfl rfl rfl) ptG (.g 14 rfl) (.g 15 rfl) (eqP _ _ _ _) s1) (.k (pickF .k (.g 13 rfl) (.g 16 rfl)) (.k (mv .k (.g 17 rfl)) (.k (ld (.o 18 rfl rfl rfl) (.b 2 rfl) tyP) (.k (ld (.o 18 rfl rfl rfl) (.b 1 rfl) tyP) (.k (eqS_ (.o 18 rfl rfl rfl) ptG (.g 19 rfl) (.g 20 rfl) (eqP _ _ _ _) s2) (.k (pickF .k (.g 18 rfl) (.g 21 rfl)) .n))))))))))))))))))))))) [0,1,2] [22] rfl rfl ?_)
  refine Tr.cond 3 rfl (fun _=>?_) nofun
  refine Tr.rs [] (.k (asg .k .c) .n) [] [0] rfl rfl ?_
  refine Tr.ret (end_tmp 0 rfl rfl)
 ·
  unfold disB;rw [if_neg (not_or.2 ⟨fun h=>h ⟨f1,f2,f3⟩,not_or.2 ⟨by rw [s1];simp,by rw [s2];simp⟩⟩)]
  refine Tr.seq (Tr.rs [] (.k (ld .k (.b 0 rfl) tyP) (.k (cal .k Tryz.func43 rfl (fn_rFitsT f1) (.k (.g 0 rfl) .n)) (.k (not_ .k (.g 1 rfl)) (.k (mv .k (.g 2 rfl)) (.k (ld (.o 3 rfl rfl rfl) (.b 1 rfl) tyP) (.k (cal (.o 3 rfl rfl rfl) Tryz.func43 rfl (fn_rFitsT f2) (.k (.g 4 rfl) .n)) (.k (not_ (.o 3 rfl rfl rfl) (.g 5 rfl)) (.k (pickF .k (.g 3 rfl) (.g 6 rfl)) (.k (mv .k (.g 7 rfl)) (.k (ld (.o 8 rfl rfl rfl) (.b 2 rfl) tyP) (.k (cal (.o 8 rfl rfl rfl) Tryz.func43 rfl (fn_rFitsT f3) (.k (.g 9 rfl) .n)) (.k (not_ (.o 8 rfl rfl rfl) (.g 10 rfl)) (.k (pickF .k (.g 8 rfl) (.g 11 rfl)) (.k (mv .k (.g 12 rfl)) (.k (ld (.o 13 rfl rfl rfl) (.b 2 rfl) tyP) (.k (ld (.o 13 rfl rfl rfl) (.b 0 rfl) tyP) (.k (eqS_ (.o 13 rfl rfl rfl) ptG (.g 14 rfl) (.g 15 rfl) (eqP _ _ _ _) s1) (.k (pickF .k (.g 13 rfl) (.g 16 rfl)) (.k (mv .k (.g 17 rfl)) (.k (ld (.o 18 rfl rfl rfl) (.b 2 rfl) tyP) (.k (ld (.o 18 rfl rfl rfl) (.b 1 rfl) tyP) (.k (eqS_ (.o 18 rfl rfl rfl) ptG (.g 19 rfl) (.g 20 rfl) (eqP _ _ _ _) s2) (.k (pickF .k (.g 18 rfl) (.g 21 rfl)) .n))))))))))))))))))))))) [0,1,2] [22] rfl rfl ?_)
  refine Tr.cond 3 rfl nofun (fun _=>?_)
  refine Tr.skip (Nx.go (Tr.ds hmx [] (.k (ld .k (.b 0 rfl) tyP) (.k (ld .k (.b 2 rfl) tyP) (.k (cal .k Tryz.func44 rfl (fn_rsq f1 f3) (.k (.g 0 rfl) (.k (.g 1 rfl) .n))) (.k (ld .k (.b 2 rfl) tyP) (.k (ld .k (.b 1 rfl) tyP) (.k (cal .k Tryz.func44 rfl (fn_rsq f3 f2) (.k (.g 3 rfl) (.k (.g 4 rfl) .n))) (.k (cal .k Tryz.func45 rfl (fn_plus (by decide) (by decide)) (.k (.g 2 rfl) (.k (.g 5 rfl) .n))) (.k (ld .k (.b 0 rfl) tyP) (.k (ld .k (.b 1 rfl) tyP) (.k (cal .k Tryz.func44 rfl (fn_rsq f1 f2) (.k (.g 7 rfl) (.k (.g 8 rfl) .n))) (.k (cal .k Tryz.func46 rfl (fn_ncmp (by decide) (by decide)) (.k (.g 6 rfl) (.k (.g 9 rfl) .n))) (.k (le_ .k (.g 10 rfl) .c disc_le) (.k (asg .k (.g 11 rfl)) .n))))))))))))) [] [12] rfl rfl ?_))
  refine Tr.ret (end_tmp 0 rfl rfl)
set_option maxRecDepth 100000 in
theorem fn_rConvex (ps:List (Int × Int)) (hl:ps.length≤1000000):FnC Tryz.prog 137 [.vec 2 (ps.map pc)] (bv (convB ps)):=by
 refine FnC.of (N:=45) Tryz.func137 rfl rfl (Nat.le_of_ble_eq_true rfl) (fun w0 ok0=>?_)
 refine Tr.rs [] (.k (asg .k .c) .n) [0] [] rfl rfl ?_
 refine Tr.seq (Tr.rs [] (.k (asg .k .c) .n) [0] [0] rfl rfl ?_)
 refine Tr.block (?_)
 refine Tr.loop (fun n_ F_=>∃ i:Nat,i≤ps.length∧n_=ps.length - i∧F_=[.s 0 (.vec 2 (ps.map pc)),.s 3 (iv ((i:Nat):Int))]∧(∀ i',i' < i→∀ k,i' < k→k < ps.length→∀ j,k < j→j < ps.length→oriL ps i' k j=1)) (ps.length) (F0:=[.s 0 (.vec 2 (ps.map pc)),.s 3 (iv ((0:Nat):Int))]) ⟨0,Nat.zero_le _,rfl,rfl,fun i hi=>absurd hi (Nat.not_lt_zero _)⟩ (Sub.all (.cons 0 rfl (.cons 1 rfl .nil))) (fun n_ F_ hI=>?_)
 obtain ⟨i,hi,rfl,rfl,him⟩:=hI
 refine Tr.seq (Tr.rs [] (.k (mv .k (.b 1 rfl)) (.k (mv .k (.b 0 rfl)) (.k (len_ .k rwP (.g 1 rfl) (len_map ps)) (.k (lt_ .k (.g 0 rfl) (.g 2 rfl) rfl) .n)))) [0,1] [3] rfl rfl ?_)
 refine Tr.cond 2 rfl (fun e9=>?_) (fun e9=>?_)
 ·
  have hi2:i < ps.length:=by simpa using e9
  refine Tr.skip (Nx.go (Tr.seq (Tr.block (Tr.rs [] (.k (mv .k (.b 1 rfl)) (.k (add_ .k (.g 0 rfl) .c (wrap_succ hi2 hl)) (.k (asg .k (.g 1 rfl)) .n))) [0,1] [2] rfl rfl ?_))))
  refine Tr.block (?_)
  refine Tr.loop (fun n_ F_=>∃ k:Nat,k≤ps.length∧n_=ps.length - k∧F_=[.s 0 (.vec 2 (ps.map pc)),.s 3 (iv ((i:Nat):Int)),.s 4 (iv ((k:Nat):Int))]∧(i < k∧∀ k',i < k'→k' < k→∀ j,k' < j→j < ps.length→oriL ps i k' j=1)) (ps.length - (i+1)) (F0:=[.s 0 (.vec 2 (ps.map pc)),.s 3 (iv ((i:Nat):Int)),.s 4 (iv (((i+1):Nat):Int))]) ⟨(i+1),(by omega),rfl,rfl,⟨by omega,fun k' h1 h2=>by omega⟩⟩ (Sub.all (.cons 0 rfl (.cons 1 rfl (.cons 2 rfl .nil)))) (fun n_ F_ hI=>?_)
  obtain ⟨k,hk,rfl,rfl,hkm⟩:=hI
  refine Tr.seq (Tr.rs [] (.k (mv .k (.b 2 rfl)) (.k (mv .k (.b 0 rfl)) (.k (len_ .k rwP (.g 1 rfl) (len_map ps)) (.k (lt_ .k (.g 0 rfl) (.g 2 rfl) rfl) .n)))) [0,1,2] [3] rfl rfl ?_)
  refine Tr.cond 3 rfl (fun e17=>?_) (fun e17=>?_)
  ·
   have hk2:k < ps.length:=by simpa using e17
   refine Tr.skip (Nx.go (Tr.seq (Tr.block (Tr.rs [] (.k (mv .k (.b 2 rfl)) (.k (add_ .k (.g 0 rfl) .c (wrap_succ hk2 hl)) (.k (asg .k (.g 1 rfl)) .n))) [0,1,2] [2] rfl rfl ?_))))
   refine Tr.block (?_)
   refine Tr.loop (fun n_ F_=>∃ j:Nat,j≤ps.length∧n_=ps.length - j∧F_=[.s 0 (.vec 2 (ps.map pc)),.s 3 (iv ((i:Nat):Int)),.s 4 (iv ((k:Nat):Int)),.s 5 (iv ((j:Nat):Int))]∧(k < j∧∀ j',k < j'→j' < j→oriL ps i k j'=1)) (ps.length - (k+1)) (F0:=[.s 0 (.vec 2 (ps.map pc)),.s 3 (iv ((i:Nat):Int)),.s 4 (iv ((k:Nat):Int)),.s 5 (iv (((k+1):Nat):Int))]) ⟨(k+1),(by omega),rfl,rfl,⟨by omega,fun j' h1 h2=>by omega⟩⟩ (Sub.all (.cons 0 rfl (.cons 1 rfl (.cons 2 rfl (.cons 3 rfl .nil))))) (fun n_ F_ hI=>?_)
   obtain ⟨j,hj,rfl,rfl,hjm⟩:=hI
   refine Tr.seq (Tr.rs [] (.k (mv .k (.b 3 rfl)) (.k (mv .k (.b 0 rfl)) (.k (len_ .k rwP (.g 1 rfl) (len_map ps)) (.k (lt_ .k (.g 0 rfl) (.g 2 rfl) rfl) .n)))) [0,1,2,3] [3] rfl rfl ?_)
   refine Tr.cond 4 rfl (fun e25=>?_) (fun e25=>?_)
   ·
    have hj2:j < ps.length:=by simpa using e25
    refine Tr.skip (Nx.go (Tr.seq (Tr.block (?_))))
    obtain ⟨x1,y1,p1⟩:∃ x y,ps[i]?=some (x,y):=⟨_,_,List.getElem?_eq_getElem hi2⟩
    obtain ⟨x2,y2,p2⟩:∃ x y,ps[k]?=some (x,y):=⟨_,_,List.getElem?_eq_getElem hk2⟩
    obtain ⟨x3,y3,p3⟩:∃ x y,ps[j]?=some (x,y):=⟨_,_,List.getElem?_eq_getElem hj2⟩
    have p4:=oriL_at p1 p2 p3
    refine Tr.ds hmx [] (.k (mv .k (.b 0 rfl)) (.k (mv .k (.b 1 rfl)) (.k (idx_ .k rwP (.g 0 rfl) (.g 1 rfl) rfl (gm p1)) (.k (ld_at .k (.g 2 rfl) tyP rfl (aPc _ _)) (.k (mv .k (.b 0 rfl)) (.k (mv .k (.b 2 rfl)) (.k (idx_ .k rwP (.g 4 rfl) (.g 5 rfl) rfl (gm p2)) (.k (ld_at .k (.g 6 rfl) tyP rfl (aPc _ _)) (.k (mv .k (.b 0 rfl)) (.k (mv .k (.b 3 rfl)) (.k (idx_ .k rwP (.g 8 rfl) (.g 9 rfl) rfl (gm p3)) (.k (ld_at .k (.g 10 rfl) tyP rfl (aPc _ _)) (.k (cal .k Tryz.func47 rfl (fn_rOrient (ax:=x1) (ay:=y1) (bx:=x2) (b_y:=y2) (cx:=x3) (cy:=y3)) (.k (.g 3 rfl) (.k (.g 7 rfl) (.k (.g 11 rfl) .n)))) (.k (ne_ .k (.g 12 rfl) .c rfl) .n)))))))))))))) [0,1,2,3] [13] rfl rfl ?_
    refine Tr.cond 4 rfl (fun e41=>?_) (fun e41=>?_)
    ·
     have hbad:oriL ps i k j≠1:=by rw [p4];simpa using e41
     rw [conv_not hj2 hjm.1 hkm.1 hbad]
     refine Tr.rs [] (.k (asg .k .c) .n) [] [0] rfl rfl ?_
     refine Tr.ret (end_tmp 0 rfl rfl)
    ·
     have hok:oriL ps i k j=1:=by rw [p4];simpa using e41
     refine Tr.skip (Nx.bkN (Nx.go (Tr.reg [(3,2)] (.k (mv .k (.b 3 rfl)) (.k (add_ .k (.g 0 rfl) .c (wrap_succ hj2 hl)) (.k (asg .k (.g 1 rfl)) .n))) [0,1,2] [2] rfl rfl (Nx.again (ps.length - (j+1)) (by omega) [.s 0 (.vec 2 (ps.map pc)),.s 3 (iv ((i:Nat):Int)),.s 4 (iv ((k:Nat):Int)),.s 5 (iv (((j+1):Nat):Int))] ⟨j+1,by omega,rfl,rfl,⟨by have:=hjm.1;omega,fun j' h1 h2=>by rcases Nat.lt_succ_iff_lt_or_eq.1 h2 with h|rfl;(exact hjm.2 j' h1 h);exact hok⟩⟩ (Sub.all (.cons 0 rfl (.cons 1 rfl (.cons 2 rfl (.cons 3 rfl .nil)))))))))
   ·
    have hj3:ps.length≤j:=by simpa using e25
    refine Tr.exit (Nx.thX (Nx.thX (Nx.bkX (Nx.bkN (Nx.go (Tr.reg [(2,2)] (.k (mv .k (.b 2 rfl)) (.k (add_ .k (.g 0 rfl) .c (wrap_succ hk2 hl)) (.k (asg .k (.g 1 rfl)) .n))) [0,1] [2] rfl rfl (Nx.again (ps.length - (k+1)) (by omega) [.s 0 (.vec 2 (ps.map pc)),.s 3 (iv ((i:Nat):Int)),.s 4 (iv (((k+1):Nat):Int))] ⟨k+1,by omega,rfl,rfl,⟨by have:=hkm.1;omega,fun k' h1 h2=>by rcases Nat.lt_succ_iff_lt_or_eq.1 h2 with h|rfl;(exact hkm.2 k' h1 h);(exact fun j' h3 h4=>hjm.2 j' h3 (by omega))⟩⟩ (Sub.all (.cons 0 rfl (.cons 1 rfl (.cons 2 rfl .nil)))))))))))
  ·
   have hk3:ps.length≤k:=by simpa using e17
   refine Tr.exit (Nx.thX (Nx.thX (Nx.bkX (Nx.bkN (Nx.go (Tr.reg [(1,2)] (.k (mv .k (.b 1 rfl)) (.k (add_ .k (.g 0 rfl) .c (wrap_succ hi2 hl)) (.k (asg .k (.g 1 rfl)) .n))) [0] [2] rfl rfl (Nx.again (ps.length - (i+1)) (by omega) [.s 0 (.vec 2 (ps.map pc)),.s 3 (iv (((i+1):Nat):Int))] ⟨i+1,by omega,rfl,rfl,fun i' hi'=>by rcases Nat.lt_succ_iff_lt_or_eq.1 hi' with h|rfl;(exact him i' h);(exact fun k' h1 h2=>hkm.2 k' h1 (by omega))⟩ (Sub.all (.cons 0 rfl (.cons 1 rfl .nil))))))))))
 ·
  have hi3:ps.length≤i:=by simpa using e9
  refine Tr.exit (Nx.thX (Nx.thX (Nx.bkX (Nx.go (?_)))))
  rw [conv_so (ps:=ps) (fun j hj k hk i hi=>him i (by omega) k hi (by omega) j hk hj)]
  refine Tr.rs [] (.k (mv .k (.b 0 rfl)) (.k (len_ .k rwP (.g 0 rfl) (len_map ps)) (.k (ge_ .k (.g 1 rfl) .c (show decide ((((ps.length:Nat):Int)) ≥ 3)=decide (((ps.length:Nat):Int) > 2) from decide_eq_decide.2 (by omega))) (.k (asg .k (.g 2 rfl)) .n)))) [] [3] rfl rfl ?_
  refine Tr.ret (end_tmp 0 rfl rfl)
end Go.Proofs.YtkgagdjogedoiaaGreat

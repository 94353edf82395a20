/- The document's functions of layer 3, walked: the others. -/
import Derived.Test.YtkgagdjogedoiaaGreatRf1
set_option linter.unusedVariables false
set_option linter.unusedSimpArgs false
namespace Go.Proofs.YtkgagdjogedoiaaGreat
open Go Go.RowKit Go.Proofs.YtkgagdjogedoiaaGreat.Fx Go.Proofs.YtkgagdjogedoiaaGreatW.PrintWords
set_option maxRecDepth 100000 in
theorem fn_rOrient {ax ay bx b_y cx cy:Int}:FnC Tryz.prog 47 [.is (ptv ax ay),.is (ptv bx b_y),.is (ptv cx cy)] (iv (oriZ ax ay bx b_y cx cy)):=by
 refine FnC.of (N:=25) Tryz.func47 rfl rfl (Nat.le_of_ble_eq_true rfl) (fun w0 ok0=>?_)
 refine Tr.rs [] (.k (bxx .k (.b 0 rfl)) (.k (bxx .k (.b 1 rfl)) (.k (bxx .k (.b 2 rfl)) (.k (asg .k .c) .n)))) [] [0,1,2] rfl rfl ?_
 rcases (show ¬ fit ax ay∨fit ax ay∧¬ fit bx b_y∨fit ax ay∧fit bx b_y∧¬ fit cx cy∨fit ax ay∧fit bx b_y∧fit cx cy by by_cases h0:fit ax ay<;>by_cases h1:fit bx b_y<;>by_cases h2:fit cx cy<;>simp [h0,h1,h2]) with f1|⟨f1,f2⟩|⟨f1,f2,f3⟩|⟨f1,f2,f3⟩
 ·
  have hn:¬ (fit ax ay∧fit bx b_y∧fit cx cy):=fun h=>f1 h.1
  unfold oriZ;rw [if_neg hn]
  refine Tr.seq (Tr.rs [] (.k (ld .k (.b 0 rfl) tyP) (.k (cal .k Tryz.func43 rfl (fn_rFitsF f1) (.k (.g 0 rfl) .n)) (.k (not_ .k (.g 1 rfl)) (.k (mv .k (.g 2 rfl)) (.k (skp (.o 3 rfl rfl rfl)) (.k (skp (.o 3 rfl rfl rfl)) (.k (skp (.o 3 rfl rfl rfl)) (.k (pickT .k (.g 3 rfl) .c) (.k (mv .k (.g 7 rfl)) (.k (skp (.o 8 rfl rfl rfl)) (.k (skp (.o 8 rfl rfl rfl)) (.k (skp (.o 8 rfl rfl rfl)) (.k (pickT .k (.g 8 rfl) .c) .n))))))))))))) [0,1,2] [12] rfl rfl ?_)
  refine Tr.cond 3 rfl (fun _=>?_) nofun
  refine Tr.rs [] (.k (asg .k .c) .n) [] [0] rfl rfl ?_
  refine Tr.ret (end_tmp 0 rfl rfl)
 ·
  have hn:¬ (fit ax ay∧fit bx b_y∧fit cx cy):=fun h=>f2 h.2.1
  unfold oriZ;rw [if_neg hn]
  refine Tr.seq (Tr.rs [] (.k (ld .k (.b 0 rfl) tyP) (.k (cal .k Tryz.func43 rfl (fn_rFitsT f1) (.k (.g 0 rfl) .n)) (.k (not_ .k (.g 1 rfl)) (.k (mv .k (.g 2 rfl)) (.k (ld (.o 3 rfl rfl rfl) (.b 1 rfl) tyP) (.k (cal (.o 3 rfl rfl rfl) Tryz.func43 rfl (fn_rFitsF f2) (.k (.g 4 rfl) .n)) (.k (not_ (.o 3 rfl rfl rfl) (.g 5 rfl)) (.k (pickF .k (.g 3 rfl) (.g 6 rfl)) (.k (mv .k (.g 7 rfl)) (.k (skp (.o 8 rfl rfl rfl)) (.k (skp (.o 8 rfl rfl rfl)) (.k (skp (.o 8 rfl rfl rfl)) (.k (pickT .k (.g 8 rfl) .c) .n))))))))))))) [0,1,2] [12] rfl rfl ?_)
  refine Tr.cond 3 rfl (fun _=>?_) nofun
  refine Tr.rs [] (.k (asg .k .c) .n) [] [0] rfl rfl ?_
  refine Tr.ret (end_tmp 0 rfl rfl)
 ·
  have hn:¬ (fit ax ay∧fit bx b_y∧fit cx cy):=fun h=>f3 h.2.2
  unfold oriZ;rw [if_neg hn]
  refine Tr.seq (Tr.rs [] (.k (ld .k (.b 0 rfl) tyP) (.k (cal .k Tryz.func43 rfl (fn_rFitsT f1) (.k (.g 0 rfl) .n)) (.k (not_ .k (.g 1 rfl)) (.k (mv .k (.g 2 rfl)) (.k (ld (.o 3 rfl rfl rfl) (.b 1 rfl) tyP) (.k (cal (.o 3 rfl rfl rfl) Tryz.func43 rfl (fn_rFitsT f2) (.k (.g 4 rfl) .n)) (.k (not_ (.o 3 rfl rfl rfl) (.g 5 rfl)) (.k (pickF .k (.g 3 rfl) (.g 6 rfl)) (.k (mv .k (.g 7 rfl)) (.k (ld (.o 8 rfl rfl rfl) (.b 2 rfl) tyP) (.k (cal (.o 8 rfl rfl rfl) Tryz.func43 rfl (fn_rFitsF f3) (.k (.g 9 rfl) .n)) (.k (not_ (.o 8 rfl rfl rfl) (.g 10 rfl)) (.k (pickF .k (.g 8 rfl) (.g 11 rfl)) .n))))))))))))) [0,1,2] [12] rfl rfl ?_)
  refine Tr.cond 3 rfl (fun _=>?_) nofun
  refine Tr.rs [] (.k (asg .k .c) .n) [] [0] rfl rfl ?_
  refine Tr.ret (end_tmp 0 rfl rfl)
 ·
  unfold oriZ;rw [if_pos ⟨f1,f2,f3⟩,← sho_area]
  refine Tr.seq (Tr.rs [] (.k (ld .k (.b 0 rfl) tyP) (.k (cal .k Tryz.func43 rfl (fn_rFitsT f1) (.k (.g 0 rfl) .n)) (.k (not_ .k (.g 1 rfl)) (.k (mv .k (.g 2 rfl)) (.k (ld (.o 3 rfl rfl rfl) (.b 1 rfl) tyP) (.k (cal (.o 3 rfl rfl rfl) Tryz.func43 rfl (fn_rFitsT f2) (.k (.g 4 rfl) .n)) (.k (not_ (.o 3 rfl rfl rfl) (.g 5 rfl)) (.k (pickF .k (.g 3 rfl) (.g 6 rfl)) (.k (mv .k (.g 7 rfl)) (.k (ld (.o 8 rfl rfl rfl) (.b 2 rfl) tyP) (.k (cal (.o 8 rfl rfl rfl) Tryz.func43 rfl (fn_rFitsT f3) (.k (.g 9 rfl) .n)) (.k (not_ (.o 8 rfl rfl rfl) (.g 10 rfl)) (.k (pickF .k (.g 8 rfl) (.g 11 rfl)) .n))))))))))))) [0,1,2] [12] rfl rfl ?_)
  refine Tr.cond 3 rfl nofun (fun _=>?_)
  refine Tr.skip (Nx.go (Tr.rs [] (.k (ld .k (.b 0 rfl) tyP) (.k (ld .k (.b 1 rfl) tyP) (.k (ld .k (.b 2 rfl) tyP) (.k (cal .k Tryz.func69 rfl (fn_rarea f1 f2 f3) (.k (.g 0 rfl) (.k (.g 1 rfl) (.k (.g 2 rfl) .n)))) (.k (cal .k Tryz.func70 rfl fn_nsign (.k (.g 3 rfl) .n)) (.k (asg .k (.g 4 rfl)) .n)))))) [] [5] rfl rfl ?_))
  refine Tr.ret (end_tmp 0 rfl rfl)
theorem disc_two {ax ay bx b_y px py:Int}:wayZ ax ay px py+wayZ px py bx b_y - wayZ ax ay bx b_y=2 * discZ ax ay bx b_y px py:=by unfold wayZ discZ sqZ;grind
theorem sgn_le {z:Int}:sgn z≤0↔z≤0:=by rcases sgn_cases z with ⟨e,h⟩|⟨e,h⟩|⟨e,h⟩<;>rw [e]<;>omega
theorem disc_le {ax ay bx b_y px py:Int}:decide (sgn (wayZ ax ay px py+wayZ px py bx b_y - wayZ ax ay bx b_y)≤0)=decide (sgn (discZ ax ay bx b_y px py)≤0) :=
  decide_eq_decide.2 (by rw [sgn_le,sgn_le,disc_two];omega)
set_option maxRecDepth 100000 in
theorem fn_rInDisc {ax ay bx b_y px py:Int}:FnC Tryz.prog 22 [.is (ptv ax ay),.is (ptv bx b_y),.is (ptv px py)] (bv (disB ax ay bx b_y px py)):=by
 refine FnC.of (N:=42) Tryz.func22 rfl rfl (Nat.le_of_ble_eq_true rfl) (fun w0 ok0=>?_)
 refine Tr.rs [] (.k (bxx .k (.b 0 rfl)) (.k (bxx .k (.b 1 rfl)) (.k (bxx .k (.b 2 rfl)) (.k (asg .k .c) .n)))) [] [0,1,2] rfl rfl ?_
 rcases (show ¬ fit ax ay∨fit ax ay∧¬ fit bx b_y∨fit ax ay∧fit bx b_y∧¬ fit px py∨fit ax ay∧fit bx b_y∧fit px py∧same px py ax ay=true∨fit ax ay∧fit bx b_y∧fit px py∧same px py ax ay=false∧same px py bx b_y=true∨fit ax ay∧fit bx b_y∧fit px py∧same px py ax ay=false∧same px py bx b_y=false by by_cases h0:fit ax ay<;>by_cases h1:fit bx b_y<;>by_cases h2:fit px py<;>cases same px py ax ay<;>cases same px py bx b_y<;>simp [h0,h1,h2]) with f1|⟨f1,f2⟩|⟨f1,f2,f3⟩|⟨f1,f2,f3,s1⟩|⟨f1,f2,f3,s1,s2⟩|⟨f1,f2,f3,s1,s2⟩
 ·
  have hn:¬ (fit ax ay∧fit bx b_y∧fit px py):=fun h=>f1 h.1
  unfold disB;rw [if_pos (.inl hn)]
  refine Tr.seq (Tr.rs [] (.k (ld .k (.b 0 rfl) tyP) (.k (cal .k Tryz.func43 rfl (fn_rFitsF f1) (.k (.g 0 rfl) .n)) (.k (not_ .k (.g 1 rfl)) (.k (mv .k (.g 2 rfl)) (.k (skp (.o 3 rfl rfl rfl)) (.k (skp (.o 3 rfl rfl rfl)) (.k (skp (.o 3 rfl rfl rfl)) (.k (pickT .k (.g 3 rfl) .c) (.k (mv .k (.g 7 rfl)) (.k (skp (.o 8 rfl rfl rfl)) (.k (skp (.o 8 rfl rfl rfl)) (.k (skp (.o 8 rfl rfl rfl)) (.k (pickT .k (.g 8 rfl) .c) (.k (mv .k (.g 12 rfl)) (.k (skp (.o 13 rfl rfl rfl)) (.k (skp (.o 13 rfl rfl rfl)) (.k (skp (.o 13 rfl rfl rfl)) (.k (pickT .k (.g 13 rfl) .c) (.k (mv .k (.g 17 rfl)) (.k (skp (.o 18 rfl rfl rfl)) (.k (skp (.o 18 rfl rfl rfl)) (.k (skp (.o 18 rfl rfl rfl)) (.k (pickT .k (.g 18 rfl) .c) .n))))))))))))))))))))))) [0,1,2] [22] rfl rfl ?_)
  refine Tr.cond 3 rfl (fun _=>?_) nofun
  refine Tr.rs [] (.k (asg .k .c) .n) [] [0] rfl rfl ?_
  refine Tr.ret (end_tmp 0 rfl rfl)
 ·
  have hn:¬ (fit ax ay∧fit bx b_y∧fit px py):=fun h=>f2 h.2.1
  unfold disB;rw [if_pos (.inl hn)]
  refine Tr.seq (Tr.rs [] (.k (ld .k (.b 0 rfl) tyP) (.k (cal .k Tryz.func43 rfl (fn_rFitsT f1) (.k (.g 0 rfl) .n)) (.k (not_ .k (.g 1 rfl)) (.k (mv .k (.g 2 rfl)) (.k (ld (.o 3 rfl rfl rfl) (.b 1 rfl) tyP) (.k (cal (.o 3 rfl rfl rfl) Tryz.func43 rfl (fn_rFitsF f2) (.k (.g 4 rfl) .n)) (.k (not_ (.o 3 rfl rfl rfl) (.g 5 rfl)) (.k (pickF .k (.g 3 rfl) (.g 6 rfl)) (.k (mv .k (.g 7 rfl)) (.k (skp (.o 8 rfl rfl rfl)) (.k (skp (.o 8 rfl rfl rfl)) (.k (skp (.o 8 rfl rfl rfl)) (.k (pickT .k (.g 8 rfl) .c) (.k (mv .k (.g 12 rfl)) (.k (skp (.o 13 rfl rfl rfl)) (.k (skp (.o 13 rfl rfl rfl)) (.k (skp (.o 13 rfl rfl rfl)) (.k (pickT .k (.g 13 rfl) .c) (.k (mv .k (.g 17 rfl)) (.k (skp (.o 18 rfl rfl rfl)) (.k (skp (.o 18 rfl rfl rfl)) (.k (skp (.o 18 rfl rfl rfl)) (.k (pickT .k (.g 18 rfl) .c) .n))))))))))))))))))))))) [0,1,2] [22] rfl rfl ?_)
  refine Tr.cond 3 rfl (fun _=>?_) nofun
  refine Tr.rs [] (.k (asg .k .c) .n) [] [0] rfl rfl ?_
  refine Tr.ret (end_tmp 0 rfl rfl)
 ·
  have hn:¬ (fit ax ay∧fit bx b_y∧fit px py):=fun h=>f3 h.2.2
  unfold disB;rw [if_pos (.inl hn)]
  refine Tr.seq (Tr.rs [] (.k (ld .k (.b 0 rfl) tyP) (.k (cal .k Tryz.func43 rfl (fn_rFitsT f1) (.k (.g 0 rfl) .n)) (.k (not_ .k (.g 1 rfl)) (.k (mv .k (.g 2 rfl)) (.k (ld (.o 3 rfl rfl rfl) (.b 1 rfl) tyP) (.k (cal (.o 3 rfl rfl rfl) Tryz.func43 rfl (fn_rFitsT f2) (.k (.g 4 rfl) .n)) (.k (not_ (.o 3 rfl rfl rfl) (.g 5 rfl)) (.k (pickF .k (.g 3 rfl) (.g 6 rfl)) (.k (mv .k (.g 7 rfl)) (.k (ld (.o 8 rfl rfl rfl) (.b 2 rfl) tyP) (.k (cal (.o 8 rfl rfl rfl) Tryz.func43 rfl (fn_rFitsF f3) (.k (.g 9 rfl) .n)) (.k (not_ (.o 8 rfl rfl rfl) (.g 10 rfl)) (.k (pickF .k (.g 8 rfl) (.g 11 rfl)) (.k (mv .k (.g 12 rfl)) (.k (skp (.o 13 rfl rfl rfl)) (.k (skp (.o 13 rfl rfl rfl)) (.k (skp (.o 13 rfl rfl rfl)) (.k (pickT .k (.g 13 rfl) .c) (.k (mv .k (.g 17 rfl)) (.k (skp (.o 18 rfl rfl rfl)) (.k (skp (.o 18 rfl rfl rfl)) (.k (skp (.o 18 rfl rfl rfl)) (.k (pickT .k (.g 18 rfl) .c) .n))))))))))))))))))))))) [0,1,2] [22] rfl rfl ?_)
  refine Tr.cond 3 rfl (fun _=>?_) nofun
  refine Tr.rs [] (.k (asg .k .c) .n) [] [0] rfl rfl ?_
  refine Tr.ret (end_tmp 0 rfl rfl)
 ·
  unfold disB;rw [if_pos (.inr (.inl s1))]
  refine Tr.seq (Tr.rs [] (.k (ld .k (.b 0 rfl) tyP) (.k (cal .k Tryz.func43 rfl (fn_rFitsT f1) (.k (.g 0 rfl) .n)) (.k (not_ .k (.g 1 rfl)) (.k (mv .k (.g 2 rfl)) (.k (ld (.o 3 rfl rfl rfl) (.b 1 rfl) tyP) (.k (cal (.o 3 rfl rfl rfl) Tryz.func43 rfl (fn_rFitsT f2) (.k (.g 4 rfl) .n)) (.k (not_ (.o 3 rfl rfl rfl) (.g 5 rfl)) (.k (pickF .k (.g 3 rfl) (.g 6 rfl)) (.k (mv .k (.g 7 rfl)) (.k (ld (.o 8 rfl rfl rfl) (.b 2 rfl) tyP) (.k (cal (.o 8 rfl rfl rfl) Tryz.func43 rfl (fn_rFitsT f3) (.k (.g 9 rfl) .n)) (.k (not_ (.o 8 rfl rfl rfl) (.g 10 rfl)) (.k (pickF .k (.g 8 rfl) (.g 11 rfl)) (.k (mv .k (.g 12 rfl)) (.k (ld (.o 13 rfl rfl rfl) (.b 2 rfl) tyP) (.k (ld (.o 13 rfl rfl rfl) (.b 0 rfl) tyP) (.k (eqS_ (.o 13 rfl rfl rfl) ptG (.g 14 rfl) (.g 15 rfl) (eqP _ _ _ _) s1) (.k (pickF .k (.g 13 rfl) (.g 16 rfl)) (.k (mv .k (.g 17 rfl)) (.k (skp (.o 18 rfl rfl rfl)) (.k (skp (.o 18 rfl rfl rfl)) (.k (skp (.o 18 rfl rfl rfl)) (.k (pickT .k (.g 18 rfl) .c) .n))))))))))))))))))))))) [0,1,2] [22] rfl rfl ?_)
  refine Tr.cond 3 rfl (fun _=>?_) nofun
  refine Tr.rs [] (.k (asg .k .c) .n) [] [0] rfl rfl ?_
  refine Tr.ret (end_tmp 0 rfl rfl)
 ·
  unfold disB;rw [if_pos (.inr (.inr s2))]
  refine Tr.seq (Tr.rs [] (.k (ld .k (.b 0 rfl) tyP) (.k (cal .k Tryz.func43 rfl (fn_rFitsT f1) (.k (.g 0 rfl) .n)) (.k (not_ .k (.g 1 rfl)) (.k (mv .k (.g 2 rfl)) (.k (ld (.o 3 rfl rfl rfl) (.b 1 rfl) tyP) (.k (cal (.o 3 rfl rfl rfl) Tryz.func43 rfl (fn_rFitsT f2) (.k (.g 4 rfl) .n)) (.k (not_ (.o 3 rfl rfl rfl) (.g 5 rfl)) (.k (pickF .k (.g 3 rfl) (.g 6 rfl)) (.k (mv .k (.g 7 rfl)) (.k (ld (.o 8 rfl rfl rfl) (.b 2 rfl) tyP) (.k (cal (.o 8 rfl rfl rfl) Tryz.func43 rfl (fn_rFitsT f3) (.k (.g 9 rfl) .n)) (.k (not_ (.o 8 rfl rfl rfl) (.g 10 rfl)) (.k (pickF .k (.g 8 rfl) (.g 11 rfl)) (.k (mv .k (.g 12 rfl)) (.k (ld (.o 13 rfl rfl rfl) (.b 2 rfl) tyP) (.k (ld (.o 13 rfl rfl rfl) (.b 0 rfl) tyP) (.k (eqS_ (.o 13 rfl rfl rfl) ptG (.g 14 rfl) (.g 15 rfl) (eqP _ _ _ _) s1) (.k (pickF .k (.g 13 rfl) (.g 16 rfl)) (.k (mv .k (.g 17 rfl)) (.k (ld (.o 18 rfl rfl rfl) (.b 2 rfl) tyP) (.k (ld (.o 18 rfl rfl rfl) (.b 1 rfl) tyP) (.k (eqS_ (.o 18 rfl rfl rfl) ptG (.g 19 rfl) (.g 20 rfl) (eqP _ _ _ _) s2) (.k (pickF .k (.g 18 rfl) (.g 21 rfl)) .n))))))))))))))))))))))) [0,1,2] [22] rfl rfl ?_)
  refine Tr.cond 3 rfl (fun _=>?_) nofun
  refine Tr.rs [] (.k (asg .k .c) .n) [] [0] rfl rfl ?_
  refine Tr.ret (end_tmp 0 rfl rfl)
 ·
  unfold disB;rw [if_neg (not_or.2 ⟨fun h=>h ⟨f1,f2,f3⟩,not_or.2 ⟨by rw [s1];simp,by rw [s2];simp⟩⟩)]
  refine Tr.seq (Tr.rs [] (.k (ld .k (.b 0 rfl) tyP) (.k (cal .k Tryz.func43 rfl (fn_rFitsT f1) (.k (.g 0 rfl) .n)) (.k (not_ .k (.g 1 rfl)) (.k (mv .k (.g 2 rfl)) (.k (ld (.o 3 rfl rfl rfl) (.b 1 rfl) tyP) (.k (cal (.o 3 rfl rfl rfl) Tryz.func43 rfl (fn_rFitsT f2) (.k (.g 4 rfl) .n)) (.k (not_ (.o 3 rfl rfl rfl) (.g 5 rfl)) (.k (pickF .k (.g 3 rfl) (.g 6 rfl)) (.k (mv .k (.g 7 rfl)) (.k (ld (.o 8 rfl rfl rfl) (.b 2 rfl) tyP) (.k (cal (.o 8 rfl rfl rfl) Tryz.func43 rfl (fn_rFitsT f3) (.k (.g 9 rfl) .n)) (.k (not_ (.o 8 rfl rfl rfl) (.g 10 rfl)) (.k (pickF .k (.g 8 rfl) (.g 11 rfl)) (.k (mv .k (.g 12 rfl)) (.k (ld (.o 13 rfl rfl rfl) (.b 2 rfl) tyP) (.k (ld (.o 13 rfl rfl rfl) (.b 0 rfl) tyP) (.k (eqS_ (.o 13 rfl rfl rfl) ptG (.g 14 rfl) (.g 15 rfl) (eqP _ _ _ _) s1) (.k (pickF .k (.g 13 rfl) (.g 16 rfl)) (.k (mv .k (.g 17 rfl)) (.k (ld (.o 18 rfl rfl rfl) (.b 2 rfl) tyP) (.k (ld (.o 18 rfl rfl rfl) (.b 1 rfl) tyP) (.k (eqS_ (.o 18 rfl rfl rfl) ptG (.g 19 rfl) (.g 20 rfl) (eqP _ _ _ _) s2) (.k (pickF .k (.g 18 rfl) (.g 21 rfl)) .n))))))))))))))))))))))) [0,1,2] [22] rfl rfl ?_)
  refine Tr.cond 3 rfl nofun (fun _=>?_)
  refine Tr.skip (Nx.go (Tr.ds hmx [] (.k (ld .k (.b 0 rfl) tyP) (.k (ld .k (.b 2 rfl) tyP) (.k (cal .k Tryz.func44 rfl (fn_rsq f1 f3) (.k (.g 0 rfl) (.k (.g 1 rfl) .n))) (.k (ld .k (.b 2 rfl) tyP) (.k (ld .k (.b 1 rfl) tyP) (.k (cal .k Tryz.func44 rfl (fn_rsq f3 f2) (.k (.g 3 rfl) (.k (.g 4 rfl) .n))) (.k (cal .k Tryz.func45 rfl (fn_plus (by decide) (by decide)) (.k (.g 2 rfl) (.k (.g 5 rfl) .n))) (.k (ld .k (.b 0 rfl) tyP) (.k (ld .k (.b 1 rfl) tyP) (.k (cal .k Tryz.func44 rfl (fn_rsq f1 f2) (.k (.g 7 rfl) (.k (.g 8 rfl) .n))) (.k (cal .k Tryz.func46 rfl (fn_ncmp (by decide) (by decide)) (.k (.g 6 rfl) (.k (.g 9 rfl) .n))) (.k (le_ .k (.g 10 rfl) .c disc_le) (.k (asg .k (.g 11 rfl)) .n))))))))))))) [] [12] rfl rfl ?_))
  refine Tr.ret (end_tmp 0 rfl rfl)
def lsZ (x y z:Int):Int:=if z - (if y - x < 0 then y else x) < 0 then z else (if y - x < 0 then y else x)
def skR (x y z t:Int):Bool:=decide (t=0) || decide (x * y * z - 8 * lsZ x y z * t * t > 0)
theorem sgn_lt {z:Int}:sgn z < 0↔z < 0:=by rcases sgn_cases z with ⟨e,h⟩|⟨e,h⟩|⟨e,h⟩<;>rw [e]<;>omega
theorem sgn_ltD (z:Int):decide (sgn z < 0)=decide (z < 0):=decide_eq_decide.2 sgn_lt
theorem ls_prod (x y z:Int):x * y * z=lsZ x y z * (mxZ (mnZ x z) y * mxZ x z):=by
  unfold lsZ mxZ mnZ
  by_cases h1:y - x < 0<;>by_cases h2:x - z > 0<;>by_cases h3:z - y < 0<;>by_cases h4:z - x < 0<;>by_cases h5:z - y > 0<;>by_cases h6:x - y > 0<;>simp only [h1,h2,h3,h4,h5,h6,if_true,if_false]<;>first|omega|grind
theorem sq_nn (a:Int):0≤a * a:=by
  rcases Int.le_total 0 a with h|h
  · exact Int.mul_nonneg h h
  · exact Int.mul_nonneg_of_nonpos_of_nonpos h h
theorem way_nn (ax ay bx b_y:Int):0≤wayZ ax ay bx b_y:=by
  unfold wayZ sqZ
  have h1:=sq_nn (bx - ax)
  have h2:=sq_nn (b_y - ay)
  omega
theorem way_zero {ax ay bx b_y:Int} (h:wayZ ax ay bx b_y=0):bx=ax∧b_y=ay:=by
  unfold wayZ sqZ at h
  have h1:=sq_nn (bx - ax)
  have h2:=sq_nn (b_y - ay)
  have h3:(bx - ax) * (bx - ax)=0:=by omega
  have h4:(b_y - ay) * (b_y - ay)=0:=by omega
  have h5:bx - ax=0:=by rcases Int.mul_eq_zero.1 h3 with h|h<;>exact h
  have h6:b_y - ay=0:=by rcases Int.mul_eq_zero.1 h4 with h|h<;>exact h
  omega
theorem sk_same (ax ay bx b_y cx cy:Int):skR (wayZ ax ay bx b_y) (wayZ bx b_y cx cy) (wayZ cx cy ax ay) (shoZ ax ay bx b_y cx cy)=skZ (wayZ ax ay bx b_y) (wayZ bx b_y cx cy) (wayZ cx cy ax ay) (turZ ax ay bx b_y cx cy):=by
  rw [sho_area,← turZ_area]
  unfold skR skZ
  by_cases ht:turZ ax ay bx b_y cx cy=0
  · rw [decide_eq_true ht,Bool.true_or,Bool.true_or]
  rw [decide_eq_false ht,Bool.false_or,Bool.false_or]
  have p1:0 < wayZ ax ay bx b_y:=by
    rcases Int.lt_or_eq_of_le (way_nn ax ay bx b_y) with h|h
    · exact h
    · obtain ⟨e1,e2⟩:=way_zero h.symm
      exact absurd (by unfold turZ tuZ;rw [e1,e2];simp) ht
  have p2:0 < wayZ bx b_y cx cy:=by
    rcases Int.lt_or_eq_of_le (way_nn bx b_y cx cy) with h|h
    · exact h
    · obtain ⟨e1,e2⟩:=way_zero h.symm
      exact absurd (by unfold turZ tuZ;rw [e1,e2,Int.mul_comm];omega) ht
  have p3:0 < wayZ cx cy ax ay:=by
    rcases Int.lt_or_eq_of_le (way_nn cx cy ax ay) with h|h
    · exact h
    · obtain ⟨e1,e2⟩:=way_zero h.symm
      exact absurd (by unfold turZ tuZ;rw [e1,e2];simp) ht
  have pl:0 < lsZ (wayZ ax ay bx b_y) (wayZ bx b_y cx cy) (wayZ cx cy ax ay):=by unfold lsZ;(repeat' split)<;>assumption
  rw [ls_prod]
  obtain ⟨l,hl⟩:∃ l,l=lsZ (wayZ ax ay bx b_y) (wayZ bx b_y cx cy) (wayZ cx cy ax ay):=⟨_,rfl⟩
  obtain ⟨m,hm⟩:∃ m,m=mxZ (mnZ (wayZ ax ay bx b_y) (wayZ cx cy ax ay)) (wayZ bx b_y cx cy) * mxZ (wayZ ax ay bx b_y) (wayZ cx cy ax ay):=⟨_,rfl⟩
  obtain ⟨t,htt⟩:∃ t,t=turZ ax ay bx b_y cx cy:=⟨_,rfl⟩
  rw [← hl] at pl ⊢
  rw [← hm,← htt]
  have e:l * m - 8 * l * t * t=l * (m - 8 * t * t):=by grind
  rw [e]
  refine decide_eq_decide.2 ⟨fun h=>?_,fun h=>Int.mul_pos pl h⟩
  rcases Int.lt_or_le 0 (m - 8 * t * t) with h'|h'
  · exact h'
  · have:=Int.mul_nonpos_of_nonneg_of_nonpos (Int.le_of_lt pl) h'
    omega
set_option maxRecDepth 100000 in
theorem fn_rSkinny {ax ay bx b_y cx cy:Int}:FnC Tryz.prog 34 [.is (ptv ax ay),.is (ptv bx b_y),.is (ptv cx cy)] (bv (skB ax ay bx b_y cx cy)):=by
 refine FnC.of (N:=68) Tryz.func34 rfl rfl (Nat.le_of_ble_eq_true rfl) (fun w0 ok0=>?_)
 refine Tr.rs [] (.k (bxx .k (.b 0 rfl)) (.k (bxx .k (.b 1 rfl)) (.k (bxx .k (.b 2 rfl)) (.k (asg .k .c) .n)))) [] [0,1,2] rfl rfl ?_
 rcases (show ¬ fit ax ay∨fit ax ay∧¬ fit bx b_y∨fit ax ay∧fit bx b_y∧¬ fit cx cy∨fit ax ay∧fit bx b_y∧fit cx cy by by_cases h0:fit ax ay<;>by_cases h1:fit bx b_y<;>by_cases h2:fit cx cy<;>simp [h0,h1,h2]) with f1|⟨f1,f2⟩|⟨f1,f2,f3⟩|⟨f1,f2,f3⟩
 ·
  have hn:¬ (fit ax ay∧fit bx b_y∧fit cx cy):=fun h=>f1 h.1
  unfold skB;rw [if_neg hn]
  refine Tr.seq (Tr.rs [] (.k (ld .k (.b 0 rfl) tyP) (.k (cal .k Tryz.func43 rfl (fn_rFitsF f1) (.k (.g 0 rfl) .n)) (.k (not_ .k (.g 1 rfl)) (.k (mv .k (.g 2 rfl)) (.k (skp (.o 3 rfl rfl rfl)) (.k (skp (.o 3 rfl rfl rfl)) (.k (skp (.o 3 rfl rfl rfl)) (.k (pickT .k (.g 3 rfl) .c) (.k (mv .k (.g 7 rfl)) (.k (skp (.o 8 rfl rfl rfl)) (.k (skp (.o 8 rfl rfl rfl)) (.k (skp (.o 8 rfl rfl rfl)) (.k (pickT .k (.g 8 rfl) .c) .n))))))))))))) [0,1,2] [12] rfl rfl ?_)
  refine Tr.cond 3 rfl (fun _=>?_) nofun
  refine Tr.rs [] (.k (asg .k .c) .n) [] [0] rfl rfl ?_
  refine Tr.ret (end_tmp 0 rfl rfl)
 ·
  have hn:¬ (fit ax ay∧fit bx b_y∧fit cx cy):=fun h=>f2 h.2.1
  unfold skB;rw [if_neg hn]
  refine Tr.seq (Tr.rs [] (.k (ld .k (.b 0 rfl) tyP) (.k (cal .k Tryz.func43 rfl (fn_rFitsT f1) (.k (.g 0 rfl) .n)) (.k (not_ .k (.g 1 rfl)) (.k (mv .k (.g 2 rfl)) (.k (ld (.o 3 rfl rfl rfl) (.b 1 rfl) tyP) (.k (cal (.o 3 rfl rfl rfl) Tryz.func43 rfl (fn_rFitsF f2) (.k (.g 4 rfl) .n)) (.k (not_ (.o 3 rfl rfl rfl) (.g 5 rfl)) (.k (pickF .k (.g 3 rfl) (.g 6 rfl)) (.k (mv .k (.g 7 rfl)) (.k (skp (.o 8 rfl rfl rfl)) (.k (skp (.o 8 rfl rfl rfl)) (.k (skp (.o 8 rfl rfl rfl)) (.k (pickT .k (.g 8 rfl) .c) .n))))))))))))) [0,1,2] [12] rfl rfl ?_)
  refine Tr.cond 3 rfl (fun _=>?_) nofun
  refine Tr.rs [] (.k (asg .k .c) .n) [] [0] rfl rfl ?_
  refine Tr.ret (end_tmp 0 rfl rfl)
 ·
  have hn:¬ (fit ax ay∧fit bx b_y∧fit cx cy):=fun h=>f3 h.2.2
  unfold skB;rw [if_neg hn]
  refine Tr.seq (Tr.rs [] (.k (ld .k (.b 0 rfl) tyP) (.k (cal .k Tryz.func43 rfl (fn_rFitsT f1) (.k (.g 0 rfl) .n)) (.k (not_ .k (.g 1 rfl)) (.k (mv .k (.g 2 rfl)) (.k (ld (.o 3 rfl rfl rfl) (.b 1 rfl) tyP) (.k (cal (.o 3 rfl rfl rfl) Tryz.func43 rfl (fn_rFitsT f2) (.k (.g 4 rfl) .n)) (.k (not_ (.o 3 rfl rfl rfl) (.g 5 rfl)) (.k (pickF .k (.g 3 rfl) (.g 6 rfl)) (.k (mv .k (.g 7 rfl)) (.k (ld (.o 8 rfl rfl rfl) (.b 2 rfl) tyP) (.k (cal (.o 8 rfl rfl rfl) Tryz.func43 rfl (fn_rFitsF f3) (.k (.g 9 rfl) .n)) (.k (not_ (.o 8 rfl rfl rfl) (.g 10 rfl)) (.k (pickF .k (.g 8 rfl) (.g 11 rfl)) .n))))))))))))) [0,1,2] [12] rfl rfl ?_)
  refine Tr.cond 3 rfl (fun _=>?_) nofun
  refine Tr.rs [] (.k (asg .k .c) .n) [] [0] rfl rfl ?_
  refine Tr.ret (end_tmp 0 rfl rfl)
 ·
  unfold skB;rw [if_pos ⟨f1,f2,f3⟩,← sk_same]
  refine Tr.seq (Tr.rs [] (.k (ld .k (.b 0 rfl) tyP) (.k (cal .k Tryz.func43 rfl (fn_rFitsT f1) (.k (.g 0 rfl) .n)) (.k (not_ .k (.g 1 rfl)) (.k (mv .k (.g 2 rfl)) (.k (ld (.o 3 rfl rfl rfl) (.b 1 rfl) tyP) (.k (cal (.o 3 rfl rfl rfl) Tryz.func43 rfl (fn_rFitsT f2) (.k (.g 4 rfl) .n)) (.k (not_ (.o 3 rfl rfl rfl) (.g 5 rfl)) (.k (pickF .k (.g 3 rfl) (.g 6 rfl)) (.k (mv .k (.g 7 rfl)) (.k (ld (.o 8 rfl rfl rfl) (.b 2 rfl) tyP) (.k (cal (.o 8 rfl rfl rfl) Tryz.func43 rfl (fn_rFitsT f3) (.k (.g 9 rfl) .n)) (.k (not_ (.o 8 rfl rfl rfl) (.g 10 rfl)) (.k (pickF .k (.g 8 rfl) (.g 11 rfl)) .n))))))))))))) [0,1,2] [12] rfl rfl ?_)
  refine Tr.cond 3 rfl nofun (fun _=>?_)
  refine Tr.skip (Nx.go (Tr.rs [] (.k (ld .k (.b 0 rfl) tyP) (.k (ld .k (.b 1 rfl) tyP) (.k (cal .k Tryz.func44 rfl (fn_rsq f1 f2) (.k (.g 0 rfl) (.k (.g 1 rfl) .n))) (.k (ala .k zN) (.k (sta .k (.g 3 rfl) (.g 2 rfl) tyN) .n))))) [0,1,2] [4] rfl rfl ?_))
  refine Tr.rs [] (.k (ld .k (.b 1 rfl) tyP) (.k (ld .k (.b 2 rfl) tyP) (.k (cal .k Tryz.func44 rfl (fn_rsq f2 f3) (.k (.g 0 rfl) (.k (.g 1 rfl) .n))) (.k (ala .k zN) (.k (sta .k (.g 3 rfl) (.g 2 rfl) tyN) .n))))) [0,1,2,3] [4] rfl rfl ?_
  refine Tr.rs [] (.k (ld .k (.b 2 rfl) tyP) (.k (ld .k (.b 0 rfl) tyP) (.k (cal .k Tryz.func44 rfl (fn_rsq f3 f1) (.k (.g 0 rfl) (.k (.g 1 rfl) .n))) (.k (ala .k zN) (.k (sta .k (.g 3 rfl) (.g 2 rfl) tyN) .n))))) [0,1,2,3,4] [4] rfl rfl ?_
  refine Tr.rs [] (.k (ld .k (.b 3 rfl) tyN) (.k (ala .k zN) (.k (sta .k (.g 1 rfl) (.g 0 rfl) tyN) .n))) [0,1,2,3,4,5] [2] rfl rfl ?_
  refine Tr.cut [.b 3 (.is (ptv ax ay)) 30 2,.b 4 (.is (ptv bx b_y)) 30 2,.b 5 (.is (ptv cx cy)) 30 2,.b 7 (.num 9 (wayZ ax ay bx b_y)) 71 2,.b 8 (.num 9 (wayZ bx b_y cx cy)) 71 2,.b 9 (.num 9 (wayZ cx cy ax ay)) 71 2,.b 10 (.num 9 (if wayZ bx b_y cx cy - wayZ ax ay bx b_y < 0 then wayZ bx b_y cx cy else wayZ ax ay bx b_y)) 71 2] ?_ ?_
  ·
   refine Tr.rs [] (.k (ld .k (.b 4 rfl) tyN) (.k (ld .k (.b 6 rfl) tyN) (.k (cal .k Tryz.func46 rfl (fn_ncmp (by decide) (by decide)) (.k (.g 0 rfl) (.k (.g 1 rfl) .n))) (.k (lt_ .k (.g 2 rfl) .c (sgn_ltD _)) .n)))) [0,1,2,3,4,5,6] [3] rfl rfl ?_
   refine Tr.cond 7 rfl (fun e38=>?_) (fun e38=>?_)
   ·
    refine Tr.reg [(6,1)] (.k (ld .k (.b 4 rfl) tyN) (.k (sto .k (.b 6 rfl) (.g 0 rfl) tyN) .n)) [0,1,2,3,4,5] [1] rfl rfl (?_)
    have cc:=of_decide_eq_true e38
    rw [if_pos cc]
    refine Nx.met _ (Sub.all (.cons 0 rfl (.cons 1 rfl (.cons 2 rfl (.cons 3 rfl (.cons 4 rfl (.cons 5 rfl (.cons 6 rfl .nil))))))))
   ·
    refine Tr.skip (?_)
    have cc:=of_decide_eq_false e38
    rw [if_neg cc]
    refine Nx.met _ (Sub.all (.cons 0 rfl (.cons 1 rfl (.cons 2 rfl (.cons 3 rfl (.cons 4 rfl (.cons 5 rfl (.cons 6 rfl .nil))))))))
  ·
   refine Tr.cut [.b 3 (.is (ptv ax ay)) 30 2,.b 4 (.is (ptv bx b_y)) 30 2,.b 5 (.is (ptv cx cy)) 30 2,.b 7 (.num 9 (wayZ ax ay bx b_y)) 71 2,.b 8 (.num 9 (wayZ bx b_y cx cy)) 71 2,.b 9 (.num 9 (wayZ cx cy ax ay)) 71 2,.b 10 (.num 9 (lsZ (wayZ ax ay bx b_y) (wayZ bx b_y cx cy) (wayZ cx cy ax ay))) 71 2] ?_ ?_
   ·
    refine Tr.rs [] (.k (ld .k (.b 5 rfl) tyN) (.k (ld .k (.b 6 rfl) tyN) (.k (cal .k Tryz.func46 rfl (fn_ncmp (by decide) (by decide)) (.k (.g 0 rfl) (.k (.g 1 rfl) .n))) (.k (lt_ .k (.g 2 rfl) .c (sgn_ltD _)) .n)))) [0,1,2,3,4,5,6] [3] rfl rfl ?_
    refine Tr.cond 7 rfl (fun e43=>?_) (fun e43=>?_)
    ·
     refine Tr.reg [(6,1)] (.k (ld .k (.b 5 rfl) tyN) (.k (sto .k (.b 6 rfl) (.g 0 rfl) tyN) .n)) [0,1,2,3,4,5] [1] rfl rfl (?_)
     have cc:=of_decide_eq_true e43
     rw [show lsZ (wayZ ax ay bx b_y) (wayZ bx b_y cx cy) (wayZ cx cy ax ay)=wayZ cx cy ax ay from if_pos cc]
     refine Nx.met _ (Sub.all (.cons 0 rfl (.cons 1 rfl (.cons 2 rfl (.cons 3 rfl (.cons 4 rfl (.cons 5 rfl (.cons 6 rfl .nil))))))))
    ·
     refine Tr.skip (?_)
     have cc:=of_decide_eq_false e43
     rw [show lsZ (wayZ ax ay bx b_y) (wayZ bx b_y cx cy) (wayZ cx cy ax ay)=(if wayZ bx b_y cx cy - wayZ ax ay bx b_y < 0 then wayZ bx b_y cx cy else wayZ ax ay bx b_y) from if_neg cc]
     refine Nx.met _ (Sub.all (.cons 0 rfl (.cons 1 rfl (.cons 2 rfl (.cons 3 rfl (.cons 4 rfl (.cons 5 rfl (.cons 6 rfl .nil))))))))
   ·
    refine Tr.rs [] (.k (ld .k (.b 0 rfl) tyP) (.k (ld .k (.b 1 rfl) tyP) (.k (ld .k (.b 2 rfl) tyP) (.k (cal .k Tryz.func69 rfl (fn_rarea f1 f2 f3) (.k (.g 0 rfl) (.k (.g 1 rfl) (.k (.g 2 rfl) .n)))) (.k (ala .k zN) (.k (sta .k (.g 4 rfl) (.g 3 rfl) tyN) .n)))))) [3,4,5,6] [5] rfl rfl ?_
    by_cases c3:shoZ ax ay bx b_y cx cy=0
    ·
     have e3:sgn (shoZ ax ay bx b_y cx cy)=0:=sgn_eq.2 c3
     rw [show skR (wayZ ax ay bx b_y) (wayZ bx b_y cx cy) (wayZ cx cy ax ay) (shoZ ax ay bx b_y cx cy)=true by unfold skR;rw [decide_eq_true c3,Bool.true_or]]
     refine Tr.ds hmx [] (.k (ld .k (.b 4 rfl) tyN) (.k (cal .k Tryz.func70 rfl fn_nsign (.k (.g 0 rfl) .n)) (.k (eq_ .k (.g 1 rfl) .c (show (_==(0:Int))=true by simpa using e3)) (.k (mv .k (.g 2 rfl)) (.k (skp (.o 3 rfl rfl rfl)) (.k (skp (.o 3 rfl rfl rfl)) (.k (skp (.o 3 rfl rfl rfl)) (.k (skp (.o 3 rfl rfl rfl)) (.k (skp (.o 3 rfl rfl rfl)) (.k (skp (.o 3 rfl rfl rfl)) (.k (skp (.o 3 rfl rfl rfl)) (.k (skp (.o 3 rfl rfl rfl)) (.k (skp (.o 3 rfl rfl rfl)) (.k (skp (.o 3 rfl rfl rfl)) (.k (skp (.o 3 rfl rfl rfl)) (.k (skp (.o 3 rfl rfl rfl)) (.k (skp (.o 3 rfl rfl rfl)) (.k (skp (.o 3 rfl rfl rfl)) (.k (pickT .k (.g 3 rfl) .c) (.k (asg .k (.g 18 rfl)) .n)))))))))))))))))))) [] [19] rfl rfl ?_
     refine Tr.ret (end_tmp 0 rfl rfl)
    ·
     have e3:¬ sgn (shoZ ax ay bx b_y cx cy)=0:=fun h=>c3 (sgn_eq.1 h)
     rw [show skR (wayZ ax ay bx b_y) (wayZ bx b_y cx cy) (wayZ cx cy ax ay) (shoZ ax ay bx b_y cx cy)=decide ((wayZ ax ay bx b_y) * (wayZ bx b_y cx cy) * (wayZ cx cy ax ay) - 8 * lsZ (wayZ ax ay bx b_y) (wayZ bx b_y cx cy) (wayZ cx cy ax ay) * (shoZ ax ay bx b_y cx cy) * (shoZ ax ay bx b_y cx cy) > 0) by unfold skR;rw [decide_eq_false c3,Bool.false_or]]
     refine Tr.ds hmx [] (.k (ld .k (.b 4 rfl) tyN) (.k (cal .k Tryz.func70 rfl fn_nsign (.k (.g 0 rfl) .n)) (.k (eq_ .k (.g 1 rfl) .c (show (_==(0:Int))=false by simpa using e3)) (.k (mv .k (.g 2 rfl)) (.k (ld (.o 3 rfl rfl rfl) (.b 0 rfl) tyN) (.k (ld (.o 3 rfl rfl rfl) (.b 1 rfl) tyN) (.k (cal (.o 3 rfl rfl rfl) Tryz.func71 rfl (fn_times (by decide) (by decide)) (.k (.g 4 rfl) (.k (.g 5 rfl) .n))) (.k (ld (.o 3 rfl rfl rfl) (.b 2 rfl) tyN) (.k (cal (.o 3 rfl rfl rfl) Tryz.func71 rfl (fn_times (by decide) (by decide)) (.k (.g 6 rfl) (.k (.g 7 rfl) .n))) (.k (cal (.o 3 rfl rfl rfl) Tryz.func72 rfl (fn_rnum (lN (show Bd 4 (8) by decide) (by decide)).1 (lN (show Bd 4 (8) by decide) (by decide)).2) (.k .c .n)) (.k (ld (.o 3 rfl rfl rfl) (.b 3 rfl) tyN) (.k (cal (.o 3 rfl rfl rfl) Tryz.func71 rfl (fn_times (by decide) (by decide)) (.k (.g 9 rfl) (.k (.g 10 rfl) .n))) (.k (ld (.o 3 rfl rfl rfl) (.b 4 rfl) tyN) (.k (cal (.o 3 rfl rfl rfl) Tryz.func71 rfl (fn_times (by decide) (by decide)) (.k (.g 11 rfl) (.k (.g 12 rfl) .n))) (.k (ld (.o 3 rfl rfl rfl) (.b 4 rfl) tyN) (.k (cal (.o 3 rfl rfl rfl) Tryz.func71 rfl (fn_times (by decide) (by decide)) (.k (.g 13 rfl) (.k (.g 14 rfl) .n))) (.k (cal (.o 3 rfl rfl rfl) Tryz.func46 rfl (fn_ncmp (by decide) (by decide)) (.k (.g 8 rfl) (.k (.g 15 rfl) .n))) (.k (gt_ (.o 3 rfl rfl rfl) (.g 16 rfl) .c (sgn_gtD _)) (.k (pickF .k (.g 3 rfl) (.g 17 rfl)) (.k (asg .k (.g 18 rfl)) .n)))))))))))))))))))) [] [19] rfl rfl ?_
     refine Tr.ret (end_tmp 0 rfl rfl)
end Go.Proofs.YtkgagdjogedoiaaGreat

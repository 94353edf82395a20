/- Who is across an edge, who crowds a segment, which ones; walked. -/
import Derived.Test.YtkgagdjogedoiaaGreatDf8
import Derived.Test.YtkgagdjogedoiaaGreatDp9
set_option linter.unusedVariables false
set_option linter.unusedSimpArgs false
set_option maxRecDepth 100000
set_option maxHeartbeats 8000000
namespace Go.Proofs.YtkgagdjogedoiaaGreat
open Go Go.RowKit Go.Proofs.YtkgagdjogedoiaaGreat.Fx Go.Proofs.YtkgagdjogedoiaaGreatW.PrintWords
theorem tyA3:AggTy Tryz.prog 122 3:=⟨⟨_,Tryz.underlying122,rfl⟩,by kernel_rfl⟩
theorem zA3 (W:World):(zeroValue 122).run Tryz.prog W = .ok (trv (0,0,0)) W:=by kernel_rfl
theorem arA3:ArrTy Tryz.prog 122 3 3:=⟨Tryz.underlying122,szI⟩
def arr9 (a b c d e f g h i:Int):Value := .agg #[.int .i64 a,.int .i64 b,.int .i64 c,.int .i64 d,.int .i64 e,.int .i64 f,.int .i64 g,.int .i64 h,.int .i64 i]
theorem b9 (a b c d e f g h i:Int):Tryz.prog.built 125 [(0,trv (a,b,c)),(1,trv (d,e,f)),(2,trv (g,h,i))]=some (arr9 a b c d e f g h i).cells:=by kernel_rfl
theorem a9 (a b c d e f g h i:Int):Value.agg (arr9 a b c d e f g h i).cells=arr9 a b c d e f g h i:=rfl
theorem ix9_0 (a b c d e f g h i:Int) (W:World):(Instr.index 125 (arr9 a b c d e f g h i) (.int .i64 ((0:Nat):Int))).run Tryz.prog W = .ok (trv (a,b,c)) W:=by kernel_rfl
theorem ix9_1 (a b c d e f g h i:Int) (W:World):(Instr.index 125 (arr9 a b c d e f g h i) (.int .i64 ((1:Nat):Int))).run Tryz.prog W = .ok (trv (d,e,f)) W:=by kernel_rfl
theorem ix9_2 (a b c d e f g h i:Int) (W:World):(Instr.index 125 (arr9 a b c d e f g h i) (.int .i64 ((2:Nat):Int))).run Tryz.prog W = .ok (trv (g,h,i)) W:=by kernel_rfl
abbrev rot9 (t:Int × Int × Int):Value:=arr9 t.1 t.2.1 t.2.2 t.2.1 t.2.2 t.1 t.2.2 t.1 t.2.1
theorem ix9 {t s:Int × Int × Int} {k:Nat} (h:(rots t)[k]?=some s):∀ W,(Instr.index 125 (rot9 t) (.int .i64 (k:Int))).run Tryz.prog W = .ok (trv s) W:=fun W=>by
  match k,h with
  | 0,h=>cases h;exact ix9_0 ..
  | 1,h=>cases h;exact ix9_1 ..
  | 2,h=>cases h;exact ix9_2 ..
theorem fn_third {t:Int × Int × Int} {a b:Int}:FnC Tryz.prog 59 [.is (trv t),iv a,iv b] (.tup [iv ((thirdR t a b).getD 0),bv (thirdR t a b).isSome]):=by
 refine FnC.of (N:=60) Tryz.func59 rfl rfl (Nat.le_of_ble_eq_true rfl) (fun w0 ok0=>?_)
 refine Tr.rs [] (.k (bxx .k (.b 0 rfl)) (.k (asg .k .c) (.k (asg .k .c) .n))) [1,2] [0] rfl rfl ?_
 refine Tr.seq (Tr.rs [] (.k (faddr .k (.b 2 rfl) rfl fTA) (.k (ldc .k (.g 0 rfl) (.b 2 rfl) tyI) (.k (faddr .k (.b 2 rfl) rfl fTB) (.k (ldc .k (.g 2 rfl) (.b 2 rfl) tyI) (.k (faddr .k (.b 2 rfl) rfl fTC) (.k (ldc .k (.g 4 rfl) (.b 2 rfl) tyI) (.k (bld .k (.k (.g 1 rfl) (.k (.g 3 rfl) (.k (.g 5 rfl) .n))) (bA3 _ _ _) (aT _ _ _)) (.k (faddr .k (.b 2 rfl) rfl fTB) (.k (ldc .k (.g 7 rfl) (.b 2 rfl) tyI) (.k (faddr .k (.b 2 rfl) rfl fTC) (.k (ldc .k (.g 9 rfl) (.b 2 rfl) tyI) (.k (faddr .k (.b 2 rfl) rfl fTA) (.k (ldc .k (.g 11 rfl) (.b 2 rfl) tyI) (.k (bld .k (.k (.g 8 rfl) (.k (.g 10 rfl) (.k (.g 12 rfl) .n))) (bA3 _ _ _) (aT _ _ _)) (.k (faddr .k (.b 2 rfl) rfl fTC) (.k (ldc .k (.g 14 rfl) (.b 2 rfl) tyI) (.k (faddr .k (.b 2 rfl) rfl fTA) (.k (ldc .k (.g 16 rfl) (.b 2 rfl) tyI) (.k (faddr .k (.b 2 rfl) rfl fTB) (.k (ldc .k (.g 18 rfl) (.b 2 rfl) tyI) (.k (bld .k (.k (.g 15 rfl) (.k (.g 17 rfl) (.k (.g 19 rfl) .n))) (bA3 _ _ _) (aT _ _ _)) (.k (bld .k (.k (.g 6 rfl) (.k (.g 13 rfl) (.k (.g 20 rfl) .n))) (b9 _ _ _ _ _ _ _ _ _) (a9 _ _ _ _ _ _ _ _ _)) (.k (mv .k .c) .n))))))))))))))))))))))) [0,1] [21,22] rfl rfl ?_)
 refine Tr.block (?_)
 refine Tr.loop (fun n_ F_=>∃ k:Nat,(k≤3∧∀ x∈(rots t).take k,¬ hits a b x)∧n_=3 - k∧F_=[.s 1 (iv a),.s 2 (iv b),.s 31 (.is (rot9 t)),.s 32 (iv ((k:Nat):Int))]) (3 - 0) (F0:=[.s 1 (iv a),.s 2 (iv b),.s 31 (.is (rot9 t)),.s 32 (iv ((0:Nat):Int))]) ⟨0,⟨Nat.zero_le _,by simp⟩,rfl,rfl⟩ (Sub.all (.cons 0 rfl (.cons 1 rfl (.cons 2 rfl (.cons 3 rfl .nil))))) (fun n_ F_ hI=>?_)
 obtain ⟨k,hinv,rfl,rfl⟩:=hI
 refine Tr.rs [] (.k (lt_ .k (.b 3 rfl) .c rfl) .n) [0,1,2,3] [0] rfl rfl ?_
 refine Tr.seq (Tr.cond 4 rfl (fun e33=>?_) (fun e33=>?_))
 ·
  have hk2:k < 3:=by have:=of_decide_eq_true e33;omega
  refine Tr.skip (Nx.go (Tr.seq (Tr.block (?_))))
  obtain ⟨s,p1⟩:∃ s,(rots t)[k]?=some s:=⟨_,List.getElem?_eq_getElem (show k < (rots t).length from hk2)⟩
  refine Tr.rs [] (.k (ixv .k (.b 2 rfl) (.b 3 rfl) (ix9 p1)) (.k (ala .k zA3) (.k (sta .k (.g 1 rfl) (.g 0 rfl) tyA3) .n))) [0,1,2,3] [2] rfl rfl ?_
  rcases (show (s.1=a∧s.2.1=b)∨(s.1=a∧s.2.1≠b∧s.1=b∧s.2.1=a)∨(s.1=a∧s.2.1≠b∧s.1=b∧s.2.1≠a)∨(s.1=a∧s.2.1≠b∧s.1≠b)∨(s.1≠a∧s.1=b∧s.2.1=a)∨(s.1≠a∧s.1=b∧s.2.1≠a)∨(s.1≠a∧s.1≠b) by omega) with ⟨h1,h2⟩|⟨h1,h2,h3,h4⟩|⟨h1,h2,h3,h4⟩|⟨h1,h2,h3⟩|⟨h1,h3,h4⟩|⟨h1,h3,h4⟩|⟨h1,h3⟩
  ·
   rw [third_hit p1 (show hits a b s by unfold hits;omega) hinv.2]
   refine Tr.rs [] (.k (baddr 0 .k (.b 4 rfl) rfl arA3 rfl (by decide)) (.k (ldc .k (.g 0 rfl) (.b 4 rfl) tyI) (.k (mv .k (.b 0 rfl)) (.k (eq_ .k (.g 1 rfl) (.g 2 rfl) (beq_iff_eq.2 h1)) (.k (mv .k (.g 3 rfl)) (.k (baddr 1 (.o 4 rfl rfl rfl) (.b 4 rfl) rfl arA3 rfl (by decide)) (.k (ldc (.o 4 rfl rfl rfl) (.g 5 rfl) (.b 4 rfl) tyI) (.k (mv (.o 4 rfl rfl rfl) (.b 1 rfl)) (.k (eq_ (.o 4 rfl rfl rfl) (.g 6 rfl) (.g 7 rfl) (beq_iff_eq.2 h2)) (.k (pickT .k (.g 4 rfl) (.g 8 rfl)) (.k (mv .k (.g 9 rfl)) (.k (skp (.o 10 rfl rfl rfl)) (.k (skp (.o 10 rfl rfl rfl)) (.k (skp (.o 10 rfl rfl rfl)) (.k (skp (.o 10 rfl rfl rfl)) (.k (skpu (.o 10 rfl rfl rfl)) (.k (skpn (.g 15 rfl) rfl) (.k (skpn (.g 15 rfl) rfl) (.k (skpn (.g 15 rfl) rfl) (.k (skpn (.g 15 rfl) rfl) (.k (skp (.o 10 rfl rfl rfl)) (.k (pickT .k (.g 10 rfl) .c) .n)))))))))))))))))))))) [0,1,2,3,4] [21] rfl rfl ?_
   refine Tr.cond 5 rfl (fun _=>?_) nofun
   refine Tr.rs [] (.k (baddr 2 .k (.b 4 rfl) rfl arA3 rfl (by decide)) (.k (ldc .k (.g 0 rfl) (.b 4 rfl) tyI) (.k (asg .k (.g 1 rfl)) (.k (asg .k .c) .n)))) [] [2,3] rfl rfl ?_
   refine Tr.ret (end_tmp2 0 1 rfl rfl rfl)
  ·
   rw [third_hit p1 (show hits a b s by unfold hits;omega) hinv.2]
   refine Tr.rs [] (.k (baddr 0 .k (.b 4 rfl) rfl arA3 rfl (by decide)) (.k (ldc .k (.g 0 rfl) (.b 4 rfl) tyI) (.k (mv .k (.b 0 rfl)) (.k (eq_ .k (.g 1 rfl) (.g 2 rfl) (beq_iff_eq.2 h1)) (.k (mv .k (.g 3 rfl)) (.k (baddr 1 (.o 4 rfl rfl rfl) (.b 4 rfl) rfl arA3 rfl (by decide)) (.k (ldc (.o 4 rfl rfl rfl) (.g 5 rfl) (.b 4 rfl) tyI) (.k (mv (.o 4 rfl rfl rfl) (.b 1 rfl)) (.k (eq_ (.o 4 rfl rfl rfl) (.g 6 rfl) (.g 7 rfl) (beq_eq_false_iff_ne.2 h2)) (.k (pickT .k (.g 4 rfl) (.g 8 rfl)) (.k (mv .k (.g 9 rfl)) (.k (baddr 0 (.o 10 rfl rfl rfl) (.b 4 rfl) rfl arA3 rfl (by decide)) (.k (ldc (.o 10 rfl rfl rfl) (.g 11 rfl) (.b 4 rfl) tyI) (.k (mv (.o 10 rfl rfl rfl) (.b 1 rfl)) (.k (eq_ (.o 10 rfl rfl rfl) (.g 12 rfl) (.g 13 rfl) (beq_iff_eq.2 h3)) (.k (mv (.o 10 rfl rfl rfl) (.g 14 rfl)) (.k (baddr 1 (.o 15 rfl rfl rfl) (.b 4 rfl) rfl arA3 rfl (by decide)) (.k (ldc (.o 15 rfl rfl rfl) (.g 16 rfl) (.b 4 rfl) tyI) (.k (mv (.o 15 rfl rfl rfl) (.b 0 rfl)) (.k (eq_ (.o 15 rfl rfl rfl) (.g 17 rfl) (.g 18 rfl) (beq_iff_eq.2 h4)) (.k (pickT (.o 10 rfl rfl rfl) (.g 15 rfl) (.g 19 rfl)) (.k (pickF .k (.g 10 rfl) (.g 20 rfl)) .n)))))))))))))))))))))) [0,1,2,3,4] [21] rfl rfl ?_
   refine Tr.cond 5 rfl (fun _=>?_) nofun
   refine Tr.rs [] (.k (baddr 2 .k (.b 4 rfl) rfl arA3 rfl (by decide)) (.k (ldc .k (.g 0 rfl) (.b 4 rfl) tyI) (.k (asg .k (.g 1 rfl)) (.k (asg .k .c) .n)))) [] [2,3] rfl rfl ?_
   refine Tr.ret (end_tmp2 0 1 rfl rfl rfl)
  ·
   refine Tr.rs [] (.k (baddr 0 .k (.b 4 rfl) rfl arA3 rfl (by decide)) (.k (ldc .k (.g 0 rfl) (.b 4 rfl) tyI) (.k (mv .k (.b 0 rfl)) (.k (eq_ .k (.g 1 rfl) (.g 2 rfl) (beq_iff_eq.2 h1)) (.k (mv .k (.g 3 rfl)) (.k (baddr 1 (.o 4 rfl rfl rfl) (.b 4 rfl) rfl arA3 rfl (by decide)) (.k (ldc (.o 4 rfl rfl rfl) (.g 5 rfl) (.b 4 rfl) tyI) (.k (mv (.o 4 rfl rfl rfl) (.b 1 rfl)) (.k (eq_ (.o 4 rfl rfl rfl) (.g 6 rfl) (.g 7 rfl) (beq_eq_false_iff_ne.2 h2)) (.k (pickT .k (.g 4 rfl) (.g 8 rfl)) (.k (mv .k (.g 9 rfl)) (.k (baddr 0 (.o 10 rfl rfl rfl) (.b 4 rfl) rfl arA3 rfl (by decide)) (.k (ldc (.o 10 rfl rfl rfl) (.g 11 rfl) (.b 4 rfl) tyI) (.k (mv (.o 10 rfl rfl rfl) (.b 1 rfl)) (.k (eq_ (.o 10 rfl rfl rfl) (.g 12 rfl) (.g 13 rfl) (beq_iff_eq.2 h3)) (.k (mv (.o 10 rfl rfl rfl) (.g 14 rfl)) (.k (baddr 1 (.o 15 rfl rfl rfl) (.b 4 rfl) rfl arA3 rfl (by decide)) (.k (ldc (.o 15 rfl rfl rfl) (.g 16 rfl) (.b 4 rfl) tyI) (.k (mv (.o 15 rfl rfl rfl) (.b 0 rfl)) (.k (eq_ (.o 15 rfl rfl rfl) (.g 17 rfl) (.g 18 rfl) (beq_eq_false_iff_ne.2 h4)) (.k (pickT (.o 10 rfl rfl rfl) (.g 15 rfl) (.g 19 rfl)) (.k (pickF .k (.g 10 rfl) (.g 20 rfl)) .n)))))))))))))))))))))) [0,1,2,3,4] [21] rfl rfl ?_
   refine Tr.cond 5 rfl nofun (fun _=>?_)
   refine Tr.skip (Nx.bkN (Nx.go (Tr.reg [(3,1)] (.k (add_ .k (.b 3 rfl) .c (wr1 (by omega))) (.k (mv .k (.g 0 rfl)) .n)) [0,1,2] [1] rfl rfl (Nx.again (3 - (k+1)) (by omega) [.s 1 (iv a),.s 2 (iv b),.s 31 (.is (rot9 t)),.s 32 (iv (((k+1):Nat):Int))] ⟨(k+1),⟨by omega,miss_succ p1 (show ¬ hits a b s by unfold hits;omega) hinv.2⟩,rfl,rfl⟩ (Sub.all (.cons 0 rfl (.cons 1 rfl (.cons 2 rfl (.cons 3 rfl .nil)))))))))
  ·
   refine Tr.rs [] (.k (baddr 0 .k (.b 4 rfl) rfl arA3 rfl (by decide)) (.k (ldc .k (.g 0 rfl) (.b 4 rfl) tyI) (.k (mv .k (.b 0 rfl)) (.k (eq_ .k (.g 1 rfl) (.g 2 rfl) (beq_iff_eq.2 h1)) (.k (mv .k (.g 3 rfl)) (.k (baddr 1 (.o 4 rfl rfl rfl) (.b 4 rfl) rfl arA3 rfl (by decide)) (.k (ldc (.o 4 rfl rfl rfl) (.g 5 rfl) (.b 4 rfl) tyI) (.k (mv (.o 4 rfl rfl rfl) (.b 1 rfl)) (.k (eq_ (.o 4 rfl rfl rfl) (.g 6 rfl) (.g 7 rfl) (beq_eq_false_iff_ne.2 h2)) (.k (pickT .k (.g 4 rfl) (.g 8 rfl)) (.k (mv .k (.g 9 rfl)) (.k (baddr 0 (.o 10 rfl rfl rfl) (.b 4 rfl) rfl arA3 rfl (by decide)) (.k (ldc (.o 10 rfl rfl rfl) (.g 11 rfl) (.b 4 rfl) tyI) (.k (mv (.o 10 rfl rfl rfl) (.b 1 rfl)) (.k (eq_ (.o 10 rfl rfl rfl) (.g 12 rfl) (.g 13 rfl) (beq_eq_false_iff_ne.2 h3)) (.k (mv (.o 10 rfl rfl rfl) (.g 14 rfl)) (.k (skp (.o 15 rfl rfl rfl)) (.k (skp (.o 15 rfl rfl rfl)) (.k (skp (.o 15 rfl rfl rfl)) (.k (skp (.o 15 rfl rfl rfl)) (.k (pickF (.o 10 rfl rfl rfl) (.g 15 rfl) .c) (.k (pickF .k (.g 10 rfl) (.g 20 rfl)) .n)))))))))))))))))))))) [0,1,2,3,4] [21] rfl rfl ?_
   refine Tr.cond 5 rfl nofun (fun _=>?_)
   refine Tr.skip (Nx.bkN (Nx.go (Tr.reg [(3,1)] (.k (add_ .k (.b 3 rfl) .c (wr1 (by omega))) (.k (mv .k (.g 0 rfl)) .n)) [0,1,2] [1] rfl rfl (Nx.again (3 - (k+1)) (by omega) [.s 1 (iv a),.s 2 (iv b),.s 31 (.is (rot9 t)),.s 32 (iv (((k+1):Nat):Int))] ⟨(k+1),⟨by omega,miss_succ p1 (show ¬ hits a b s by unfold hits;omega) hinv.2⟩,rfl,rfl⟩ (Sub.all (.cons 0 rfl (.cons 1 rfl (.cons 2 rfl (.cons 3 rfl .nil)))))))))
  ·
   rw [third_hit p1 (show hits a b s by unfold hits;omega) hinv.2]
   refine Tr.rs [] (.k (baddr 0 .k (.b 4 rfl) rfl arA3 rfl (by decide)) (.k (ldc .k (.g 0 rfl) (.b 4 rfl) tyI) (.k (mv .k (.b 0 rfl)) (.k (eq_ .k (.g 1 rfl) (.g 2 rfl) (beq_eq_false_iff_ne.2 h1)) (.k (mv .k (.g 3 rfl)) (.k (skp (.o 4 rfl rfl rfl)) (.k (skp (.o 4 rfl rfl rfl)) (.k (skp (.o 4 rfl rfl rfl)) (.k (skp (.o 4 rfl rfl rfl)) (.k (pickF .k (.g 4 rfl) .c) (.k (mv .k (.g 9 rfl)) (.k (baddr 0 (.o 10 rfl rfl rfl) (.b 4 rfl) rfl arA3 rfl (by decide)) (.k (ldc (.o 10 rfl rfl rfl) (.g 11 rfl) (.b 4 rfl) tyI) (.k (mv (.o 10 rfl rfl rfl) (.b 1 rfl)) (.k (eq_ (.o 10 rfl rfl rfl) (.g 12 rfl) (.g 13 rfl) (beq_iff_eq.2 h3)) (.k (mv (.o 10 rfl rfl rfl) (.g 14 rfl)) (.k (baddr 1 (.o 15 rfl rfl rfl) (.b 4 rfl) rfl arA3 rfl (by decide)) (.k (ldc (.o 15 rfl rfl rfl) (.g 16 rfl) (.b 4 rfl) tyI) (.k (mv (.o 15 rfl rfl rfl) (.b 0 rfl)) (.k (eq_ (.o 15 rfl rfl rfl) (.g 17 rfl) (.g 18 rfl) (beq_iff_eq.2 h4)) (.k (pickT (.o 10 rfl rfl rfl) (.g 15 rfl) (.g 19 rfl)) (.k (pickF .k (.g 10 rfl) (.g 20 rfl)) .n)))))))))))))))))))))) [0,1,2,3,4] [21] rfl rfl ?_
   refine Tr.cond 5 rfl (fun _=>?_) nofun
   refine Tr.rs [] (.k (baddr 2 .k (.b 4 rfl) rfl arA3 rfl (by decide)) (.k (ldc .k (.g 0 rfl) (.b 4 rfl) tyI) (.k (asg .k (.g 1 rfl)) (.k (asg .k .c) .n)))) [] [2,3] rfl rfl ?_
   refine Tr.ret (end_tmp2 0 1 rfl rfl rfl)
  ·
   refine Tr.rs [] (.k (baddr 0 .k (.b 4 rfl) rfl arA3 rfl (by decide)) (.k (ldc .k (.g 0 rfl) (.b 4 rfl) tyI) (.k (mv .k (.b 0 rfl)) (.k (eq_ .k (.g 1 rfl) (.g 2 rfl) (beq_eq_false_iff_ne.2 h1)) (.k (mv .k (.g 3 rfl)) (.k (skp (.o 4 rfl rfl rfl)) (.k (skp (.o 4 rfl rfl rfl)) (.k (skp (.o 4 rfl rfl rfl)) (.k (skp (.o 4 rfl rfl rfl)) (.k (pickF .k (.g 4 rfl) .c) (.k (mv .k (.g 9 rfl)) (.k (baddr 0 (.o 10 rfl rfl rfl) (.b 4 rfl) rfl arA3 rfl (by decide)) (.k (ldc (.o 10 rfl rfl rfl) (.g 11 rfl) (.b 4 rfl) tyI) (.k (mv (.o 10 rfl rfl rfl) (.b 1 rfl)) (.k (eq_ (.o 10 rfl rfl rfl) (.g 12 rfl) (.g 13 rfl) (beq_iff_eq.2 h3)) (.k (mv (.o 10 rfl rfl rfl) (.g 14 rfl)) (.k (baddr 1 (.o 15 rfl rfl rfl) (.b 4 rfl) rfl arA3 rfl (by decide)) (.k (ldc (.o 15 rfl rfl rfl) (.g 16 rfl) (.b 4 rfl) tyI) (.k (mv (.o 15 rfl rfl rfl) (.b 0 rfl)) (.k (eq_ (.o 15 rfl rfl rfl) (.g 17 rfl) (.g 18 rfl) (beq_eq_false_iff_ne.2 h4)) (.k (pickT (.o 10 rfl rfl rfl) (.g 15 rfl) (.g 19 rfl)) (.k (pickF .k (.g 10 rfl) (.g 20 rfl)) .n)))))))))))))))))))))) [0,1,2,3,4] [21] rfl rfl ?_
   refine Tr.cond 5 rfl nofun (fun _=>?_)
   refine Tr.skip (Nx.bkN (Nx.go (Tr.reg [(3,1)] (.k (add_ .k (.b 3 rfl) .c (wr1 (by omega))) (.k (mv .k (.g 0 rfl)) .n)) [0,1,2] [1] rfl rfl (Nx.again (3 - (k+1)) (by omega) [.s 1 (iv a),.s 2 (iv b),.s 31 (.is (rot9 t)),.s 32 (iv (((k+1):Nat):Int))] ⟨(k+1),⟨by omega,miss_succ p1 (show ¬ hits a b s by unfold hits;omega) hinv.2⟩,rfl,rfl⟩ (Sub.all (.cons 0 rfl (.cons 1 rfl (.cons 2 rfl (.cons 3 rfl .nil)))))))))
  ·
   refine Tr.rs [] (.k (baddr 0 .k (.b 4 rfl) rfl arA3 rfl (by decide)) (.k (ldc .k (.g 0 rfl) (.b 4 rfl) tyI) (.k (mv .k (.b 0 rfl)) (.k (eq_ .k (.g 1 rfl) (.g 2 rfl) (beq_eq_false_iff_ne.2 h1)) (.k (mv .k (.g 3 rfl)) (.k (skp (.o 4 rfl rfl rfl)) (.k (skp (.o 4 rfl rfl rfl)) (.k (skp (.o 4 rfl rfl rfl)) (.k (skp (.o 4 rfl rfl rfl)) (.k (pickF .k (.g 4 rfl) .c) (.k (mv .k (.g 9 rfl)) (.k (baddr 0 (.o 10 rfl rfl rfl) (.b 4 rfl) rfl arA3 rfl (by decide)) (.k (ldc (.o 10 rfl rfl rfl) (.g 11 rfl) (.b 4 rfl) tyI) (.k (mv (.o 10 rfl rfl rfl) (.b 1 rfl)) (.k (eq_ (.o 10 rfl rfl rfl) (.g 12 rfl) (.g 13 rfl) (beq_eq_false_iff_ne.2 h3)) (.k (mv (.o 10 rfl rfl rfl) (.g 14 rfl)) (.k (skp (.o 15 rfl rfl rfl)) (.k (skp (.o 15 rfl rfl rfl)) (.k (skp (.o 15 rfl rfl rfl)) (.k (skp (.o 15 rfl rfl rfl)) (.k (pickF (.o 10 rfl rfl rfl) (.g 15 rfl) .c) (.k (pickF .k (.g 10 rfl) (.g 20 rfl)) .n)))))))))))))))))))))) [0,1,2,3,4] [21] rfl rfl ?_
   refine Tr.cond 5 rfl nofun (fun _=>?_)
   refine Tr.skip (Nx.bkN (Nx.go (Tr.reg [(3,1)] (.k (add_ .k (.b 3 rfl) .c (wr1 (by omega))) (.k (mv .k (.g 0 rfl)) .n)) [0,1,2] [1] rfl rfl (Nx.again (3 - (k+1)) (by omega) [.s 1 (iv a),.s 2 (iv b),.s 31 (.is (rot9 t)),.s 32 (iv (((k+1):Nat):Int))] ⟨(k+1),⟨by omega,miss_succ p1 (show ¬ hits a b s by unfold hits;omega) hinv.2⟩,rfl,rfl⟩ (Sub.all (.cons 0 rfl (.cons 1 rfl (.cons 2 rfl (.cons 3 rfl .nil)))))))))
 ·
  obtain rfl:k=3:=by have:=of_decide_eq_false e33;omega
  refine Tr.exit (Nx.thX (Nx.thX (Nx.bkX (Nx.go (?_)))))
  rw [third_miss hinv.2]
  refine Tr.rs [] (.k (asg .k .c) (.k (asg .k .c) .n)) [] [0,1] rfl rfl ?_
  refine Tr.ret (end_tmp2 0 1 rfl rfl rfl)
theorem fn_thirdN {t:Int × Int × Int} {a b:Int} (h:thirdR t a b=none):FnC Tryz.prog 59 [.is (trv t),iv a,iv b] (.tup [iv 0,bv false]):=by
  have h1:=fn_third (t:=t) (a:=a) (b:=b)
  rw [h] at h1
  exact h1
theorem fn_thirdS {t:Int × Int × Int} {a b c:Int} (h:thirdR t a b=some c):FnC Tryz.prog 59 [.is (trv t),iv a,iv b] (.tup [iv c,bv true]):=by
  have h1:=fn_third (t:=t) (a:=a) (b:=b)
  rw [h] at h1
  exact h1
theorem third_ways (P:List (Int × Int)) (t:Int × Int × Int) (s:Int × Int):thirdR t s.1 s.2=none∨(∃ c,thirdR t s.1 s.2=some c∧dP P s.1 s.2 c=true)∨∃ c,thirdR t s.1 s.2=some c∧dP P s.1 s.2 c=false:=by
  cases h:thirdR t s.1 s.2 with
  | none=>exact .inl rfl
  | some c =>
    cases hd:dP P s.1 s.2 c with
    | true=>exact .inr (.inl ⟨c,rfl,hd⟩)
    | false=>exact .inr (.inr ⟨c,rfl,hd⟩)
theorem fn_discK {P:List (Int × Int)} {a b c:Int} {u v w:Nat} {p q r:Int × Int} {k:Bool} (ha:a=u) (hb:b=v) (hc:c=w) (hp:P[u]?=some p) (hq:P[v]?=some q) (hr:P[w]?=some r) (hd:dP P a b c=k):FnC Tryz.prog 36 [.is (ptv p.1 p.2),.is (ptv q.1 q.2),.is (ptv r.1 r.2)] (bv k):=by
  rw [← hd,← dP_at ha hb hc hp hq hr]
  exact fn_InDisc
theorem fn_crowds {P:List (Int × Int)} {T:List (Int × Int × Int)} {S:List (Int × Int)} {s:Int × Int} (hP:P.length≤1000000) (hT:T.length≤1000000) (hM:MeshOK P.length (oP P) T S) (hs:s∈S):FnC Tryz.prog 29 [SP.mesh P T S,.is (sgv s)] (ivec (crw P T s)):=by
 refine FnC.of (N:=55) Tryz.func29 rfl rfl (Nat.le_of_ble_eq_true rfl) (fun w0 ok0=>?_)
 refine Tr.rs [] (.k (bxx .k (.b 0 rfl)) (.k (bxx .k (.b 1 rfl)) (.k (nilv (sz:=1) .k (.inl rfl)) .n))) [] [0,1] rfl rfl ?_
 refine Tr.rs [] (.k (oini (sz:=1) (E:=3) .k (.inl rfl)) .n) [0,1] [0] rfl rfl ?_
 refine Tr.seq (Tr.rs [] (.k (faddr .k (.b 0 rfl) rfl fMT) (.k (ldc .k (.g 0 rfl) (.b 0 rfl) tyvT) (.k (len_ .k rwT (.g 1 rfl) (by rw [List.length_map])) (.k (mv .k .c) .n)))) [0,1,2] [1,2,3] rfl rfl ?_)
 refine Tr.block (?_)
 refine Tr.loop (fun n_ F_=>∃ k:Nat,∃ l:List Int,(l=crF P T s k∧k≤T.length)∧n_=T.length - k∧F_=[.b 2 (SP.mesh P T S) 26 3,.b 3 (.is (sgv s)) 28 2,.o 5 1 3 (l.map fun z=>[ic z]),.s 11 (tvec T),.s 12 (iv ((T.length:Nat):Int)),.s 13 (iv ((k:Nat):Int))]) (T.length - 0) (F0:=[.b 2 (SP.mesh P T S) 26 3,.b 3 (.is (sgv s)) 28 2,.o 5 1 3 ([].map fun z=>[ic z]),.s 11 (tvec T),.s 12 (iv ((T.length:Nat):Int)),.s 13 (iv ((0:Nat):Int))]) ⟨0,[],⟨rfl,Nat.zero_le _⟩,rfl,rfl⟩ (Sub.all (.cons 0 rfl (.cons 1 rfl (.cons 2 rfl (.cons 3 rfl (.cons 4 rfl (.cons 5 rfl .nil))))))) (fun n_ F_ hI=>?_)
 obtain ⟨k,l,hinv,rfl,rfl⟩:=hI
 refine Tr.rs [] (.k (lt_ .k (.b 5 rfl) (.b 4 rfl) rfl) .n) [0,1,2,3,4,5] [0] rfl rfl ?_
 refine Tr.seq (Tr.cond 6 rfl (fun e14=>?_) (fun e14=>?_))
 ·
  have hk2:k < T.length:=by have:=of_decide_eq_true e14;omega
  refine Tr.skip (Nx.go (Tr.seq (Tr.block (?_))))
  obtain ⟨t,p1⟩:∃ t,T[k]?=some t:=⟨_,List.getElem?_eq_getElem hk2⟩
  refine Tr.rs [] (.k (idx_ .k rwT (.b 3 rfl) (.b 5 rfl) rfl (gm p1)) (.k (ld_at .k (.g 0 rfl) tyT rfl (show _=trv (_,_,_) from rfl)) (.k (ala .k zT) (.k (sta .k (.g 2 rfl) (.g 1 rfl) tyT) .n)))) [0,1,2,3,4,5] [3] rfl rfl ?_
  rcases third_ways P t s with hc|⟨c,hc,hd⟩|⟨c,hc,hd⟩
  ·
   refine Tr.rs [] (.k (ld .k (.b 6 rfl) tyT) (.k (faddr .k (.b 1 rfl) rfl fSA) (.k (ldc .k (.g 1 rfl) (.b 1 rfl) tyI) (.k (faddr .k (.b 1 rfl) rfl fSB) (.k (ldc .k (.g 3 rfl) (.b 1 rfl) tyI) (.k (cal .k Tryz.func59 rfl (fn_thirdN hc) (.k (.g 0 rfl) (.k (.g 2 rfl) (.k (.g 4 rfl) .n)))) (.k (mv .k (.g 5 rfl)) (.k (exx .k (.g 6 rfl) rfl) (.k (exx .k (.g 6 rfl) rfl) (.k (asg .k (.g 7 rfl)) (.k (asg .k (.g 8 rfl)) .n))))))))))) [0,1,2,3,4,5] [9,10] rfl rfl ?_
   refine Tr.ds hmx [] (.k (mv .k (.b 7 rfl)) (.k (mv .k (.g 0 rfl)) (.k (skp (.o 1 rfl rfl rfl)) (.k (skp (.o 1 rfl rfl rfl)) (.k (skp (.o 1 rfl rfl rfl)) (.k (skp (.o 1 rfl rfl rfl)) (.k (skp (.o 1 rfl rfl rfl)) (.k (skp (.o 1 rfl rfl rfl)) (.k (skp (.o 1 rfl rfl rfl)) (.k (skp (.o 1 rfl rfl rfl)) (.k (skp (.o 1 rfl rfl rfl)) (.k (skp (.o 1 rfl rfl rfl)) (.k (skp (.o 1 rfl rfl rfl)) (.k (skp (.o 1 rfl rfl rfl)) (.k (skp (.o 1 rfl rfl rfl)) (.k (skp (.o 1 rfl rfl rfl)) (.k (skp (.o 1 rfl rfl rfl)) (.k (skp (.o 1 rfl rfl rfl)) (.k (skp (.o 1 rfl rfl rfl)) (.k (skp (.o 1 rfl rfl rfl)) (.k (pickF .k (.g 1 rfl) .c) .n))))))))))))))))))))) [0,1,2,3,4,5,6] [20] rfl rfl ?_
   refine Tr.cond 7 rfl nofun (fun _=>?_)
   refine Tr.skip (Nx.bkN (Nx.go (Tr.reg [(5,1)] (.k (add_ .k (.b 5 rfl) .c (wr1 (by omega))) (.k (mv .k (.g 0 rfl)) .n)) [0,1,2,3,4] [1] rfl rfl (Nx.again (T.length - (k+1)) (by omega) [.b 2 (SP.mesh P T S) 26 3,.b 3 (.is (sgv s)) 28 2,.o 5 1 3 (l.map fun z=>[ic z]),.s 11 (tvec T),.s 12 (iv ((T.length:Nat):Int)),.s 13 (iv (((k+1):Nat):Int))] ⟨(k+1),l,⟨hinv.1.trans (crF_none p1 hc).symm,hk2⟩,rfl,rfl⟩ (Sub.all (.cons 0 rfl (.cons 1 rfl (.cons 2 rfl (.cons 3 rfl (.cons 4 rfl (.cons 5 rfl .nil)))))))))))
  ·
   obtain ⟨u,p,ea,pa⟩:=(seg_in hM hs).1
   obtain ⟨v,q,eb,pb⟩:=(seg_in hM hs).2
   obtain ⟨w,r,ec,pc_⟩:=third_in (hM.tri t (List.mem_of_getElem? p1)) hc
   refine Tr.rs [] (.k (ld .k (.b 6 rfl) tyT) (.k (faddr .k (.b 1 rfl) rfl fSA) (.k (ldc .k (.g 1 rfl) (.b 1 rfl) tyI) (.k (faddr .k (.b 1 rfl) rfl fSB) (.k (ldc .k (.g 3 rfl) (.b 1 rfl) tyI) (.k (cal .k Tryz.func59 rfl (fn_thirdS hc) (.k (.g 0 rfl) (.k (.g 2 rfl) (.k (.g 4 rfl) .n)))) (.k (mv .k (.g 5 rfl)) (.k (exx .k (.g 6 rfl) rfl) (.k (exx .k (.g 6 rfl) rfl) (.k (asg .k (.g 7 rfl)) (.k (asg .k (.g 8 rfl)) .n))))))))))) [0,1,2,3,4,5] [9,10] rfl rfl ?_
   refine Tr.ds hmx [] (.k (mv .k (.b 7 rfl)) (.k (mv .k (.g 0 rfl)) (.k (faddr (.o 1 rfl rfl rfl) (.b 0 rfl) rfl fMP) (.k (ldc (.o 1 rfl rfl rfl) (.g 2 rfl) (.b 0 rfl) tyvP) (.k (faddr (.o 1 rfl rfl rfl) (.b 1 rfl) rfl fSA) (.k (ldc (.o 1 rfl rfl rfl) (.g 4 rfl) (.b 1 rfl) tyI) (.k (idx_ (.o 1 rfl rfl rfl) rwP (.g 3 rfl) (.g 5 rfl) ea (gm pa)) (.k (ld_at (.o 1 rfl rfl rfl) (.g 6 rfl) tyP rfl (show _=ptv _ _ from rfl)) (.k (faddr (.o 1 rfl rfl rfl) (.b 0 rfl) rfl fMP) (.k (ldc (.o 1 rfl rfl rfl) (.g 8 rfl) (.b 0 rfl) tyvP) (.k (faddr (.o 1 rfl rfl rfl) (.b 1 rfl) rfl fSB) (.k (ldc (.o 1 rfl rfl rfl) (.g 10 rfl) (.b 1 rfl) tyI) (.k (idx_ (.o 1 rfl rfl rfl) rwP (.g 9 rfl) (.g 11 rfl) eb (gm pb)) (.k (ld_at (.o 1 rfl rfl rfl) (.g 12 rfl) tyP rfl (show _=ptv _ _ from rfl)) (.k (faddr (.o 1 rfl rfl rfl) (.b 0 rfl) rfl fMP) (.k (ldc (.o 1 rfl rfl rfl) (.g 14 rfl) (.b 0 rfl) tyvP) (.k (mv (.o 1 rfl rfl rfl) (.b 6 rfl)) (.k (idx_ (.o 1 rfl rfl rfl) rwP (.g 15 rfl) (.g 16 rfl) ec (gm pc_)) (.k (ld_at (.o 1 rfl rfl rfl) (.g 17 rfl) tyP rfl (show _=ptv _ _ from rfl)) (.k (cal (.o 1 rfl rfl rfl) Tryz.func36 rfl (fn_discK ea eb ec pa pb pc_ hd) (.k (.g 7 rfl) (.k (.g 13 rfl) (.k (.g 18 rfl) .n)))) (.k (pickT .k (.g 1 rfl) (.g 19 rfl)) .n))))))))))))))))))))) [0,1,2,3,4,5,6] [20] rfl rfl ?_
   refine Tr.cond 7 rfl (fun _=>?_) nofun
   refine Tr.reg [(2,0),(1000,3),(1003,4)] (.k (omv .k (.inr rfl) (.b 2 rfl)) (.k (mv .k (.b 6 rfl)) (.k (mkrow .k rwI (.k (.g 1 rfl) .n) rfl rfl (by kernel_rfl)) (.k (oapp_ .k apI (.g 0 rfl) (.g 2 rfl) (by decide) ⟨(show List.map (fun z=>[ic z]) l++[[ic c]]=List.map (fun z=>[ic z]) (l++[c]) by simp),⟨rfl,rfl⟩,by rw [List.length_map];rw [hinv.1];have:=crF_len P T s k;omega⟩) (.k (omv .k (.inl rfl) (.g 3 rfl)) .n))))) [0,1,3,4,5] [4] rfl rfl (Nx.bkN (Nx.go (Tr.reg [(4,1)] (.k (add_ .k (.b 4 rfl) .c (wr1 (by omega))) (.k (mv .k (.g 0 rfl)) .n)) [0,1,2,3,5] [1] rfl rfl (Nx.again (T.length - (k+1)) (by omega) [.b 2 (SP.mesh P T S) 26 3,.b 3 (.is (sgv s)) 28 2,.o 5 1 3 ((l++[c]).map fun z=>[ic z]),.s 11 (tvec T),.s 12 (iv ((T.length:Nat):Int)),.s 13 (iv (((k+1):Nat):Int))] ⟨(k+1),(l++[c]),⟨by rw [hinv.1,crF_in p1 hc hd],hk2⟩,rfl,rfl⟩ (Sub.all (.cons 0 rfl (.cons 1 rfl (.cons 4 rfl (.cons 2 rfl (.cons 3 rfl (.cons 5 rfl .nil)))))))))))
  ·
   obtain ⟨u,p,ea,pa⟩:=(seg_in hM hs).1
   obtain ⟨v,q,eb,pb⟩:=(seg_in hM hs).2
   obtain ⟨w,r,ec,pc_⟩:=third_in (hM.tri t (List.mem_of_getElem? p1)) hc
   refine Tr.rs [] (.k (ld .k (.b 6 rfl) tyT) (.k (faddr .k (.b 1 rfl) rfl fSA) (.k (ldc .k (.g 1 rfl) (.b 1 rfl) tyI) (.k (faddr .k (.b 1 rfl) rfl fSB) (.k (ldc .k (.g 3 rfl) (.b 1 rfl) tyI) (.k (cal .k Tryz.func59 rfl (fn_thirdS hc) (.k (.g 0 rfl) (.k (.g 2 rfl) (.k (.g 4 rfl) .n)))) (.k (mv .k (.g 5 rfl)) (.k (exx .k (.g 6 rfl) rfl) (.k (exx .k (.g 6 rfl) rfl) (.k (asg .k (.g 7 rfl)) (.k (asg .k (.g 8 rfl)) .n))))))))))) [0,1,2,3,4,5] [9,10] rfl rfl ?_
   refine Tr.ds hmx [] (.k (mv .k (.b 7 rfl)) (.k (mv .k (.g 0 rfl)) (.k (faddr (.o 1 rfl rfl rfl) (.b 0 rfl) rfl fMP) (.k (ldc (.o 1 rfl rfl rfl) (.g 2 rfl) (.b 0 rfl) tyvP) (.k (faddr (.o 1 rfl rfl rfl) (.b 1 rfl) rfl fSA) (.k (ldc (.o 1 rfl rfl rfl) (.g 4 rfl) (.b 1 rfl) tyI) (.k (idx_ (.o 1 rfl rfl rfl) rwP (.g 3 rfl) (.g 5 rfl) ea (gm pa)) (.k (ld_at (.o 1 rfl rfl rfl) (.g 6 rfl) tyP rfl (show _=ptv _ _ from rfl)) (.k (faddr (.o 1 rfl rfl rfl) (.b 0 rfl) rfl fMP) (.k (ldc (.o 1 rfl rfl rfl) (.g 8 rfl) (.b 0 rfl) tyvP) (.k (faddr (.o 1 rfl rfl rfl) (.b 1 rfl) rfl fSB) (.k (ldc (.o 1 rfl rfl rfl) (.g 10 rfl) (.b 1 rfl) tyI) (.k (idx_ (.o 1 rfl rfl rfl) rwP (.g 9 rfl) (.g 11 rfl) eb (gm pb)) (.k (ld_at (.o 1 rfl rfl rfl) (.g 12 rfl) tyP rfl (show _=ptv _ _ from rfl)) (.k (faddr (.o 1 rfl rfl rfl) (.b 0 rfl) rfl fMP) (.k (ldc (.o 1 rfl rfl rfl) (.g 14 rfl) (.b 0 rfl) tyvP) (.k (mv (.o 1 rfl rfl rfl) (.b 6 rfl)) (.k (idx_ (.o 1 rfl rfl rfl) rwP (.g 15 rfl) (.g 16 rfl) ec (gm pc_)) (.k (ld_at (.o 1 rfl rfl rfl) (.g 17 rfl) tyP rfl (show _=ptv _ _ from rfl)) (.k (cal (.o 1 rfl rfl rfl) Tryz.func36 rfl (fn_discK ea eb ec pa pb pc_ hd) (.k (.g 7 rfl) (.k (.g 13 rfl) (.k (.g 18 rfl) .n)))) (.k (pickT .k (.g 1 rfl) (.g 19 rfl)) .n))))))))))))))))))))) [0,1,2,3,4,5,6] [20] rfl rfl ?_
   refine Tr.cond 7 rfl nofun (fun _=>?_)
   refine Tr.skip (Nx.bkN (Nx.go (Tr.reg [(5,1)] (.k (add_ .k (.b 5 rfl) .c (wr1 (by omega))) (.k (mv .k (.g 0 rfl)) .n)) [0,1,2,3,4] [1] rfl rfl (Nx.again (T.length - (k+1)) (by omega) [.b 2 (SP.mesh P T S) 26 3,.b 3 (.is (sgv s)) 28 2,.o 5 1 3 (l.map fun z=>[ic z]),.s 11 (tvec T),.s 12 (iv ((T.length:Nat):Int)),.s 13 (iv (((k+1):Nat):Int))] ⟨(k+1),l,⟨hinv.1.trans (crF_out p1 hc hd).symm,hk2⟩,rfl,rfl⟩ (Sub.all (.cons 0 rfl (.cons 1 rfl (.cons 2 rfl (.cons 3 rfl (.cons 4 rfl (.cons 5 rfl .nil)))))))))))
 ·
  obtain rfl:k=T.length:=by have:=of_decide_eq_false e14;have:=hinv.2;omega
  refine Tr.exit (Nx.thX (Nx.thX (Nx.bkX (Nx.go (?_)))))
  have hl:=hinv.1;rcases crw_ways hM hs with ⟨c1,c2,c3⟩|⟨x,y,c1,c2,c3⟩
  ·
   subst hl
   rw [c1]
   refine Tr.frzo 2 [0,1,3,4,5,6] rfl rfl ?_
   refine Tr.rs [] (.k (mv .k (.b 0 rfl)) (.k (cal .k Tryz.func60 rfl (fn_SortI ⟨c2,c3⟩) (.k (.g 0 rfl) .n)) .n)) [0] [] rfl rfl ?_
   refine Tr.rs [] (.k (mv .k (.b 0 rfl)) (.k (asg .k (.g 0 rfl)) .n)) [] [1] rfl rfl ?_
   refine Tr.ret (end_tmp 0 rfl rfl)
  ·
   rw [c1] at hl
   subst hl
   rw [c3]
   refine Tr.ownh 1 2 [0,1,3,4,5,6] rfl (by simp) rfl (fun g1 cap1=>?_)
   refine Tr.rs [(1,1)] (.k (mv .k (.b 0 rfl)) (.k (cal_h .k Tryz.func60 rfl (.b 1 rfl) (.k (.g 0 rfl) .n) (fn_SortW c2)) .n)) [0] [1] rfl rfl ?_
   refine Tr.frz [[ic y],[ic x]] 0 1 [] rfl rfl rfl rfl rfl (by simp) ?_
   refine Tr.rs [] (.k (mv .k (.b 0 rfl)) (.k (asg .k (.g 0 rfl)) .n)) [] [1] rfl rfl ?_
   refine Tr.ret (end_tmp 0 rfl rfl)
theorem fn_CrF {P:List (Int × Int)} {T:List (Int × Int × Int)} {S:List (Int × Int)} {s:Int × Int} (hP:P.length≤1000000) (hT:T.length≤1000000) (hM:MeshOK P.length (oP P) T S) (hs:s∈S):FnC Tryz.prog 28 [.is (sgv s),SP.ptr (SP.mesh P T S) 26 3] (bv (decide (((crw P T s).length:Int) > 0))):=by
 refine FnC.of (N:=9) Tryz.func28 rfl rfl (Nat.le_of_ble_eq_true rfl) (fun w0 ok0=>?_)
 refine Tr.rs [] (.k (bxx .k (.b 0 rfl)) (.k (asg .k .c) .n)) [1] [0] rfl rfl ?_
 refine Tr.rs [] (.k (ldp .k (.b 0 rfl) tyM) (.k (ld .k (.b 1 rfl) tyS) (.k (cal .k Tryz.func29 rfl (fn_crowds hP hT hM hs) (.k (.g 0 rfl) (.k (.g 1 rfl) .n))) (.k (len_ .k rwI (.g 2 rfl) (by rw [List.length_map])) (.k (gt_ .k (.g 3 rfl) .c rfl) (.k (asg .k (.g 4 rfl)) .n)))))) [] [5] rfl rfl ?_
 refine Tr.ret (end_tmp 0 rfl rfl)
theorem fn_SkF {P:List (Int × Int)} {T:List (Int × Int × Int)} {S:List (Int × Int)} {t:Int × Int × Int} (hM:MeshOK P.length (oP P) T S) (ht:t∈T):FnC Tryz.prog 32 [.is (trv t),SP.ptr (SP.mesh P T S) 26 3] (bv (sP P t)):=by
 refine FnC.of (N:=23) Tryz.func32 rfl rfl (Nat.le_of_ble_eq_true rfl) (fun w0 ok0=>?_)
 refine Tr.rs [] (.k (bxx .k (.b 0 rfl)) (.k (asg .k .c) .n)) [1] [0] rfl rfl ?_
 obtain ⟨⟨u,p,ea,pa⟩,⟨v,q,eb,pb⟩,⟨w,r,ec,pc_⟩⟩:=good_in (hM.tri t ht)
 refine Tr.ds hmx [] (.k (fap .k (.b 0 rfl) fMP) (.k (ldv .k (.g 0 rfl) tyvP) (.k (faddr .k (.b 1 rfl) rfl fTA) (.k (ldc .k (.g 2 rfl) (.b 1 rfl) tyI) (.k (idx_ .k rwP (.g 1 rfl) (.g 3 rfl) ea (gm pa)) (.k (ld_at .k (.g 4 rfl) tyP rfl (show _=ptv _ _ from rfl)) (.k (fap .k (.b 0 rfl) fMP) (.k (ldv .k (.g 6 rfl) tyvP) (.k (faddr .k (.b 1 rfl) rfl fTB) (.k (ldc .k (.g 8 rfl) (.b 1 rfl) tyI) (.k (idx_ .k rwP (.g 7 rfl) (.g 9 rfl) eb (gm pb)) (.k (ld_at .k (.g 10 rfl) tyP rfl (show _=ptv _ _ from rfl)) (.k (fap .k (.b 0 rfl) fMP) (.k (ldv .k (.g 12 rfl) tyvP) (.k (faddr .k (.b 1 rfl) rfl fTC) (.k (ldc .k (.g 14 rfl) (.b 1 rfl) tyI) (.k (idx_ .k rwP (.g 13 rfl) (.g 15 rfl) ec (gm pc_)) (.k (ld_at .k (.g 16 rfl) tyP rfl (show _=ptv _ _ from rfl)) (.k (cal .k Tryz.func33 rfl (sP_at ea eb ec pa pb pc_ ▸ fn_Skinny) (.k (.g 5 rfl) (.k (.g 11 rfl) (.k (.g 17 rfl) .n)))) (.k (asg .k (.g 18 rfl)) .n)))))))))))))))))))) [] [19] rfl rfl ?_
 refine Tr.ret (end_tmp 0 rfl rfl)
theorem fn_NeF {P:List (Int × Int)} {T:List (Int × Int × Int)} {S:List (Int × Int)} {s q0:Int × Int} (hM:MeshOK P.length (oP P) T S) (hs:s∈S):FnC Tryz.prog 35 [.is (sgv s),SP.ptr (SP.mesh P T S) 26 3,SP.ptr (.is (ptv q0.1 q0.2)) 30 2] (bv (nP P q0 s)):=by
 refine FnC.of (N:=19) Tryz.func35 rfl rfl (Nat.le_of_ble_eq_true rfl) (fun w0 ok0=>?_)
 refine Tr.rs [] (.k (bxx .k (.b 0 rfl)) (.k (asg .k .c) .n)) [1,2] [0] rfl rfl ?_
 obtain ⟨⟨u,p,ea,pa⟩,⟨v,q,eb,pb⟩⟩:=seg_in hM hs
 refine Tr.ds hmx [] (.k (fap .k (.b 0 rfl) fMP) (.k (ldv .k (.g 0 rfl) tyvP) (.k (faddr .k (.b 2 rfl) rfl fSA) (.k (ldc .k (.g 2 rfl) (.b 2 rfl) tyI) (.k (idx_ .k rwP (.g 1 rfl) (.g 3 rfl) ea (gm pa)) (.k (ld_at .k (.g 4 rfl) tyP rfl (show _=ptv _ _ from rfl)) (.k (fap .k (.b 0 rfl) fMP) (.k (ldv .k (.g 6 rfl) tyvP) (.k (faddr .k (.b 2 rfl) rfl fSB) (.k (ldc .k (.g 8 rfl) (.b 2 rfl) tyI) (.k (idx_ .k rwP (.g 7 rfl) (.g 9 rfl) eb (gm pb)) (.k (ld_at .k (.g 10 rfl) tyP rfl (show _=ptv _ _ from rfl)) (.k (ldp .k (.b 1 rfl) tyP) (.k (cal .k Tryz.func36 rfl (nP_at ea eb pa pb ▸ fn_InDisc) (.k (.g 5 rfl) (.k (.g 11 rfl) (.k (.g 12 rfl) .n)))) (.k (asg .k (.g 13 rfl)) .n))))))))))))))) [] [14] rfl rfl ?_
 refine Tr.ret (end_tmp 0 rfl rfl)
theorem fn_whichS {l:List (Int × Int)} {p:Int × Int→Bool} {fid:FuncId} {fn:Func} {cs:List SP} (hl:l.length≤1000000) (hfn:Tryz.prog.funcs[fid]?=some fn) (hbody:(fn.name == "runtime.NumGoroutine" || fn.body.isNone)=false) (hf:∀ s∈l,FnC Tryz.prog fid ([.is (sgv s)]++cs) (bv (p s))):FnC Tryz.prog 27 [svec l,.fnc fid cs] (ivec (idxs (atB l p) l.length)):=by
 refine FnC.of (N:=24) Tryz.func27 rfl rfl (Nat.le_of_ble_eq_true rfl) (fun w0 ok0=>?_)
 refine Tr.rs [] (.k (nilv (sz:=1) .k (.inl rfl)) .n) [0,1] [] rfl rfl ?_
 refine Tr.rs [] (.k (oini (sz:=1) (E:=3) .k (.inl rfl)) .n) [0,1] [0] rfl rfl ?_
 refine Tr.seq (Tr.rs [] (.k (mv .k (.b 0 rfl)) (.k (len_ .k rwS (.g 0 rfl) (by rw [List.length_map])) (.k (mv .k .c) .n))) [1,2] [0,1,2] rfl rfl ?_)
 refine Tr.block (?_)
 refine Tr.loop (fun n_ F_=>∃ k:Nat,∃ L:List Int,(L=idxs (atB l p) k∧k≤l.length)∧n_=l.length - k∧F_=[.s 1 (.fnc fid cs),.o 5 1 3 (L.map fun z=>[ic z]),.s 8 (svec l),.s 9 (iv ((l.length:Nat):Int)),.s 10 (iv ((k:Nat):Int))]) (l.length - 0) (F0:=[.s 1 (.fnc fid cs),.o 5 1 3 ([].map fun z=>[ic z]),.s 8 (svec l),.s 9 (iv ((l.length:Nat):Int)),.s 10 (iv ((0:Nat):Int))]) ⟨0,[],⟨rfl,Nat.zero_le _⟩,rfl,rfl⟩ (Sub.all (.cons 0 rfl (.cons 1 rfl (.cons 2 rfl (.cons 3 rfl (.cons 4 rfl .nil)))))) (fun n_ F_ hI=>?_)
 obtain ⟨k,L,hinv,rfl,rfl⟩:=hI
 refine Tr.rs [] (.k (lt_ .k (.b 4 rfl) (.b 3 rfl) rfl) .n) [0,1,2,3,4] [0] rfl rfl ?_
 refine Tr.seq (Tr.cond 5 rfl (fun e11=>?_) (fun e11=>?_))
 ·
  have hk2:k < l.length:=by have:=of_decide_eq_true e11;omega
  refine Tr.skip (Nx.go (Tr.seq (Tr.block (?_))))
  obtain ⟨s,p1⟩:∃ s,l[k]?=some s:=⟨_,List.getElem?_eq_getElem hk2⟩
  refine Tr.rs [] (.k (mv .k (.b 4 rfl)) (.k (idx_ .k rwS (.b 2 rfl) (.b 4 rfl) rfl (gm p1)) (.k (ld_at .k (.g 1 rfl) tyS rfl (show _=sgv (_,_) from rfl)) (.k (ala .k zS) (.k (asg .k (.g 0 rfl)) (.k (sta .k (.g 3 rfl) (.g 2 rfl) tyS) .n)))))) [0,1,2,3,4] [4,5] rfl rfl ?_
  cases hp:p s
  ·
   refine Tr.rs [] (.k (mv .k (.b 0 rfl)) (.k (ld .k (.b 6 rfl) tyS) (.k (calvc .k (.g 0 rfl) hfn hbody (hp ▸ hf s (List.mem_of_getElem? p1)) (.k (.g 1 rfl) .n)) .n))) [0,1,2,3,4,5] [2] rfl rfl ?_
   refine Tr.cond 6 rfl nofun (fun _=>?_)
   refine Tr.skip (Nx.bkN (Nx.go (Tr.reg [(4,1)] (.k (add_ .k (.b 4 rfl) .c (wr1 (by omega))) (.k (mv .k (.g 0 rfl)) .n)) [0,1,2,3] [1] rfl rfl (Nx.again (l.length - (k+1)) (by omega) [.s 1 (.fnc fid cs),.o 5 1 3 (L.map fun z=>[ic z]),.s 8 (svec l),.s 9 (iv ((l.length:Nat):Int)),.s 10 (iv (((k+1):Nat):Int))] ⟨(k+1),L,⟨hinv.1.trans (idxs_no ((atB_of p1).trans hp)).symm,hk2⟩,rfl,rfl⟩ (Sub.all (.cons 0 rfl (.cons 1 rfl (.cons 2 rfl (.cons 3 rfl (.cons 4 rfl .nil))))))))))
  ·
   refine Tr.rs [] (.k (mv .k (.b 0 rfl)) (.k (ld .k (.b 6 rfl) tyS) (.k (calvc .k (.g 0 rfl) hfn hbody (hp ▸ hf s (List.mem_of_getElem? p1)) (.k (.g 1 rfl) .n)) .n))) [0,1,2,3,4,5] [2] rfl rfl ?_
   refine Tr.cond 6 rfl (fun _=>?_) nofun
   refine Tr.reg [(1,0),(1000,3),(1003,4)] (.k (omv .k (.inr rfl) (.b 1 rfl)) (.k (mv .k (.b 5 rfl)) (.k (mkrow .k rwI (.k (.g 1 rfl) .n) rfl rfl (by kernel_rfl)) (.k (oapp_ .k apI (.g 0 rfl) (.g 2 rfl) (by decide) ⟨(show List.map (fun z=>[ic z]) L++[[ic (k:Int)]]=List.map (fun z=>[ic z]) (L++[(k:Int)]) by simp),⟨rfl,rfl⟩,by rw [List.length_map];rw [hinv.1];have:=idxs_len (atB l p) k;omega⟩) (.k (omv .k (.inl rfl) (.g 3 rfl)) .n))))) [0,2,3,4] [4] rfl rfl (Nx.bkN (Nx.go (Tr.reg [(3,1)] (.k (add_ .k (.b 3 rfl) .c (wr1 (by omega))) (.k (mv .k (.g 0 rfl)) .n)) [0,1,2,4] [1] rfl rfl (Nx.again (l.length - (k+1)) (by omega) [.s 1 (.fnc fid cs),.o 5 1 3 ((L++[(k:Int)]).map fun z=>[ic z]),.s 8 (svec l),.s 9 (iv ((l.length:Nat):Int)),.s 10 (iv (((k+1):Nat):Int))] ⟨(k+1),(L++[(k:Int)]),⟨by rw [hinv.1,idxs_yes ((atB_of p1).trans hp)],hk2⟩,rfl,rfl⟩ (Sub.all (.cons 0 rfl (.cons 3 rfl (.cons 1 rfl (.cons 2 rfl (.cons 4 rfl .nil))))))))))
 ·
  obtain rfl:k=l.length:=by have:=of_decide_eq_false e11;have:=hinv.2;omega
  refine Tr.exit (Nx.thX (Nx.thX (Nx.bkX (Nx.go (?_)))))
  rw [← hinv.1]
  refine Tr.rs [(1,0)] (.k (frz .k (.inr rfl) (.b 1 rfl)) (.k (asg .k (.g 0 rfl)) .n)) [] [1] rfl rfl ?_
  refine Tr.ret (end_tmp 0 rfl rfl)
theorem fn_whichT {l:List (Int × Int × Int)} {p:Int × Int × Int→Bool} {fid:FuncId} {fn:Func} {cs:List SP} (hl:l.length≤1000000) (hfn:Tryz.prog.funcs[fid]?=some fn) (hbody:(fn.name == "runtime.NumGoroutine" || fn.body.isNone)=false) (hf:∀ s∈l,FnC Tryz.prog fid ([.is (trv s)]++cs) (bv (p s))):FnC Tryz.prog 31 [tvec l,.fnc fid cs] (ivec (idxs (atB l p) l.length)):=by
 refine FnC.of (N:=24) Tryz.func31 rfl rfl (Nat.le_of_ble_eq_true rfl) (fun w0 ok0=>?_)
 refine Tr.rs [] (.k (nilv (sz:=1) .k (.inl rfl)) .n) [0,1] [] rfl rfl ?_
 refine Tr.rs [] (.k (oini (sz:=1) (E:=3) .k (.inl rfl)) .n) [0,1] [0] rfl rfl ?_
 refine Tr.seq (Tr.rs [] (.k (mv .k (.b 0 rfl)) (.k (len_ .k rwT (.g 0 rfl) (by rw [List.length_map])) (.k (mv .k .c) .n))) [1,2] [0,1,2] rfl rfl ?_)
 refine Tr.block (?_)
 refine Tr.loop (fun n_ F_=>∃ k:Nat,∃ L:List Int,(L=idxs (atB l p) k∧k≤l.length)∧n_=l.length - k∧F_=[.s 1 (.fnc fid cs),.o 5 1 3 (L.map fun z=>[ic z]),.s 8 (tvec l),.s 9 (iv ((l.length:Nat):Int)),.s 10 (iv ((k:Nat):Int))]) (l.length - 0) (F0:=[.s 1 (.fnc fid cs),.o 5 1 3 ([].map fun z=>[ic z]),.s 8 (tvec l),.s 9 (iv ((l.length:Nat):Int)),.s 10 (iv ((0:Nat):Int))]) ⟨0,[],⟨rfl,Nat.zero_le _⟩,rfl,rfl⟩ (Sub.all (.cons 0 rfl (.cons 1 rfl (.cons 2 rfl (.cons 3 rfl (.cons 4 rfl .nil)))))) (fun n_ F_ hI=>?_)
 obtain ⟨k,L,hinv,rfl,rfl⟩:=hI
 refine Tr.rs [] (.k (lt_ .k (.b 4 rfl) (.b 3 rfl) rfl) .n) [0,1,2,3,4] [0] rfl rfl ?_
 refine Tr.seq (Tr.cond 5 rfl (fun e11=>?_) (fun e11=>?_))
 ·
  have hk2:k < l.length:=by have:=of_decide_eq_true e11;omega
  refine Tr.skip (Nx.go (Tr.seq (Tr.block (?_))))
  obtain ⟨s,p1⟩:∃ s,l[k]?=some s:=⟨_,List.getElem?_eq_getElem hk2⟩
  refine Tr.rs [] (.k (mv .k (.b 4 rfl)) (.k (idx_ .k rwT (.b 2 rfl) (.b 4 rfl) rfl (gm p1)) (.k (ld_at .k (.g 1 rfl) tyT rfl (show _=trv (_,_,_) from rfl)) (.k (ala .k zT) (.k (asg .k (.g 0 rfl)) (.k (sta .k (.g 3 rfl) (.g 2 rfl) tyT) .n)))))) [0,1,2,3,4] [4,5] rfl rfl ?_
  cases hp:p s
  ·
   refine Tr.rs [] (.k (mv .k (.b 0 rfl)) (.k (ld .k (.b 6 rfl) tyT) (.k (calvc .k (.g 0 rfl) hfn hbody (hp ▸ hf s (List.mem_of_getElem? p1)) (.k (.g 1 rfl) .n)) .n))) [0,1,2,3,4,5] [2] rfl rfl ?_
   refine Tr.cond 6 rfl nofun (fun _=>?_)
   refine Tr.skip (Nx.bkN (Nx.go (Tr.reg [(4,1)] (.k (add_ .k (.b 4 rfl) .c (wr1 (by omega))) (.k (mv .k (.g 0 rfl)) .n)) [0,1,2,3] [1] rfl rfl (Nx.again (l.length - (k+1)) (by omega) [.s 1 (.fnc fid cs),.o 5 1 3 (L.map fun z=>[ic z]),.s 8 (tvec l),.s 9 (iv ((l.length:Nat):Int)),.s 10 (iv (((k+1):Nat):Int))] ⟨(k+1),L,⟨hinv.1.trans (idxs_no ((atB_of p1).trans hp)).symm,hk2⟩,rfl,rfl⟩ (Sub.all (.cons 0 rfl (.cons 1 rfl (.cons 2 rfl (.cons 3 rfl (.cons 4 rfl .nil))))))))))
  ·
   refine Tr.rs [] (.k (mv .k (.b 0 rfl)) (.k (ld .k (.b 6 rfl) tyT) (.k (calvc .k (.g 0 rfl) hfn hbody (hp ▸ hf s (List.mem_of_getElem? p1)) (.k (.g 1 rfl) .n)) .n))) [0,1,2,3,4,5] [2] rfl rfl ?_
   refine Tr.cond 6 rfl (fun _=>?_) nofun
   refine Tr.reg [(1,0),(1000,3),(1003,4)] (.k (omv .k (.inr rfl) (.b 1 rfl)) (.k (mv .k (.b 5 rfl)) (.k (mkrow .k rwI (.k (.g 1 rfl) .n) rfl rfl (by kernel_rfl)) (.k (oapp_ .k apI (.g 0 rfl) (.g 2 rfl) (by decide) ⟨(show List.map (fun z=>[ic z]) L++[[ic (k:Int)]]=List.map (fun z=>[ic z]) (L++[(k:Int)]) by simp),⟨rfl,rfl⟩,by rw [List.length_map];rw [hinv.1];have:=idxs_len (atB l p) k;omega⟩) (.k (omv .k (.inl rfl) (.g 3 rfl)) .n))))) [0,2,3,4] [4] rfl rfl (Nx.bkN (Nx.go (Tr.reg [(3,1)] (.k (add_ .k (.b 3 rfl) .c (wr1 (by omega))) (.k (mv .k (.g 0 rfl)) .n)) [0,1,2,4] [1] rfl rfl (Nx.again (l.length - (k+1)) (by omega) [.s 1 (.fnc fid cs),.o 5 1 3 ((L++[(k:Int)]).map fun z=>[ic z]),.s 8 (tvec l),.s 9 (iv ((l.length:Nat):Int)),.s 10 (iv (((k+1):Nat):Int))] ⟨(k+1),(L++[(k:Int)]),⟨by rw [hinv.1,idxs_yes ((atB_of p1).trans hp)],hk2⟩,rfl,rfl⟩ (Sub.all (.cons 0 rfl (.cons 3 rfl (.cons 1 rfl (.cons 2 rfl (.cons 4 rfl .nil))))))))))
 ·
  obtain rfl:k=l.length:=by have:=of_decide_eq_false e11;have:=hinv.2;omega
  refine Tr.exit (Nx.thX (Nx.thX (Nx.bkX (Nx.go (?_)))))
  rw [← hinv.1]
  refine Tr.rs [(1,0)] (.k (frz .k (.inr rfl) (.b 1 rfl)) (.k (asg .k (.g 0 rfl)) .n)) [] [1] rfl rfl ?_
  refine Tr.ret (end_tmp 0 rfl rfl)
def idxS (l:List (Int × Int)) (s:Int × Int):Int:=firstFrom (atB l fun u=>decide (s=u)) 0 l.length
theorem notin_succ {α:Type} {l:List α} {k:Nat} {x s:α} (h:l[k]?=some x) (hn:s≠x) (hi:s ∉ l.take k):s ∉ l.take (k+1):=by
  rw [take_succ' h,List.mem_append,List.mem_singleton]
  exact fun e=>e.elim hi hn
theorem idxS_at {l:List (Int × Int)} {s:Int × Int} {k:Nat} (h:l[k]?=some s) (hn:s ∉ l.take k):idxS l s=k:=by
  have hk:=(List.getElem?_eq_some_iff.1 h).1
  refine first_at (fun j _ hj=>?_) ((atB_of h).trans (decide_eq_true rfl)) (Nat.zero_le _) (by omega)
  obtain ⟨u,hu⟩:∃ u,l[j]?=some u:=⟨_,List.getElem?_eq_getElem (by omega)⟩
  rw [atB_of hu]
  refine decide_eq_false fun e=>hn ?_
  rw [e]
  exact List.mem_of_getElem? (show (l.take k)[j]?=some u by rw [List.getElem?_take,if_pos hj];exact hu)
theorem idxS_no {l:List (Int × Int)} {s:Int × Int} (h:s ∉ l):idxS l s = -1:=first_none fun j _ hj=>by
  obtain ⟨u,hu⟩:∃ u,l[j]?=some u:=⟨_,List.getElem?_eq_getElem (by omega)⟩
  rw [atB_of hu]
  exact decide_eq_false fun e=>h (e ▸ List.mem_of_getElem? hu)
theorem idxS_in (l:List (Int × Int)) (s:Int × Int):decide (s∈l)=decide (idxS l s ≥ 0):=by
  by_cases h:s∈l
  · rw [decide_eq_true h]
    refine (decide_eq_true ?_).symm
    rcases Int.lt_or_le (idxS l s) 0 with h1|h1
    · exfalso
      obtain ⟨i,hi,e⟩:=List.getElem_of_mem h
      have:=first_neg' (p:=atB l fun u=>decide (s=u)) (n:=l.length) (i:=0) (by unfold idxS at h1;omega) i (Nat.zero_le _) (by omega)
      rw [atB_of (List.getElem?_eq_getElem hi),e,decide_eq_true rfl] at this
      cases this
    · exact h1
  · rw [decide_eq_false h,idxS_no h]
    rfl
theorem sg_eq {s u:Int × Int} (h:s=u):(s.1==u.1 && s.2==u.2)=true:=by rw [h];simp
theorem sg_ne {s u:Int × Int} (h:s≠u):(s.1==u.1 && s.2==u.2)=false:=by
  refine Bool.eq_false_iff.2 fun h'=>h ?_
  simp only [Bool.and_eq_true,beq_iff_eq] at h'
  exact Prod.ext h'.1 h'.2
theorem fn_Index {l:List (Int × Int)} {s:Int × Int} (hl:l.length≤1000000):FnC Tryz.prog 75 [svec l,.is (sgv s)] (iv (idxS l s)):=by
 refine FnC.of (N:=19) Tryz.func75 rfl rfl (Nat.le_of_ble_eq_true rfl) (fun w0 ok0=>?_)
 refine Tr.rs [] (.k (bxx .k (.b 1 rfl)) (.k (asg .k .c) .n)) [0] [0] rfl rfl ?_
 refine Tr.seq (Tr.rs [] (.k (mv .k (.b 0 rfl)) (.k (len_ .k rwS (.g 0 rfl) (by rw [List.length_map])) (.k (mv .k .c) .n))) [0,1] [1,2] rfl rfl ?_)
 refine Tr.block (?_)
 refine Tr.loop (fun n_ F_=>∃ k:Nat,(k≤l.length∧s ∉ l.take k)∧n_=l.length - k∧F_=[.s 0 (svec l),.b 3 (.is (sgv s)) 28 2,.s 7 (iv ((l.length:Nat):Int)),.s 8 (iv ((k:Nat):Int))]) (l.length - 0) (F0:=[.s 0 (svec l),.b 3 (.is (sgv s)) 28 2,.s 7 (iv ((l.length:Nat):Int)),.s 8 (iv ((0:Nat):Int))]) ⟨0,⟨Nat.zero_le _,by simp⟩,rfl,rfl⟩ (Sub.all (.cons 0 rfl (.cons 1 rfl (.cons 2 rfl (.cons 3 rfl .nil))))) (fun n_ F_ hI=>?_)
 obtain ⟨k,hinv,rfl,rfl⟩:=hI
 refine Tr.rs [] (.k (lt_ .k (.b 3 rfl) (.b 2 rfl) rfl) .n) [0,1,2,3] [0] rfl rfl ?_
 refine Tr.seq (Tr.cond 4 rfl (fun e9=>?_) (fun e9=>?_))
 ·
  have hk2:k < l.length:=by have:=of_decide_eq_true e9;omega
  refine Tr.skip (Nx.go (Tr.seq (Tr.block (?_))))
  obtain ⟨u,p1⟩:∃ u,l[k]?=some u:=⟨_,List.getElem?_eq_getElem hk2⟩;by_cases hne:s=u
  ·
   rw [idxS_at (hne ▸ p1) hinv.2]
   refine Tr.rs [] (.k (mv .k (.b 3 rfl)) (.k (asg .k (.g 0 rfl)) .n)) [0,1,2,3] [1] rfl rfl ?_
   refine Tr.ds hmx [] (.k (ld .k (.b 1 rfl) tyS) (.k (mv .k (.b 0 rfl)) (.k (mv .k (.b 4 rfl)) (.k (idx_ .k rwS (.g 1 rfl) (.g 2 rfl) rfl (gm p1)) (.k (ld_at .k (.g 3 rfl) tyS rfl (show _=sgv (_,_) from rfl)) (.k (eqS_ .k sG (.g 0 rfl) (.g 4 rfl) (eqSg _ _) (sg_eq hne)) .n)))))) [0,1,2,3,4] [5] rfl rfl ?_
   refine Tr.cond 5 rfl (fun _=>?_) nofun
   refine Tr.rs [] (.k (mv .k (.b 4 rfl)) (.k (asg .k (.g 0 rfl)) .n)) [] [1] rfl rfl ?_
   refine Tr.ret (end_tmp 0 rfl rfl)
  ·
   refine Tr.rs [] (.k (mv .k (.b 3 rfl)) (.k (asg .k (.g 0 rfl)) .n)) [0,1,2,3] [1] rfl rfl ?_
   refine Tr.ds hmx [] (.k (ld .k (.b 1 rfl) tyS) (.k (mv .k (.b 0 rfl)) (.k (mv .k (.b 4 rfl)) (.k (idx_ .k rwS (.g 1 rfl) (.g 2 rfl) rfl (gm p1)) (.k (ld_at .k (.g 3 rfl) tyS rfl (show _=sgv (_,_) from rfl)) (.k (eqS_ .k sG (.g 0 rfl) (.g 4 rfl) (eqSg _ _) (sg_ne hne)) .n)))))) [0,1,2,3,4] [5] rfl rfl ?_
   refine Tr.cond 5 rfl nofun (fun _=>?_)
   refine Tr.skip (Nx.bkN (Nx.go (Tr.reg [(3,1)] (.k (add_ .k (.b 3 rfl) .c (wr1 (by omega))) (.k (mv .k (.g 0 rfl)) .n)) [0,1,2] [1] rfl rfl (Nx.again (l.length - (k+1)) (by omega) [.s 0 (svec l),.b 3 (.is (sgv s)) 28 2,.s 7 (iv ((l.length:Nat):Int)),.s 8 (iv (((k+1):Nat):Int))] ⟨(k+1),⟨by omega,notin_succ p1 hne hinv.2⟩,rfl,rfl⟩ (Sub.all (.cons 0 rfl (.cons 1 rfl (.cons 2 rfl (.cons 3 rfl .nil)))))))))
 ·
  obtain rfl:k=l.length:=by have:=of_decide_eq_false e9;omega
  refine Tr.exit (Nx.thX (Nx.thX (Nx.bkX (Nx.go (?_)))))
  have hz:=hinv.2
  rw [List.take_length] at hz
  rw [idxS_no hz]
  refine Tr.rs [] (.k (asg .k .c) .n) [] [0] rfl rfl ?_
  refine Tr.ret (end_tmp 0 rfl rfl)
theorem fn_Contains {l:List (Int × Int)} {s:Int × Int} (hl:l.length≤1000000):FnC Tryz.prog 37 [svec l,.is (sgv s)] (bv (decide (s∈l))):=by
 refine FnC.of (N:=9) Tryz.func37 rfl rfl (Nat.le_of_ble_eq_true rfl) (fun w0 ok0=>?_)
 rw [idxS_in l s]
 refine Tr.rs [] (.k (bxx .k (.b 1 rfl)) (.k (asg .k .c) .n)) [0] [0] rfl rfl ?_
 refine Tr.rs [] (.k (mv .k (.b 0 rfl)) (.k (ld .k (.b 1 rfl) tyS) (.k (cal .k Tryz.func75 rfl (fn_Index hl) (.k (.g 0 rfl) (.k (.g 1 rfl) .n))) (.k (ge_ .k (.g 2 rfl) .c rfl) (.k (asg .k (.g 3 rfl)) .n))))) [] [4] rfl rfl ?_
 refine Tr.ret (end_tmp 0 rfl rfl)
end Go.Proofs.YtkgagdjogedoiaaGreat

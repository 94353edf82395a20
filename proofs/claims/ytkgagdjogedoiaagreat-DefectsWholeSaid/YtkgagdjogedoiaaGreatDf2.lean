/- The document's order of triangles, its search among segments; walked. -/
import Derived.Test.YtkgagdjogedoiaaGreatDf1
set_option linter.unusedVariables false
set_option linter.unusedSimpArgs false
set_option maxRecDepth 100000
set_option maxHeartbeats 8000000
namespace Go.Proofs.YtkgagdjogedoiaaGreat
open Go Go.RowKit Go.Proofs.YtkgagdjogedoiaaGreat.Fx Go.Proofs.YtkgagdjogedoiaaGreatW.PrintWords
theorem fn_before {a b:Int × Int × Int}:FnC Tryz.prog 51 [.is (trv a),.is (trv b)] (bv (decide (ltT a b))):=by
 refine FnC.of (N:=30) Tryz.func51 rfl rfl (Nat.le_of_ble_eq_true rfl) (fun w0 ok0=>?_)
 refine Tr.rs [] (.k (bxx .k (.b 0 rfl)) (.k (bxx .k (.b 1 rfl)) (.k (asg .k .c) .n))) [] [0,1] rfl rfl ?_
 rcases (show a.1≠b.1∨(a.1=b.1∧a.2.1≠b.2.1)∨(a.1=b.1∧a.2.1=b.2.1) by omega) with h|⟨h,h2⟩|⟨h,h2⟩
 ·
  rw [show decide (ltT a b)=decide (a.1 < b.1) from decide_eq_decide.2 (by unfold ltT;omega)]
  refine Tr.seq (Tr.rs [] (.k (faddr .k (.b 0 rfl) rfl fTA) (.k (ldc .k (.g 0 rfl) (.b 0 rfl) tyI) (.k (faddr .k (.b 1 rfl) rfl fTA) (.k (ldc .k (.g 2 rfl) (.b 1 rfl) tyI) (.k (ne_ .k (.g 1 rfl) (.g 3 rfl) (bne_iff_ne.2 h)) .n))))) [0,1] [4] rfl rfl ?_)
  refine Tr.cond 2 rfl (fun _=>?_) nofun
  refine Tr.rs [] (.k (faddr .k (.b 0 rfl) rfl fTA) (.k (ldc .k (.g 0 rfl) (.b 0 rfl) tyI) (.k (faddr .k (.b 1 rfl) rfl fTA) (.k (ldc .k (.g 2 rfl) (.b 1 rfl) tyI) (.k (lt_ .k (.g 1 rfl) (.g 3 rfl) rfl) (.k (asg .k (.g 4 rfl)) .n)))))) [] [5] rfl rfl ?_
  refine Tr.ret (end_tmp 0 rfl rfl)
 ·
  rw [show decide (ltT a b)=decide (a.2.1 < b.2.1) from decide_eq_decide.2 (by unfold ltT;omega)]
  refine Tr.seq (Tr.rs [] (.k (faddr .k (.b 0 rfl) rfl fTA) (.k (ldc .k (.g 0 rfl) (.b 0 rfl) tyI) (.k (faddr .k (.b 1 rfl) rfl fTA) (.k (ldc .k (.g 2 rfl) (.b 1 rfl) tyI) (.k (ne_ .k (.g 1 rfl) (.g 3 rfl) (bne_eq_false_iff_eq.2 h)) .n))))) [0,1] [4] rfl rfl ?_)
  refine Tr.cond 2 rfl nofun (fun _=>?_)
  refine Tr.skip (Nx.go (Tr.seq (Tr.rs [] (.k (faddr .k (.b 0 rfl) rfl fTB) (.k (ldc .k (.g 0 rfl) (.b 0 rfl) tyI) (.k (faddr .k (.b 1 rfl) rfl fTB) (.k (ldc .k (.g 2 rfl) (.b 1 rfl) tyI) (.k (ne_ .k (.g 1 rfl) (.g 3 rfl) (bne_iff_ne.2 h2)) .n))))) [0,1] [4] rfl rfl ?_)))
  refine Tr.cond 2 rfl (fun _=>?_) nofun
  refine Tr.rs [] (.k (faddr .k (.b 0 rfl) rfl fTB) (.k (ldc .k (.g 0 rfl) (.b 0 rfl) tyI) (.k (faddr .k (.b 1 rfl) rfl fTB) (.k (ldc .k (.g 2 rfl) (.b 1 rfl) tyI) (.k (lt_ .k (.g 1 rfl) (.g 3 rfl) rfl) (.k (asg .k (.g 4 rfl)) .n)))))) [] [5] rfl rfl ?_
  refine Tr.ret (end_tmp 0 rfl rfl)
 ·
  rw [show decide (ltT a b)=decide (a.2.2 < b.2.2) from decide_eq_decide.2 (by unfold ltT;omega)]
  refine Tr.seq (Tr.rs [] (.k (faddr .k (.b 0 rfl) rfl fTA) (.k (ldc .k (.g 0 rfl) (.b 0 rfl) tyI) (.k (faddr .k (.b 1 rfl) rfl fTA) (.k (ldc .k (.g 2 rfl) (.b 1 rfl) tyI) (.k (ne_ .k (.g 1 rfl) (.g 3 rfl) (bne_eq_false_iff_eq.2 h)) .n))))) [0,1] [4] rfl rfl ?_)
  refine Tr.cond 2 rfl nofun (fun _=>?_)
  refine Tr.skip (Nx.go (Tr.seq (Tr.rs [] (.k (faddr .k (.b 0 rfl) rfl fTB) (.k (ldc .k (.g 0 rfl) (.b 0 rfl) tyI) (.k (faddr .k (.b 1 rfl) rfl fTB) (.k (ldc .k (.g 2 rfl) (.b 1 rfl) tyI) (.k (ne_ .k (.g 1 rfl) (.g 3 rfl) (bne_eq_false_iff_eq.2 h2)) .n))))) [0,1] [4] rfl rfl ?_)))
  refine Tr.cond 2 rfl nofun (fun _=>?_)
  refine Tr.skip (Nx.go (Tr.rs [] (.k (faddr .k (.b 0 rfl) rfl fTC) (.k (ldc .k (.g 0 rfl) (.b 0 rfl) tyI) (.k (faddr .k (.b 1 rfl) rfl fTC) (.k (ldc .k (.g 2 rfl) (.b 1 rfl) tyI) (.k (lt_ .k (.g 1 rfl) (.g 3 rfl) rfl) (.k (asg .k (.g 4 rfl)) .n)))))) [] [5] rfl rfl ?_))
  refine Tr.ret (end_tmp 0 rfl rfl)
theorem has_yes {l:List (Int × Int)} {k:Nat} {a b:Int} {s:Int × Int} (h:l[k]?=some s) (hs:(s.1=a∧s.2=b)∨(s.1=b∧s.2=a)):decide ((a,b)∈l∨(b,a)∈l)=true:=by
  have hm:=List.mem_of_getElem? h
  refine decide_eq_true ?_
  rcases hs with ⟨rfl,rfl⟩|⟨rfl,rfl⟩
  · exact .inl hm
  · exact .inr hm
theorem has_succ {l:List (Int × Int)} {k:Nat} {a b:Int} {s:Int × Int} (h:l[k]?=some s) (hs:¬ ((s.1=a∧s.2=b)∨(s.1=b∧s.2=a))) (hi:(a,b) ∉ l.take k∧(b,a) ∉ l.take k):(a,b) ∉ l.take (k+1)∧(b,a) ∉ l.take (k+1):=by
  rw [take_succ' h]
  simp only [List.mem_append,List.mem_singleton,not_or]
  exact ⟨⟨hi.1,fun e=>hs (.inl (by rw [← e];exact ⟨rfl,rfl⟩))⟩,hi.2,fun e=>hs (.inr (by rw [← e];exact ⟨rfl,rfl⟩))⟩
theorem fn_Has {l:List (Int × Int)} {a b:Int} (hl:l.length≤1000000):FnC Tryz.prog 53 [svec l,iv a,iv b] (bv (decide ((a,b)∈l∨(b,a)∈l))):=by
 refine FnC.of (N:=48) Tryz.func53 rfl rfl (Nat.le_of_ble_eq_true rfl) (fun w0 ok0=>?_)
 refine Tr.rs [] (.k (asg .k .c) .n) [0,1,2] [] rfl rfl ?_
 refine Tr.seq (Tr.rs [] (.k (asg .k .c) .n) [0,1,2] [0] rfl rfl ?_)
 refine Tr.block (?_)
 refine Tr.loop (fun n_ F_=>∃ k:Nat,(k≤l.length∧(a,b) ∉ l.take k∧(b,a) ∉ l.take k)∧n_=l.length - k∧F_=[.s 0 (svec l),.s 1 (iv a),.s 2 (iv b),.s 7 (iv ((k:Nat):Int))]) (l.length - 0) (F0:=[.s 0 (svec l),.s 1 (iv a),.s 2 (iv b),.s 7 (iv ((0:Nat):Int))]) ⟨0,⟨Nat.zero_le _,by simp,by simp⟩,rfl,rfl⟩ (Sub.all (.cons 0 rfl (.cons 1 rfl (.cons 2 rfl (.cons 3 rfl .nil))))) (fun n_ F_ hI=>?_)
 obtain ⟨k,hinv,rfl,rfl⟩:=hI
 refine Tr.seq (Tr.rs [] (.k (mv .k (.b 3 rfl)) (.k (mv .k (.b 0 rfl)) (.k (len_ .k rwS (.g 1 rfl) (by rw [List.length_map])) (.k (lt_ .k (.g 0 rfl) (.g 2 rfl) rfl) .n)))) [0,1,2,3] [3] rfl rfl ?_)
 refine Tr.cond 4 rfl (fun e11=>?_) (fun e11=>?_)
 ·
  have hk2:k < l.length:=by have:=of_decide_eq_true e11;omega
  refine Tr.skip (Nx.go (Tr.seq (Tr.block (?_))))
  obtain ⟨s,p1⟩:∃ s,l[k]?=some s:=⟨_,List.getElem?_eq_getElem hk2⟩;rcases (show (s.1=a∧s.2=b)∨(s.1=a∧s.2≠b∧s.1=b∧s.2=a)∨(s.1=a∧s.2≠b∧s.1=b∧s.2≠a)∨(s.1=a∧s.2≠b∧s.1≠b)∨(s.1≠a∧s.1=b∧s.2=a)∨(s.1≠a∧s.1=b∧s.2≠a)∨(s.1≠a∧s.1≠b) by omega) with ⟨h1,h2⟩|⟨h1,h2,h3,h4⟩|⟨h1,h2,h3,h4⟩|⟨h1,h2,h3⟩|⟨h1,h3,h4⟩|⟨h1,h3,h4⟩|⟨h1,h3⟩
  ·
   rw [has_yes p1 (by omega)]
   refine Tr.rs [] (.k (mv .k (.b 0 rfl)) (.k (mv .k (.b 3 rfl)) (.k (idx_ .k rwS (.g 0 rfl) (.g 1 rfl) rfl (gm p1)) (.k (fat .k (.g 2 rfl) aSA rfl) (.k (ldc_at .k (.g 3 rfl) tyI) (.k (mv .k (.b 1 rfl)) (.k (eq_ .k (.g 4 rfl) (.g 5 rfl) (beq_iff_eq.2 h1)) (.k (mv .k (.g 6 rfl)) (.k (mv (.o 7 rfl rfl rfl) (.b 0 rfl)) (.k (mv (.o 7 rfl rfl rfl) (.b 3 rfl)) (.k (idx_ (.o 7 rfl rfl rfl) rwS (.g 8 rfl) (.g 9 rfl) rfl (gm p1)) (.k (fat (.o 7 rfl rfl rfl) (.g 10 rfl) aSB rfl) (.k (ldc_at (.o 7 rfl rfl rfl) (.g 11 rfl) tyI) (.k (mv (.o 7 rfl rfl rfl) (.b 2 rfl)) (.k (eq_ (.o 7 rfl rfl rfl) (.g 12 rfl) (.g 13 rfl) (beq_iff_eq.2 h2)) (.k (pickT .k (.g 7 rfl) (.g 14 rfl)) (.k (mv .k (.g 15 rfl)) (.k (skp (.o 16 rfl rfl rfl)) (.k (skp (.o 16 rfl rfl rfl)) (.k (skp (.o 16 rfl rfl rfl)) (.k (skp (.o 16 rfl rfl rfl)) (.k (skp (.o 16 rfl rfl rfl)) (.k (skp (.o 16 rfl rfl rfl)) (.k (skp (.o 16 rfl rfl rfl)) (.k (skpu (.o 16 rfl rfl rfl)) (.k (skpn (.g 24 rfl) rfl) (.k (skpn (.g 24 rfl) rfl) (.k (skpn (.g 24 rfl) rfl) (.k (skpn (.g 24 rfl) rfl) (.k (skpn (.g 24 rfl) rfl) (.k (skpn (.g 24 rfl) rfl) (.k (skpn (.g 24 rfl) rfl) (.k (skp (.o 16 rfl rfl rfl)) (.k (pickT .k (.g 16 rfl) .c) .n)))))))))))))))))))))))))))))))))) [0,1,2,3] [33] rfl rfl ?_
   refine Tr.cond 4 rfl (fun _=>?_) nofun
   refine Tr.rs [] (.k (asg .k .c) .n) [] [0] rfl rfl ?_
   refine Tr.ret (end_tmp 0 rfl rfl)
  ·
   rw [has_yes p1 (by omega)]
   refine Tr.rs [] (.k (mv .k (.b 0 rfl)) (.k (mv .k (.b 3 rfl)) (.k (idx_ .k rwS (.g 0 rfl) (.g 1 rfl) rfl (gm p1)) (.k (fat .k (.g 2 rfl) aSA rfl) (.k (ldc_at .k (.g 3 rfl) tyI) (.k (mv .k (.b 1 rfl)) (.k (eq_ .k (.g 4 rfl) (.g 5 rfl) (beq_iff_eq.2 h1)) (.k (mv .k (.g 6 rfl)) (.k (mv (.o 7 rfl rfl rfl) (.b 0 rfl)) (.k (mv (.o 7 rfl rfl rfl) (.b 3 rfl)) (.k (idx_ (.o 7 rfl rfl rfl) rwS (.g 8 rfl) (.g 9 rfl) rfl (gm p1)) (.k (fat (.o 7 rfl rfl rfl) (.g 10 rfl) aSB rfl) (.k (ldc_at (.o 7 rfl rfl rfl) (.g 11 rfl) tyI) (.k (mv (.o 7 rfl rfl rfl) (.b 2 rfl)) (.k (eq_ (.o 7 rfl rfl rfl) (.g 12 rfl) (.g 13 rfl) (beq_eq_false_iff_ne.2 h2)) (.k (pickT .k (.g 7 rfl) (.g 14 rfl)) (.k (mv .k (.g 15 rfl)) (.k (mv (.o 16 rfl rfl rfl) (.b 0 rfl)) (.k (mv (.o 16 rfl rfl rfl) (.b 3 rfl)) (.k (idx_ (.o 16 rfl rfl rfl) rwS (.g 17 rfl) (.g 18 rfl) rfl (gm p1)) (.k (fat (.o 16 rfl rfl rfl) (.g 19 rfl) aSA rfl) (.k (ldc_at (.o 16 rfl rfl rfl) (.g 20 rfl) tyI) (.k (mv (.o 16 rfl rfl rfl) (.b 2 rfl)) (.k (eq_ (.o 16 rfl rfl rfl) (.g 21 rfl) (.g 22 rfl) (beq_iff_eq.2 h3)) (.k (mv (.o 16 rfl rfl rfl) (.g 23 rfl)) (.k (mv (.o 24 rfl rfl rfl) (.b 0 rfl)) (.k (mv (.o 24 rfl rfl rfl) (.b 3 rfl)) (.k (idx_ (.o 24 rfl rfl rfl) rwS (.g 25 rfl) (.g 26 rfl) rfl (gm p1)) (.k (fat (.o 24 rfl rfl rfl) (.g 27 rfl) aSB rfl) (.k (ldc_at (.o 24 rfl rfl rfl) (.g 28 rfl) tyI) (.k (mv (.o 24 rfl rfl rfl) (.b 1 rfl)) (.k (eq_ (.o 24 rfl rfl rfl) (.g 29 rfl) (.g 30 rfl) (beq_iff_eq.2 h4)) (.k (pickT (.o 16 rfl rfl rfl) (.g 24 rfl) (.g 31 rfl)) (.k (pickF .k (.g 16 rfl) (.g 32 rfl)) .n)))))))))))))))))))))))))))))))))) [0,1,2,3] [33] rfl rfl ?_
   refine Tr.cond 4 rfl (fun _=>?_) nofun
   refine Tr.rs [] (.k (asg .k .c) .n) [] [0] rfl rfl ?_
   refine Tr.ret (end_tmp 0 rfl rfl)
  ·
   refine Tr.rs [] (.k (mv .k (.b 0 rfl)) (.k (mv .k (.b 3 rfl)) (.k (idx_ .k rwS (.g 0 rfl) (.g 1 rfl) rfl (gm p1)) (.k (fat .k (.g 2 rfl) aSA rfl) (.k (ldc_at .k (.g 3 rfl) tyI) (.k (mv .k (.b 1 rfl)) (.k (eq_ .k (.g 4 rfl) (.g 5 rfl) (beq_iff_eq.2 h1)) (.k (mv .k (.g 6 rfl)) (.k (mv (.o 7 rfl rfl rfl) (.b 0 rfl)) (.k (mv (.o 7 rfl rfl rfl) (.b 3 rfl)) (.k (idx_ (.o 7 rfl rfl rfl) rwS (.g 8 rfl) (.g 9 rfl) rfl (gm p1)) (.k (fat (.o 7 rfl rfl rfl) (.g 10 rfl) aSB rfl) (.k (ldc_at (.o 7 rfl rfl rfl) (.g 11 rfl) tyI) (.k (mv (.o 7 rfl rfl rfl) (.b 2 rfl)) (.k (eq_ (.o 7 rfl rfl rfl) (.g 12 rfl) (.g 13 rfl) (beq_eq_false_iff_ne.2 h2)) (.k (pickT .k (.g 7 rfl) (.g 14 rfl)) (.k (mv .k (.g 15 rfl)) (.k (mv (.o 16 rfl rfl rfl) (.b 0 rfl)) (.k (mv (.o 16 rfl rfl rfl) (.b 3 rfl)) (.k (idx_ (.o 16 rfl rfl rfl) rwS (.g 17 rfl) (.g 18 rfl) rfl (gm p1)) (.k (fat (.o 16 rfl rfl rfl) (.g 19 rfl) aSA rfl) (.k (ldc_at (.o 16 rfl rfl rfl) (.g 20 rfl) tyI) (.k (mv (.o 16 rfl rfl rfl) (.b 2 rfl)) (.k (eq_ (.o 16 rfl rfl rfl) (.g 21 rfl) (.g 22 rfl) (beq_iff_eq.2 h3)) (.k (mv (.o 16 rfl rfl rfl) (.g 23 rfl)) (.k (mv (.o 24 rfl rfl rfl) (.b 0 rfl)) (.k (mv (.o 24 rfl rfl rfl) (.b 3 rfl)) (.k (idx_ (.o 24 rfl rfl rfl) rwS (.g 25 rfl) (.g 26 rfl) rfl (gm p1)) (.k (fat (.o 24 rfl rfl rfl) (.g 27 rfl) aSB rfl) (.k (ldc_at (.o 24 rfl rfl rfl) (.g 28 rfl) tyI) (.k (mv (.o 24 rfl rfl rfl) (.b 1 rfl)) (.k (eq_ (.o 24 rfl rfl rfl) (.g 29 rfl) (.g 30 rfl) (beq_eq_false_iff_ne.2 h4)) (.k (pickT (.o 16 rfl rfl rfl) (.g 24 rfl) (.g 31 rfl)) (.k (pickF .k (.g 16 rfl) (.g 32 rfl)) .n)))))))))))))))))))))))))))))))))) [0,1,2,3] [33] rfl rfl ?_
   refine Tr.cond 4 rfl nofun (fun _=>?_)
   refine Tr.skip (Nx.bkN (Nx.go (Tr.reg [(3,2)] (.k (mv .k (.b 3 rfl)) (.k (add_ .k (.g 0 rfl) .c (wr1 (by omega))) (.k (asg .k (.g 1 rfl)) .n))) [0,1,2] [2] rfl rfl (Nx.again (l.length - (k+1)) (by omega) [.s 0 (svec l),.s 1 (iv a),.s 2 (iv b),.s 7 (iv (((k+1):Nat):Int))] ⟨(k+1),⟨by omega,has_succ p1 (by omega) hinv.2⟩,rfl,rfl⟩ (Sub.all (.cons 0 rfl (.cons 1 rfl (.cons 2 rfl (.cons 3 rfl .nil)))))))))
  ·
   refine Tr.rs [] (.k (mv .k (.b 0 rfl)) (.k (mv .k (.b 3 rfl)) (.k (idx_ .k rwS (.g 0 rfl) (.g 1 rfl) rfl (gm p1)) (.k (fat .k (.g 2 rfl) aSA rfl) (.k (ldc_at .k (.g 3 rfl) tyI) (.k (mv .k (.b 1 rfl)) (.k (eq_ .k (.g 4 rfl) (.g 5 rfl) (beq_iff_eq.2 h1)) (.k (mv .k (.g 6 rfl)) (.k (mv (.o 7 rfl rfl rfl) (.b 0 rfl)) (.k (mv (.o 7 rfl rfl rfl) (.b 3 rfl)) (.k (idx_ (.o 7 rfl rfl rfl) rwS (.g 8 rfl) (.g 9 rfl) rfl (gm p1)) (.k (fat (.o 7 rfl rfl rfl) (.g 10 rfl) aSB rfl) (.k (ldc_at (.o 7 rfl rfl rfl) (.g 11 rfl) tyI) (.k (mv (.o 7 rfl rfl rfl) (.b 2 rfl)) (.k (eq_ (.o 7 rfl rfl rfl) (.g 12 rfl) (.g 13 rfl) (beq_eq_false_iff_ne.2 h2)) (.k (pickT .k (.g 7 rfl) (.g 14 rfl)) (.k (mv .k (.g 15 rfl)) (.k (mv (.o 16 rfl rfl rfl) (.b 0 rfl)) (.k (mv (.o 16 rfl rfl rfl) (.b 3 rfl)) (.k (idx_ (.o 16 rfl rfl rfl) rwS (.g 17 rfl) (.g 18 rfl) rfl (gm p1)) (.k (fat (.o 16 rfl rfl rfl) (.g 19 rfl) aSA rfl) (.k (ldc_at (.o 16 rfl rfl rfl) (.g 20 rfl) tyI) (.k (mv (.o 16 rfl rfl rfl) (.b 2 rfl)) (.k (eq_ (.o 16 rfl rfl rfl) (.g 21 rfl) (.g 22 rfl) (beq_eq_false_iff_ne.2 h3)) (.k (mv (.o 16 rfl rfl rfl) (.g 23 rfl)) (.k (skp (.o 24 rfl rfl rfl)) (.k (skp (.o 24 rfl rfl rfl)) (.k (skp (.o 24 rfl rfl rfl)) (.k (skp (.o 24 rfl rfl rfl)) (.k (skp (.o 24 rfl rfl rfl)) (.k (skp (.o 24 rfl rfl rfl)) (.k (skp (.o 24 rfl rfl rfl)) (.k (pickF (.o 16 rfl rfl rfl) (.g 24 rfl) .c) (.k (pickF .k (.g 16 rfl) (.g 32 rfl)) .n)))))))))))))))))))))))))))))))))) [0,1,2,3] [33] rfl rfl ?_
   refine Tr.cond 4 rfl nofun (fun _=>?_)
   refine Tr.skip (Nx.bkN (Nx.go (Tr.reg [(3,2)] (.k (mv .k (.b 3 rfl)) (.k (add_ .k (.g 0 rfl) .c (wr1 (by omega))) (.k (asg .k (.g 1 rfl)) .n))) [0,1,2] [2] rfl rfl (Nx.again (l.length - (k+1)) (by omega) [.s 0 (svec l),.s 1 (iv a),.s 2 (iv b),.s 7 (iv (((k+1):Nat):Int))] ⟨(k+1),⟨by omega,has_succ p1 (by omega) hinv.2⟩,rfl,rfl⟩ (Sub.all (.cons 0 rfl (.cons 1 rfl (.cons 2 rfl (.cons 3 rfl .nil)))))))))
  ·
   rw [has_yes p1 (by omega)]
   refine Tr.rs [] (.k (mv .k (.b 0 rfl)) (.k (mv .k (.b 3 rfl)) (.k (idx_ .k rwS (.g 0 rfl) (.g 1 rfl) rfl (gm p1)) (.k (fat .k (.g 2 rfl) aSA rfl) (.k (ldc_at .k (.g 3 rfl) tyI) (.k (mv .k (.b 1 rfl)) (.k (eq_ .k (.g 4 rfl) (.g 5 rfl) (beq_eq_false_iff_ne.2 h1)) (.k (mv .k (.g 6 rfl)) (.k (skp (.o 7 rfl rfl rfl)) (.k (skp (.o 7 rfl rfl rfl)) (.k (skp (.o 7 rfl rfl rfl)) (.k (skp (.o 7 rfl rfl rfl)) (.k (skp (.o 7 rfl rfl rfl)) (.k (skp (.o 7 rfl rfl rfl)) (.k (skp (.o 7 rfl rfl rfl)) (.k (pickF .k (.g 7 rfl) .c) (.k (mv .k (.g 15 rfl)) (.k (mv (.o 16 rfl rfl rfl) (.b 0 rfl)) (.k (mv (.o 16 rfl rfl rfl) (.b 3 rfl)) (.k (idx_ (.o 16 rfl rfl rfl) rwS (.g 17 rfl) (.g 18 rfl) rfl (gm p1)) (.k (fat (.o 16 rfl rfl rfl) (.g 19 rfl) aSA rfl) (.k (ldc_at (.o 16 rfl rfl rfl) (.g 20 rfl) tyI) (.k (mv (.o 16 rfl rfl rfl) (.b 2 rfl)) (.k (eq_ (.o 16 rfl rfl rfl) (.g 21 rfl) (.g 22 rfl) (beq_iff_eq.2 h3)) (.k (mv (.o 16 rfl rfl rfl) (.g 23 rfl)) (.k (mv (.o 24 rfl rfl rfl) (.b 0 rfl)) (.k (mv (.o 24 rfl rfl rfl) (.b 3 rfl)) (.k (idx_ (.o 24 rfl rfl rfl) rwS (.g 25 rfl) (.g 26 rfl) rfl (gm p1)) (.k (fat (.o 24 rfl rfl rfl) (.g 27 rfl) aSB rfl) (.k (ldc_at (.o 24 rfl rfl rfl) (.g 28 rfl) tyI) (.k (mv (.o 24 rfl rfl rfl) (.b 1 rfl)) (.k (eq_ (.o 24 rfl rfl rfl) (.g 29 rfl) (.g 30 rfl) (beq_iff_eq.2 h4)) (.k (pickT (.o 16 rfl rfl rfl) (.g 24 rfl) (.g 31 rfl)) (.k (pickF .k (.g 16 rfl) (.g 32 rfl)) .n)))))))))))))))))))))))))))))))))) [0,1,2,3] [33] rfl rfl ?_
   refine Tr.cond 4 rfl (fun _=>?_) nofun
   refine Tr.rs [] (.k (asg .k .c) .n) [] [0] rfl rfl ?_
   refine Tr.ret (end_tmp 0 rfl rfl)
  ·
   refine Tr.rs [] (.k (mv .k (.b 0 rfl)) (.k (mv .k (.b 3 rfl)) (.k (idx_ .k rwS (.g 0 rfl) (.g 1 rfl) rfl (gm p1)) (.k (fat .k (.g 2 rfl) aSA rfl) (.k (ldc_at .k (.g 3 rfl) tyI) (.k (mv .k (.b 1 rfl)) (.k (eq_ .k (.g 4 rfl) (.g 5 rfl) (beq_eq_false_iff_ne.2 h1)) (.k (mv .k (.g 6 rfl)) (.k (skp (.o 7 rfl rfl rfl)) (.k (skp (.o 7 rfl rfl rfl)) (.k (skp (.o 7 rfl rfl rfl)) (.k (skp (.o 7 rfl rfl rfl)) (.k (skp (.o 7 rfl rfl rfl)) (.k (skp (.o 7 rfl rfl rfl)) (.k (skp (.o 7 rfl rfl rfl)) (.k (pickF .k (.g 7 rfl) .c) (.k (mv .k (.g 15 rfl)) (.k (mv (.o 16 rfl rfl rfl) (.b 0 rfl)) (.k (mv (.o 16 rfl rfl rfl) (.b 3 rfl)) (.k (idx_ (.o 16 rfl rfl rfl) rwS (.g 17 rfl) (.g 18 rfl) rfl (gm p1)) (.k (fat (.o 16 rfl rfl rfl) (.g 19 rfl) aSA rfl) (.k (ldc_at (.o 16 rfl rfl rfl) (.g 20 rfl) tyI) (.k (mv (.o 16 rfl rfl rfl) (.b 2 rfl)) (.k (eq_ (.o 16 rfl rfl rfl) (.g 21 rfl) (.g 22 rfl) (beq_iff_eq.2 h3)) (.k (mv (.o 16 rfl rfl rfl) (.g 23 rfl)) (.k (mv (.o 24 rfl rfl rfl) (.b 0 rfl)) (.k (mv (.o 24 rfl rfl rfl) (.b 3 rfl)) (.k (idx_ (.o 24 rfl rfl rfl) rwS (.g 25 rfl) (.g 26 rfl) rfl (gm p1)) (.k (fat (.o 24 rfl rfl rfl) (.g 27 rfl) aSB rfl) (.k (ldc_at (.o 24 rfl rfl rfl) (.g 28 rfl) tyI) (.k (mv (.o 24 rfl rfl rfl) (.b 1 rfl)) (.k (eq_ (.o 24 rfl rfl rfl) (.g 29 rfl) (.g 30 rfl) (beq_eq_false_iff_ne.2 h4)) (.k (pickT (.o 16 rfl rfl rfl) (.g 24 rfl) (.g 31 rfl)) (.k (pickF .k (.g 16 rfl) (.g 32 rfl)) .n)))))))))))))))))))))))))))))))))) [0,1,2,3] [33] rfl rfl ?_
   refine Tr.cond 4 rfl nofun (fun _=>?_)
   refine Tr.skip (Nx.bkN (Nx.go (Tr.reg [(3,2)] (.k (mv .k (.b 3 rfl)) (.k (add_ .k (.g 0 rfl) .c (wr1 (by omega))) (.k (asg .k (.g 1 rfl)) .n))) [0,1,2] [2] rfl rfl (Nx.again (l.length - (k+1)) (by omega) [.s 0 (svec l),.s 1 (iv a),.s 2 (iv b),.s 7 (iv (((k+1):Nat):Int))] ⟨(k+1),⟨by omega,has_succ p1 (by omega) hinv.2⟩,rfl,rfl⟩ (Sub.all (.cons 0 rfl (.cons 1 rfl (.cons 2 rfl (.cons 3 rfl .nil)))))))))
  ·
   refine Tr.rs [] (.k (mv .k (.b 0 rfl)) (.k (mv .k (.b 3 rfl)) (.k (idx_ .k rwS (.g 0 rfl) (.g 1 rfl) rfl (gm p1)) (.k (fat .k (.g 2 rfl) aSA rfl) (.k (ldc_at .k (.g 3 rfl) tyI) (.k (mv .k (.b 1 rfl)) (.k (eq_ .k (.g 4 rfl) (.g 5 rfl) (beq_eq_false_iff_ne.2 h1)) (.k (mv .k (.g 6 rfl)) (.k (skp (.o 7 rfl rfl rfl)) (.k (skp (.o 7 rfl rfl rfl)) (.k (skp (.o 7 rfl rfl rfl)) (.k (skp (.o 7 rfl rfl rfl)) (.k (skp (.o 7 rfl rfl rfl)) (.k (skp (.o 7 rfl rfl rfl)) (.k (skp (.o 7 rfl rfl rfl)) (.k (pickF .k (.g 7 rfl) .c) (.k (mv .k (.g 15 rfl)) (.k (mv (.o 16 rfl rfl rfl) (.b 0 rfl)) (.k (mv (.o 16 rfl rfl rfl) (.b 3 rfl)) (.k (idx_ (.o 16 rfl rfl rfl) rwS (.g 17 rfl) (.g 18 rfl) rfl (gm p1)) (.k (fat (.o 16 rfl rfl rfl) (.g 19 rfl) aSA rfl) (.k (ldc_at (.o 16 rfl rfl rfl) (.g 20 rfl) tyI) (.k (mv (.o 16 rfl rfl rfl) (.b 2 rfl)) (.k (eq_ (.o 16 rfl rfl rfl) (.g 21 rfl) (.g 22 rfl) (beq_eq_false_iff_ne.2 h3)) (.k (mv (.o 16 rfl rfl rfl) (.g 23 rfl)) (.k (skp (.o 24 rfl rfl rfl)) (.k (skp (.o 24 rfl rfl rfl)) (.k (skp (.o 24 rfl rfl rfl)) (.k (skp (.o 24 rfl rfl rfl)) (.k (skp (.o 24 rfl rfl rfl)) (.k (skp (.o 24 rfl rfl rfl)) (.k (skp (.o 24 rfl rfl rfl)) (.k (pickF (.o 16 rfl rfl rfl) (.g 24 rfl) .c) (.k (pickF .k (.g 16 rfl) (.g 32 rfl)) .n)))))))))))))))))))))))))))))))))) [0,1,2,3] [33] rfl rfl ?_
   refine Tr.cond 4 rfl nofun (fun _=>?_)
   refine Tr.skip (Nx.bkN (Nx.go (Tr.reg [(3,2)] (.k (mv .k (.b 3 rfl)) (.k (add_ .k (.g 0 rfl) .c (wr1 (by omega))) (.k (asg .k (.g 1 rfl)) .n))) [0,1,2] [2] rfl rfl (Nx.again (l.length - (k+1)) (by omega) [.s 0 (svec l),.s 1 (iv a),.s 2 (iv b),.s 7 (iv (((k+1):Nat):Int))] ⟨(k+1),⟨by omega,has_succ p1 (by omega) hinv.2⟩,rfl,rfl⟩ (Sub.all (.cons 0 rfl (.cons 1 rfl (.cons 2 rfl (.cons 3 rfl .nil)))))))))
 ·
  obtain rfl:k=l.length:=by have:=of_decide_eq_false e11;omega
  refine Tr.exit (Nx.thX (Nx.thX (Nx.bkX (Nx.go (?_)))))
  have hz:=hinv.2
  rw [List.take_length] at hz
  rw [decide_eq_false (show ¬ ((a,b)∈l∨(b,a)∈l) from fun h=>h.elim hz.1 hz.2)]
  refine Tr.rs [] (.k (asg .k .c) .n) [] [0] rfl rfl ?_
  refine Tr.ret (end_tmp 0 rfl rfl)
end Go.Proofs.YtkgagdjogedoiaaGreat

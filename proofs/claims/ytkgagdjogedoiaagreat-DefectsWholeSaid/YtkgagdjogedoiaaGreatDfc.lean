/- Too many; a mesh in new memory; turned and twice as great: walked. -/
import Derived.Test.YtkgagdjogedoiaaGreatDfb
import Derived.Test.YtkgagdjogedoiaaGreatCx
set_option linter.unusedVariables false
set_option linter.unusedSimpArgs false
set_option maxRecDepth 100000
set_option maxHeartbeats 8000000
namespace Go.Proofs.YtkgagdjogedoiaaGreat
open Go Go.RowKit Go.Proofs.YtkgagdjogedoiaaGreat.Fx Go.Proofs.YtkgagdjogedoiaaGreatW.PrintWords
theorem szvP:(Tryz.prog.info? 22).map (·.size)=some 1:=by kernel_rfl
theorem szvT:(Tryz.prog.info? 23).map (·.size)=some 1:=by kernel_rfl
theorem szvS:(Tryz.prog.info? 24).map (·.size)=some 1:=by kernel_rfl
theorem bM0:Tryz.prog.built 26 []=some #[.slice none 0 0,.slice none 0 0,.slice none 0 0]:=by kernel_rfl
theorem apP:AppTy Tryz.prog 22 30 2 16:=apTy Tryz.underlying22 (by decide) (by kernel_rfl)
theorem apT:AppTy Tryz.prog 23 55 3 24:=apTy Tryz.underlying23 (by decide) (by kernel_rfl)
theorem pt_all (l:List (Int × Int)):((l.map pc).all fun r=>r.length==2 && r.all (·.oneCell'))=true:=by
  rw [List.all_eq_true]
  intro r hr
  obtain ⟨z,_,rfl⟩:=List.mem_map.1 hr
  rfl
theorem tri_all (l:List (Int × Int × Int)):((l.map trc).all fun r=>r.length==3 && r.all (·.oneCell'))=true:=by
  rw [List.all_eq_true]
  intro r hr
  obtain ⟨z,_,rfl⟩:=List.mem_map.1 hr
  rfl
instance {A B C:Option Addr} {a b c a' b' c':Nat}:AggSP (.is (.agg #[.slice A a a',.slice B b b',.slice C c c'])) 3:=⟨fun h=>⟨_,h,rfl,by simp [Value.oneCell']⟩⟩
def manyB (P:List (Int × Int)) (T:List (Int × Int × Int)) (S:List (Int × Int)):Bool:=decide (P.length > 30∨T.length > 50∨S.length > 60)
theorem many_no {P:List (Int × Int)} {T:List (Int × Int × Int)} {S:List (Int × Int)} (h:manyB P T S=false):P.length≤30∧T.length≤50∧S.length≤60:=by
  have:=of_decide_eq_false h
  omega
theorem fn_many {P:List (Int × Int)} {T:List (Int × Int × Int)} {S:List (Int × Int)}:FnC Tryz.prog 6 [SP.mesh P T S] (bv (manyB P T S)):=by
 refine FnC.of (N:=19) Tryz.func6 rfl rfl (Nat.le_of_ble_eq_true rfl) (fun w0 ok0=>?_)
 refine Tr.rs [] (.k (bxx .k (.b 0 rfl)) (.k (asg .k .c) .n)) [] [0] rfl rfl ?_
 rcases (show P.length > 30∨(P.length≤30∧T.length > 50)∨(P.length≤30∧T.length≤50∧S.length > 60)∨(P.length≤30∧T.length≤50∧S.length≤60) by omega) with h|h|h|h
 ·
  rw [show manyB P T S=true from decide_eq_true (by omega)]
  refine Tr.rs [] (.k (faddr .k (.b 0 rfl) rfl fMP) (.k (ldc .k (.g 0 rfl) (.b 0 rfl) tyvP) (.k (len_ .k rwP (.g 1 rfl) (by rw [List.length_map])) (.k (gt_ .k (.g 2 rfl) .c (dT (by omega))) (.k (mv .k (.g 3 rfl)) (.k (skp (.o 4 rfl rfl rfl)) (.k (skp (.o 4 rfl rfl rfl)) (.k (skp (.o 4 rfl rfl rfl)) (.k (skp (.o 4 rfl rfl rfl)) (.k (pickT .k (.g 4 rfl) .c) (.k (mv .k (.g 9 rfl)) (.k (skp (.o 10 rfl rfl rfl)) (.k (skp (.o 10 rfl rfl rfl)) (.k (skp (.o 10 rfl rfl rfl)) (.k (skp (.o 10 rfl rfl rfl)) (.k (pickT .k (.g 10 rfl) .c) (.k (asg .k (.g 15 rfl)) .n))))))))))))))))) [] [16] rfl rfl ?_
  refine Tr.ret (end_tmp 0 rfl rfl)
 ·
  rw [show manyB P T S=true from decide_eq_true (by omega)]
  refine Tr.rs [] (.k (faddr .k (.b 0 rfl) rfl fMP) (.k (ldc .k (.g 0 rfl) (.b 0 rfl) tyvP) (.k (len_ .k rwP (.g 1 rfl) (by rw [List.length_map])) (.k (gt_ .k (.g 2 rfl) .c (dF (by omega))) (.k (mv .k (.g 3 rfl)) (.k (faddr (.o 4 rfl rfl rfl) (.b 0 rfl) rfl fMT) (.k (ldc (.o 4 rfl rfl rfl) (.g 5 rfl) (.b 0 rfl) tyvT) (.k (len_ (.o 4 rfl rfl rfl) rwT (.g 6 rfl) (by rw [List.length_map])) (.k (gt_ (.o 4 rfl rfl rfl) (.g 7 rfl) .c (dT (by omega))) (.k (pickF .k (.g 4 rfl) (.g 8 rfl)) (.k (mv .k (.g 9 rfl)) (.k (skp (.o 10 rfl rfl rfl)) (.k (skp (.o 10 rfl rfl rfl)) (.k (skp (.o 10 rfl rfl rfl)) (.k (skp (.o 10 rfl rfl rfl)) (.k (pickT .k (.g 10 rfl) .c) (.k (asg .k (.g 15 rfl)) .n))))))))))))))))) [] [16] rfl rfl ?_
  refine Tr.ret (end_tmp 0 rfl rfl)
 ·
  rw [show manyB P T S=true from decide_eq_true (by omega)]
  refine Tr.rs [] (.k (faddr .k (.b 0 rfl) rfl fMP) (.k (ldc .k (.g 0 rfl) (.b 0 rfl) tyvP) (.k (len_ .k rwP (.g 1 rfl) (by rw [List.length_map])) (.k (gt_ .k (.g 2 rfl) .c (dF (by omega))) (.k (mv .k (.g 3 rfl)) (.k (faddr (.o 4 rfl rfl rfl) (.b 0 rfl) rfl fMT) (.k (ldc (.o 4 rfl rfl rfl) (.g 5 rfl) (.b 0 rfl) tyvT) (.k (len_ (.o 4 rfl rfl rfl) rwT (.g 6 rfl) (by rw [List.length_map])) (.k (gt_ (.o 4 rfl rfl rfl) (.g 7 rfl) .c (dF (by omega))) (.k (pickF .k (.g 4 rfl) (.g 8 rfl)) (.k (mv .k (.g 9 rfl)) (.k (faddr (.o 10 rfl rfl rfl) (.b 0 rfl) rfl fMS) (.k (ldc (.o 10 rfl rfl rfl) (.g 11 rfl) (.b 0 rfl) tyvS) (.k (len_ (.o 10 rfl rfl rfl) rwS (.g 12 rfl) (by rw [List.length_map])) (.k (gt_ (.o 10 rfl rfl rfl) (.g 13 rfl) .c (dT (by omega))) (.k (pickF .k (.g 10 rfl) (.g 14 rfl)) (.k (asg .k (.g 15 rfl)) .n))))))))))))))))) [] [16] rfl rfl ?_
  refine Tr.ret (end_tmp 0 rfl rfl)
 ·
  rw [show manyB P T S=false from decide_eq_false (by omega)]
  refine Tr.rs [] (.k (faddr .k (.b 0 rfl) rfl fMP) (.k (ldc .k (.g 0 rfl) (.b 0 rfl) tyvP) (.k (len_ .k rwP (.g 1 rfl) (by rw [List.length_map])) (.k (gt_ .k (.g 2 rfl) .c (dF (by omega))) (.k (mv .k (.g 3 rfl)) (.k (faddr (.o 4 rfl rfl rfl) (.b 0 rfl) rfl fMT) (.k (ldc (.o 4 rfl rfl rfl) (.g 5 rfl) (.b 0 rfl) tyvT) (.k (len_ (.o 4 rfl rfl rfl) rwT (.g 6 rfl) (by rw [List.length_map])) (.k (gt_ (.o 4 rfl rfl rfl) (.g 7 rfl) .c (dF (by omega))) (.k (pickF .k (.g 4 rfl) (.g 8 rfl)) (.k (mv .k (.g 9 rfl)) (.k (faddr (.o 10 rfl rfl rfl) (.b 0 rfl) rfl fMS) (.k (ldc (.o 10 rfl rfl rfl) (.g 11 rfl) (.b 0 rfl) tyvS) (.k (len_ (.o 10 rfl rfl rfl) rwS (.g 12 rfl) (by rw [List.length_map])) (.k (gt_ (.o 10 rfl rfl rfl) (.g 13 rfl) .c (dF (by omega))) (.k (pickF .k (.g 10 rfl) (.g 14 rfl)) (.k (asg .k (.g 15 rfl)) .n))))))))))))))))) [] [16] rfl rfl ?_
  refine Tr.ret (end_tmp 0 rfl rfl)
section
variable {w0:World} {ok0:Nat→Prop} {N:Nat} {ops:Array Oper} {Q:Exit→Act→World→Prop} {F:List Fact} {i:Nat} {r:List Oper} {K:Act→World→Prop}
theorem Nx.mesh {t:Tmp} {a b d:Value} {P:List (Int × Int)} {T:List (Int × Int × Int)} {S:List (Int × Int)} (k j1 j2 j3:Nat) (hk:F[k]?=some (.s t (.is (.agg #[a,b,d])))) (h1:F[j1]?=some (.v [a] [pvec P])) (h2:F[j2]?=some (.v [b] [tvec T])) (h3:F[j3]?=some (.v [d] [svec S])) (h:Nx w0 ok0 N (.s t (SP.mesh P T S) :: F) K):Nx w0 ok0 N F K :=
  Nx.more (f' := .s t (SP.mesh P T S)) rfl rfl (fun ok x W hh=>by
    have e:x.tmps.getD t undef = .agg #[a,b,d]:=hh _ (List.mem_of_getElem? hk)
    have a1:Args ok W [pvec P] [a]:=hh _ (List.mem_of_getElem? h1)
    have a2:Args ok W [tvec T] [b]:=hh _ (List.mem_of_getElem? h2)
    have a3:Args ok W [svec S] [d]:=hh _ (List.mem_of_getElem? h3)
    show (SP.mesh P T S).H ok _ W
    rw [e]
    exact ⟨a,b,d,rfl,a1.1,a2.1,a3.1,trivial⟩) h
theorem Go.mesh {t:Tmp} {a b d:Value} {P:List (Int × Int)} {T:List (Int × Int × Int)} {S:List (Int × Int)} (k j1 j2 j3:Nat) (hk:F[k]?=some (.s t (.is (.agg #[a,b,d])))) (h1:F[j1]?=some (.v [a] [pvec P])) (h2:F[j2]?=some (.v [b] [tvec T])) (h3:F[j3]?=some (.v [d] [svec S])) (h:Go Tryz.prog w0 ok0 N ops Q i r (.s t (SP.mesh P T S) :: F)):Go Tryz.prog w0 ok0 N ops Q i r F :=
  Go.ghost (α:=Unit) (fun K hh=>Nx.mesh k j1 j2 j3 hk h1 h2 h3 (hh ())) fun _=>h
end
theorem fn_Copy {P:List (Int × Int)} {T:List (Int × Int × Int)} {S:List (Int × Int)} (hP:P.length≤1000000) (hT:T.length≤1000000) (hS:S.length≤1000000):FnC Tryz.prog 8 [SP.mesh P T S] (SP.mesh P T S):=by
 refine FnC.of (N:=24) Tryz.func8 rfl rfl (Nat.le_of_ble_eq_true rfl) (fun w0 ok0=>?_)
 refine Tr.rs [] (.k (bxx .k (.b 0 rfl)) (.k (alc .k zM) .n)) [] [0,1] rfl rfl ?_
 refine Tr.rs [] (.k (bld .k .n bM0 rfl) (.k (ala .k zM) (.k (sta .k (.g 1 rfl) (.g 0 rfl) tyM) .n))) [0,1] [2] rfl rfl ?_
 refine Tr.boxh [.slice none 0 0,.slice none 0 0,.slice none 0 0] 1 2 [0,1] rfl rfl rfl (fun g1=>?_)
 refine Tr.gos (Go.k (fadh .k (.b 0 rfl) fMP) [0,1,2,3] rfl rfl (Go.k (ldn .k (.b 0 rfl) (.b 2 rfl) tyvP rfl) [1,2,3,4] rfl rfl (Go.k (faddr .k (.b 3 rfl) rfl fMP) [0,1,2,3,4] rfl rfl (Go.k (ldc .k (.b 0 rfl) (.b 4 rfl) tyvP) [1,2,3,4,5] rfl rfl (Go.k (apn .k apP (.b 1 rfl) (.b 0 rfl) (pt_all _) (by decide) (by rw [List.length_map];omega)) [2,3,4,5] rfl rfl (Go.frzo 0 [1,2,3,4] rfl rfl (Go.name 0 rfl fun A2 c2=>(Go.k (fadh .k (.b 3 rfl) fMP) [0,1,2,3,4,5,6] rfl rfl (Go.k (sth1 .k (.b 0 rfl) (.b 5 rfl) (.b 1 rfl) szvP rfl (show 0 < 3 by decide) rfl rfl) [2,4,6,7] rfl rfl (Go.end_ (Nx.go (?_))))))))))))
 refine Tr.gos (Go.k (fadh .k (.b 2 rfl) fMT) [0,1,2,3,4] rfl rfl (Go.k (ldn .k (.b 0 rfl) (.b 1 rfl) tyvT rfl) [1,2,3,4,5] rfl rfl (Go.k (faddr .k (.b 4 rfl) rfl fMT) [0,1,2,3,4,5] rfl rfl (Go.k (ldc .k (.b 0 rfl) (.b 5 rfl) tyvT) [1,2,3,4,5,6] rfl rfl (Go.k (apn .k apT (.b 1 rfl) (.b 0 rfl) (tri_all _) (by decide) (by rw [List.length_map];omega)) [2,3,4,5,6] rfl rfl (Go.frzo 0 [1,2,3,4,5] rfl rfl (Go.name 0 rfl fun A3 c3=>(Go.k (fadh .k (.b 5 rfl) fMT) [0,1,2,3,4,5,6,7] rfl rfl (Go.k (sth1 .k (.b 0 rfl) (.b 4 rfl) (.b 1 rfl) szvT rfl (show 1 < 3 by decide) rfl rfl) [2,5,6,7,8] rfl rfl (Go.end_ (Nx.go (?_))))))))))))
 refine Tr.gos (Go.k (fadh .k (.b 3 rfl) fMS) [0,1,2,3,4,5] rfl rfl (Go.k (ldn .k (.b 0 rfl) (.b 1 rfl) tyvS rfl) [1,2,3,4,5,6] rfl rfl (Go.k (faddr .k (.b 5 rfl) rfl fMS) [0,1,2,3,4,5,6] rfl rfl (Go.k (ldc .k (.b 0 rfl) (.b 6 rfl) tyvS) [1,2,3,4,5,7] rfl rfl (Go.k (apn .k apS (.b 1 rfl) (.b 0 rfl) (seg_all _) (by decide) (by rw [List.length_map];omega)) [2,3,4,5,6] rfl rfl (Go.frzo 0 [1,2,3,4,5] rfl rfl (Go.name 0 rfl fun A4 c4=>(Go.k (fadh .k (.b 6 rfl) fMS) [0,1,2,3,4,5,6,7] rfl rfl (Go.k (sth1 .k (.b 0 rfl) (.b 4 rfl) (.b 1 rfl) szvS rfl (show 2 < 3 by decide) rfl rfl) [2,5,6,7,8] rfl rfl (Go.end_ (Nx.go (?_))))))))))))
 refine Tr.gos (Go.k (ldna .k (.b 4 rfl) (.b 0 rfl) tyM [.slice A2 _ c2,.slice A3 _ c3,.slice A4 _ c4] rfl (fun j u h=>by rw [Nat.zero_add];exact h) rfl) [0,1,2,3,5] rfl rfl (Go.mesh 0 4 3 2 rfl rfl rfl rfl (Go.k (sto .k (.b 6 rfl) (.b 0 rfl) tyM) [2,3,4,5] rfl rfl (Go.end_ (Nx.go (?_))))))
 refine Tr.ret (end_cell 0 rfl rfl tyM)
end Go.Proofs.YtkgagdjogedoiaaGreat

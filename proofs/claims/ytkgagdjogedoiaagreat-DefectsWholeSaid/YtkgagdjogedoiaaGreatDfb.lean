/- Rows of numbers against each other; meshes built; the chapter's example, walked. -/
import Derived.Test.YtkgagdjogedoiaaGreatDfa
import Derived.Test.YtkgagdjogedoiaaGreatDp9
set_option linter.unusedVariables false
set_option linter.unusedSimpArgs false
set_option maxRecDepth 100000
set_option maxHeartbeats 8000000
namespace Go.Proofs.YtkgagdjogedoiaaGreat
open Go Go.RowKit Go.Proofs.YtkgagdjogedoiaaGreat.Fx Go.Proofs.YtkgagdjogedoiaaGreatW.PrintWords
theorem run_bldp {P:Program} {W:World} {o:Oper} {T:TypeId} {parts:Array (Nat × Operand)} {a:Act} {cs:Array Value} (ho:o.op = .build T parts) (hb:P.built T (parts.map fun p:Nat × Operand=>(p.1,a.eval p.2)).toList=some cs):(execOp a.eval o).run P W = .ok (.value (.agg cs)) W:=by
  unfold execOp
  simp only [ho]
  show ((Instr.build T (parts.map (fun p:Nat × Operand=>(p.1,a.eval p.2)))) >>= fun v=>pure (Next.value v)).run P W=_
  rw [Sem.run_bind,run_build W T _ cs hb]
  rfl
section
variable {w0:World} {ok0:Nat→Prop} {N:Nat} {R:Rg} {ops:Array Oper} {Q:Exit→Act→World→Prop} {i:Nat} {o:Oper}
theorem built_mesh (A B C:Option Addr) (a b c a' b' c':Nat):Tryz.prog.built 26 [(0,.slice A a a'),(1,.slice B b b'),(2,.slice C c c')]=some #[.slice A a a',.slice B b b',.slice C c c']:=by kernel_rfl
theorem built_meshT (B:Option Addr) (b b':Nat):Tryz.prog.built 26 [(1,.slice B b b')]=some #[.slice none 0 0,.slice B b b',.slice none 0 0]:=by kernel_rfl
theorem vec_nil {ok:Nat→Prop} {W:World} {sz:Nat}:(SP.vec sz []).H ok (.slice none 0 0) W:=by
  exact ⟨none,0,rfl,Nat.le_refl _,fun _ _ h=>absurd h (Nat.lt_irrefl _)⟩
theorem bldM {d:Tmp} {x y z:Operand} {P:List (Int × Int)} {T:List (Int × Int × Int)} {S:List (Int × Int)} (hh:Pl R ops i o (some d) (.build 26 #[(0,x),(1,y),(2,z)]) true) (hx:Vl R i x (pvec P)) (hy:Vl R i y (tvec T)) (hz:Vl R i z (svec S)):Does Tryz.prog w0 ok0 N R ops Q i o (some (.s d (SP.mesh P T S))) :=
  does_s hh fun ok a W hf hk K hK=>by
    have h1:=hx.H hf
    have h2:=hy.H hf
    have h3:=hz.H hf
    obtain ⟨A,c,e1⟩:=SP.vec_val h1
    obtain ⟨A',c',e2⟩:=SP.vec_val h2
    obtain ⟨A2,c2,e3⟩:=SP.vec_val h3
    have hb:=built_mesh A A' A2 (P.map pc).length (T.map trc).length (S.map sgc).length c c' c2
    have er:∀ cs,Tryz.prog.built 26 [(0,a.eval x),(1,a.eval y),(2,a.eval z)]=some cs→(execOp a.eval o).run Tryz.prog W = .ok (.value (.agg cs)) W:=fun cs hcs=>run_bldp hh.op (by rw [show ((#[(0,x),(1,y),(2,z)]:Array (Nat × Operand)).map fun p:Nat × Operand=>(p.1,a.eval p.2)).toList=[(0,a.eval x),(1,a.eval y),(2,a.eval z)] from by simp];exact hcs)
    have hb':Tryz.prog.built 26 [(0,a.eval x),(1,a.eval y),(2,a.eval z)]=some #[a.eval x,a.eval y,a.eval z]:=by rw [e1,e2,e3];exact hb
    unfold Oper.wp
    rw [er _ hb']
    exact hK _ W (Below.refl _ _) ⟨_,_,_,rfl,h1,h2,h3,trivial⟩
theorem bldMt {d:Tmp} {y:Operand} {T:List (Int × Int × Int)} (hh:Pl R ops i o (some d) (.build 26 #[(1,y)]) true) (hy:Vl R i y (tvec T)):Does Tryz.prog w0 ok0 N R ops Q i o (some (.s d (SP.mesh [] T []))) :=
  does_s hh fun ok a W hf hk K hK=>by
    have h2:=hy.H hf
    obtain ⟨A',c',e2⟩:=SP.vec_val h2
    have hb:=built_meshT A' (T.map trc).length c'
    have er:∀ cs,Tryz.prog.built 26 [(1,a.eval y)]=some cs→(execOp a.eval o).run Tryz.prog W = .ok (.value (.agg cs)) W:=fun cs hcs=>run_bldp hh.op (by rw [show ((#[(1,y)]:Array (Nat × Operand)).map fun p:Nat × Operand=>(p.1,a.eval p.2)).toList=[(1,a.eval y)] from by simp];exact hcs)
    have hb':Tryz.prog.built 26 [(1,a.eval y)]=some #[.slice none 0 0,a.eval y,.slice none 0 0]:=by rw [e2];exact hb
    unfold Oper.wp
    rw [er _ hb']
    exact hK _ W (Below.refl _ _) ⟨_,_,_,rfl,vec_nil,h2,vec_nil,trivial⟩
end
instance:AggSP (.is (.agg #[.slice none 0 0,.slice none 0 0,.slice none 0 0])) 3:=⟨fun h=>⟨_,h,rfl,by simp [Value.oneCell']⟩⟩
theorem zM (W:World):(zeroValue 26).run Tryz.prog W = .ok (.agg #[.slice none 0 0,.slice none 0 0,.slice none 0 0]) W:=by kernel_rfl
theorem fn_SameInts (a b:List Int) (ha:a.length≤9000000):FnC Tryz.prog 16 [ivec a,ivec b] (bv (decide (a=b))):=by
 refine FnC.of (N:=26) Tryz.func16 rfl rfl (Nat.le_of_ble_eq_true rfl) (fun w0 ok0=>?_)
 refine Tr.rs [] (.k (asg .k .c) .n) [0,1] [] rfl rfl ?_
 by_cases hl:a.length=b.length
 ·
  refine Tr.seq (Tr.rs [] (.k (mv .k (.b 0 rfl)) (.k (len_ .k rwI (.g 0 rfl) (by rw [List.length_map])) (.k (mv .k (.b 1 rfl)) (.k (len_ .k rwI (.g 2 rfl) (by rw [List.length_map])) (.k (ne_ .k (.g 1 rfl) (.g 3 rfl) (bne_eq_false_iff_eq.2 (by omega))) .n))))) [0,1] [4] rfl rfl ?_)
  refine Tr.cond 2 rfl nofun (fun _=>?_)
  refine Tr.skip (Nx.go (Tr.seq (Tr.rs [] (.k (asg .k .c) .n) [0,1] [0] rfl rfl ?_)))
  refine Tr.block (?_)
  refine Tr.loop (fun n_ F_=>∃ k:Nat,(k≤a.length∧a.take k=b.take k)∧n_=a.length - k∧F_=[.s 0 (ivec a),.s 1 (ivec b),.s 5 (iv ((k:Nat):Int))]) (a.length - 0) (F0:=[.s 0 (ivec a),.s 1 (ivec b),.s 5 (iv ((0:Nat):Int))]) ⟨0,⟨Nat.zero_le _,rfl⟩,rfl,rfl⟩ (Sub.all (.cons 0 rfl (.cons 1 rfl (.cons 2 rfl .nil)))) (fun n_ F_ hI=>?_)
  obtain ⟨k,hinv,rfl,rfl⟩:=hI
  refine Tr.seq (Tr.rs [] (.k (mv .k (.b 2 rfl)) (.k (mv .k (.b 0 rfl)) (.k (len_ .k rwI (.g 1 rfl) (by rw [List.length_map])) (.k (lt_ .k (.g 0 rfl) (.g 2 rfl) rfl) .n)))) [0,1,2] [3] rfl rfl ?_)
  refine Tr.cond 3 rfl (fun e14=>?_) (fun e14=>?_)
  ·
   have hk2:k < a.length:=by have:=of_decide_eq_true e14;omega
   refine Tr.skip (Nx.go (Tr.seq (Tr.block (?_))))
   obtain ⟨⟨x,p1⟩,y,p2⟩:(∃ x,a[k]?=some x)∧∃ y,b[k]?=some y:=⟨⟨_,List.getElem?_eq_getElem hk2⟩,_,List.getElem?_eq_getElem (by omega)⟩;by_cases hxy:x=y
   ·
    refine Tr.ds hmx [] (.k (mv .k (.b 0 rfl)) (.k (mv .k (.b 2 rfl)) (.k (idx_ .k rwI (.g 0 rfl) (.g 1 rfl) rfl (gm p1)) (.k (ldc_at .k (.g 2 rfl) tyI) (.k (mv .k (.b 1 rfl)) (.k (mv .k (.b 2 rfl)) (.k (idx_ .k rwI (.g 4 rfl) (.g 5 rfl) rfl (gm p2)) (.k (ldc_at .k (.g 6 rfl) tyI) (.k (ne_ .k (.g 3 rfl) (.g 7 rfl) (bne_eq_false_iff_eq.2 hxy)) .n))))))))) [0,1,2] [8] rfl rfl ?_
    refine Tr.cond 3 rfl nofun (fun _=>?_)
    refine Tr.skip (Nx.bkN (Nx.go (Tr.reg [(2,2)] (.k (mv .k (.b 2 rfl)) (.k (add_ .k (.g 0 rfl) .c (wr1 (by omega))) (.k (asg .k (.g 1 rfl)) .n))) [0,1] [2] rfl rfl (Nx.again (a.length - (k+1)) (by omega) [.s 0 (ivec a),.s 1 (ivec b),.s 5 (iv (((k+1):Nat):Int))] ⟨(k+1),⟨by omega,take_same hinv.2 p1 p2 hxy⟩,rfl,rfl⟩ (Sub.all (.cons 0 rfl (.cons 1 rfl (.cons 2 rfl .nil))))))))
   ·
    rw [decide_eq_false (at_apart p1 p2 hxy)]
    refine Tr.ds hmx [] (.k (mv .k (.b 0 rfl)) (.k (mv .k (.b 2 rfl)) (.k (idx_ .k rwI (.g 0 rfl) (.g 1 rfl) rfl (gm p1)) (.k (ldc_at .k (.g 2 rfl) tyI) (.k (mv .k (.b 1 rfl)) (.k (mv .k (.b 2 rfl)) (.k (idx_ .k rwI (.g 4 rfl) (.g 5 rfl) rfl (gm p2)) (.k (ldc_at .k (.g 6 rfl) tyI) (.k (ne_ .k (.g 3 rfl) (.g 7 rfl) (bne_iff_ne.2 hxy)) .n))))))))) [0,1,2] [8] rfl rfl ?_
    refine Tr.cond 3 rfl (fun _=>?_) nofun
    refine Tr.rs [] (.k (asg .k .c) .n) [] [0] rfl rfl ?_
    refine Tr.ret (end_tmp 0 rfl rfl)
  ·
   have hk2:k=a.length:=by have:=of_decide_eq_false e14;omega
   refine Tr.exit (Nx.thX (Nx.thX (Nx.bkX (Nx.go (?_)))))
   subst hk2
   rw [decide_eq_true (take_whole hl hinv.2)]
   refine Tr.rs [] (.k (asg .k .c) .n) [] [0] rfl rfl ?_
   refine Tr.ret (end_tmp 0 rfl rfl)
 ·
  rw [decide_eq_false (p:=a=b) (fun h=>hl (by rw [h]))]
  refine Tr.seq (Tr.rs [] (.k (mv .k (.b 0 rfl)) (.k (len_ .k rwI (.g 0 rfl) (by rw [List.length_map])) (.k (mv .k (.b 1 rfl)) (.k (len_ .k rwI (.g 2 rfl) (by rw [List.length_map])) (.k (ne_ .k (.g 1 rfl) (.g 3 rfl) (bne_iff_ne.2 (by omega))) .n))))) [0,1] [4] rfl rfl ?_)
  refine Tr.cond 2 rfl (fun _=>?_) nofun
  refine Tr.rs [] (.k (asg .k .c) .n) [] [0] rfl rfl ?_
  refine Tr.ret (end_tmp 0 rfl rfl)
theorem fn_SameT (a:List Int) (ha:a.length≤9000000):FnC Tryz.prog 16 [ivec a,ivec a] (bv true):=decide_eq_true (Eq.refl a) ▸ fn_SameInts a a ha
section
variable {P:List (Int × Int)} {T:List (Int × Int × Int)} {S:List (Int × Int)} (hP:P.length≤1000000) (hT:T.length≤1000000) (hS:S.length≤1000000) (hw:∀ s∈S,(Lit.int .i64 s.1).wf=true∧(Lit.int .i64 s.2).wf=true)
include hP hT hS hw
theorem fn_CrowdedL {l:List Int} {e:Int} (h1:crdL P T S=l) (h2:mC P T S=e):FnC Tryz.prog 9 [SP.mesh P T S] (.tup [ivec l,iv e]):=by
  have h:=fn_Crowded hP hT hS hw
  rw [h1,h2] at h
  exact h
theorem fn_SkinnyL {l:List Int} {e:Int} (h1:sknL P T S=l) (h2:mC P T S=e):FnC Tryz.prog 11 [SP.mesh P T S] (.tup [ivec l,iv e]):=by
  have h:=fn_SkinnyM hP hT hS hw
  rw [h1,h2] at h
  exact h
theorem fn_CrowdsL {s:Int × Int} {l:List Int} (h1:crwL P T S s=l):FnC Tryz.prog 15 [SP.mesh P T S,.is (sgv s)] (ivec l):=by
  have h:=fn_Crowds (s:=s) hP hT hS hw
  rw [h1] at h
  exact h
theorem fn_NearL {q:Int × Int} {n:Int} {r:Bool} (h1:nerR P T S q=(n,r)):FnC Tryz.prog 13 [SP.mesh P T S,.is (ptv q.1 q.2)] (.tup [iv n,bv r]):=by
  have h:=fn_Near (q:=q) hP hT hS hw
  rw [h1] at h
  exact h
theorem fn_GoodL {r:Bool} (h1:goodR P T S=r):FnC Tryz.prog 18 [SP.mesh P T S] (bv r):=by
  have h:=fn_Good hP hT hS hw
  rw [h1] at h
  exact h
end
theorem S1_wf:∀ s∈S1,(Lit.int .i64 s.1).wf=true∧(Lit.int .i64 s.2).wf=true:=by decide
theorem no_wf:∀ s∈([]:List (Int × Int)),(Lit.int .i64 s.1).wf=true∧(Lit.int .i64 s.2).wf=true:=fun s h=>by cases h
theorem fn_known  : FnC Tryz.prog 7 [] (bv true):=by
 refine FnC.of (N:=83) Tryz.func7 rfl rfl (Nat.le_of_ble_eq_true rfl) (fun w0 ok0=>?_)
 refine Tr.rs [] (.k (asg .k .c) .n) [] [] rfl rfl ?_
 refine Tr.rs [] (.k (bld .k .n bP0 (aP 0 0)) (.k (bld .k (.k .c .n) (bPx _) (aP _ 0)) (.k (bld .k (.k .c (.k .c .n)) (bP _ _) (aP _ _)) (.k (mkrow .k rwP (.k (.g 0 rfl) (.k (.g 1 rfl) (.k (.g 2 rfl) .n))) rfl rfl (by kernel_rfl)) (.k (bld .k (.k .c (.k .c (.k .c .n))) (bT _ _ _) (aT _ _ _)) (.k (mkrow .k rwT (.k (.g 4 rfl) .n) rfl rfl (by kernel_rfl)) (.k (bld .k (.k .c (.k .c .n)) (bS _ _) (aS _ _)) (.k (bld .k (.k .c (.k .c .n)) (bS _ _) (aS _ _)) (.k (bld .k (.k .c (.k .c .n)) (bS _ _) (aS _ _)) (.k (mkrow .k rwS (.k (.g 6 rfl) (.k (.g 7 rfl) (.k (.g 8 rfl) .n))) rfl rfl (by kernel_rfl)) (.k (bldM (P:=P0) (T:=T1) (S:=S1) .k (.g 3 rfl) (.g 5 rfl) (.g 9 rfl)) (.k (ala .k zM) (.k (sta .k (.g 11 rfl) (.g 10 rfl) tyM) .n))))))))))))) [] [12] rfl rfl ?_
 refine Tr.rs [] (.k (ld .k (.b 0 rfl) tyM) (.k (cal .k Tryz.func9 rfl (fn_CrowdedL (show P0.length≤1000000 by decide) (show T1.length≤1000000 by decide) (show S1.length≤1000000 by decide) S1_wf kn_crd kn_mC) (.k (.g 0 rfl) .n)) (.k (mv .k (.g 1 rfl)) (.k (exx .k (.g 2 rfl) rfl) (.k (exx .k (.g 2 rfl) rfl) (.k (asg .k (.g 3 rfl)) (.k (asg .k (.g 4 rfl)) .n))))))) [0] [5,6] rfl rfl ?_
 refine Tr.rs [] (.k (ld .k (.b 0 rfl) tyM) (.k (cal .k Tryz.func11 rfl (fn_SkinnyL (show P0.length≤1000000 by decide) (show T1.length≤1000000 by decide) (show S1.length≤1000000 by decide) S1_wf kn_skn kn_mC) (.k (.g 0 rfl) .n)) (.k (mv .k (.g 1 rfl)) (.k (exx .k (.g 2 rfl) rfl) (.k (exx .k (.g 2 rfl) rfl) (.k (asg .k (.g 3 rfl)) (.k (asg .k (.g 4 rfl)) .n))))))) [0,1,2] [5,6] rfl rfl ?_
 refine Tr.rs [] (.k (ld .k (.b 0 rfl) tyM) (.k (bld .k (.k .c (.k .c .n)) (bP _ _) (aP _ _)) (.k (cal .k Tryz.func13 rfl (fn_NearL (q:=(4,1)) (show P0.length≤1000000 by decide) (show T1.length≤1000000 by decide) (show S1.length≤1000000 by decide) S1_wf kn_ner) (.k (.g 0 rfl) (.k (.g 1 rfl) .n))) (.k (mv .k (.g 2 rfl)) (.k (exx .k (.g 3 rfl) rfl) (.k (exx .k (.g 3 rfl) rfl) (.k (asg .k (.g 4 rfl)) (.k (asg .k (.g 5 rfl)) .n)))))))) [0,1,2,3,4] [6,7] rfl rfl ?_
 refine Tr.rs [] (.k (bld .k .n bT0 (aT 0 0 0)) (.k (mkrow .k rwT (.k (.g 0 rfl) .n) rfl rfl (by kernel_rfl)) (.k (bldMt (T:=[(0,0,0)]) .k (.g 1 rfl)) (.k (cal .k Tryz.func11 rfl (fn_SkinnyL (show ([]:List (Int × Int)).length≤1000000 by decide) (show ([(0,0,0)]:List (Int × Int × Int)).length≤1000000 by decide) (show ([]:List (Int × Int)).length≤1000000 by decide) no_wf rfl kn_bad) (.k (.g 2 rfl) .n)) (.k (mv .k (.g 3 rfl)) (.k (exx .k (.g 4 rfl) rfl) (.k (exx .k (.g 4 rfl) rfl) (.k (asg .k (.g 5 rfl)) (.k (asg .k (.g 6 rfl)) .n))))))))) [0,1,2,3,4,5,6] [8] rfl rfl ?_
 refine Tr.rs [] (.k (mv .k (.b 1 rfl)) (.k (mkrow .k rwI (.k .c .n) rfl rfl (by kernel_rfl)) (.k (cal .k Tryz.func16 rfl (fn_SameT [0] (by decide)) (.k (.g 0 rfl) (.k (.g 1 rfl) .n))) (.k (mv .k (.g 2 rfl)) (.k (mv (.o 3 rfl rfl rfl) (.b 2 rfl)) (.k (eq_ (.o 3 rfl rfl rfl) (.g 4 rfl) .c (beq_iff_eq.2 rfl)) (.k (pickT .k (.g 3 rfl) (.g 5 rfl)) (.k (mv .k (.g 6 rfl)) (.k (mv (.o 7 rfl rfl rfl) (.b 3 rfl)) (.k (mkrow (.o 7 rfl rfl rfl) rwI (.k .c .n) rfl rfl (by kernel_rfl)) (.k (cal (.o 7 rfl rfl rfl) Tryz.func16 rfl (fn_SameT [0] (by decide)) (.k (.g 8 rfl) (.k (.g 9 rfl) .n))) (.k (pickT .k (.g 7 rfl) (.g 10 rfl)) (.k (mv .k (.g 11 rfl)) (.k (mv (.o 12 rfl rfl rfl) (.b 4 rfl)) (.k (eq_ (.o 12 rfl rfl rfl) (.g 13 rfl) .c (beq_iff_eq.2 rfl)) (.k (pickT .k (.g 12 rfl) (.g 14 rfl)) (.k (mv .k (.g 15 rfl)) (.k (ld (.o 16 rfl rfl rfl) (.b 0 rfl) tyM) (.k (bld (.o 16 rfl rfl rfl) (.k .c .n) (bSb _) (aS 0 _)) (.k (cal (.o 16 rfl rfl rfl) Tryz.func15 rfl (fn_CrowdsL (s:=(0,1)) (show P0.length≤1000000 by decide) (show T1.length≤1000000 by decide) (show S1.length≤1000000 by decide) S1_wf kn_crw) (.k (.g 17 rfl) (.k (.g 18 rfl) .n))) (.k (mkrow (.o 16 rfl rfl rfl) rwI (.k .c .n) rfl rfl (by kernel_rfl)) (.k (cal (.o 16 rfl rfl rfl) Tryz.func16 rfl (fn_SameT [2] (by decide)) (.k (.g 19 rfl) (.k (.g 20 rfl) .n))) (.k (pickT .k (.g 16 rfl) (.g 21 rfl)) (.k (mv .k (.g 22 rfl)) (.k (mv (.o 23 rfl rfl rfl) (.b 5 rfl)) (.k (eq_ (.o 23 rfl rfl rfl) (.g 24 rfl) .c (beq_iff_eq.2 rfl)) (.k (pickT .k (.g 23 rfl) (.g 25 rfl)) (.k (mv .k (.g 26 rfl)) (.k (mv (.o 27 rfl rfl rfl) (.b 6 rfl)) (.k (pickT .k (.g 27 rfl) (.g 28 rfl)) (.k (mv .k (.g 29 rfl)) (.k (ld (.o 30 rfl rfl rfl) (.b 0 rfl) tyM) (.k (cal (.o 30 rfl rfl rfl) Tryz.func18 rfl (fn_GoodL (show P0.length≤1000000 by decide) (show T1.length≤1000000 by decide) (show S1.length≤1000000 by decide) S1_wf kn_good) (.k (.g 31 rfl) .n)) (.k (not_ (.o 30 rfl rfl rfl) (.g 32 rfl)) (.k (pickT .k (.g 30 rfl) (.g 33 rfl)) (.k (mv .k (.g 34 rfl)) (.k (mv (.o 35 rfl rfl rfl) (.b 7 rfl)) (.k (eq_ (.o 35 rfl rfl rfl) (.g 36 rfl) .c (beq_iff_eq.2 rfl)) (.k (pickT .k (.g 35 rfl) (.g 37 rfl)) (.k (asg .k (.g 38 rfl)) .n)))))))))))))))))))))))))))))))))))))))) [] [39] rfl rfl ?_
 refine Tr.ret (end_tmp 0 rfl rfl)
end Go.Proofs.YtkgagdjogedoiaaGreat

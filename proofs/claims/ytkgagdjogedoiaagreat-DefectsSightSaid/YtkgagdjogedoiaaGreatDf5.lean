/- The program's triangle of three places, its edges; walked. -/
import Derived.Test.YtkgagdjogedoiaaGreatDf4
import Derived.Test.YtkgagdjogedoiaaGreatCx
set_option linter.unusedVariables false
set_option linter.unusedSimpArgs false
set_option maxRecDepth 100000
set_option maxHeartbeats 8000000
namespace Go.Proofs.YtkgagdjogedoiaaGreat
open Go Go.RowKit Go.Proofs.YtkgagdjogedoiaaGreat.Fx Go.Proofs.YtkgagdjogedoiaaGreatW.PrintWords
theorem bA3 (x y z:Int):Tryz.prog.built 122 [(0,.int .i64 x),(1,.int .i64 y),(2,.int .i64 z)]=some (trv (x,y,z)).cells:=by kernel_rfl
theorem ix3_0 (a b c:Int) (W:World):(Instr.index 122 (trv (a,b,c)) (.int .i64 ((0:Nat):Int))).run Tryz.prog W = .ok (.int .i64 a) W:=by kernel_rfl
theorem ix3_1 (a b c:Int) (W:World):(Instr.index 122 (trv (a,b,c)) (.int .i64 ((1:Nat):Int))).run Tryz.prog W = .ok (.int .i64 b) W:=by kernel_rfl
theorem ix3_2 (a b c:Int) (W:World):(Instr.index 122 (trv (a,b,c)) (.int .i64 ((2:Nat):Int))).run Tryz.prog W = .ok (.int .i64 c) W:=by kernel_rfl
theorem ix3 {a b c x:Int} {k:Nat} (h:([a,b,c]:List Int)[k]?=some x):∀ W,(Instr.index 122 (trv (a,b,c)) (.int .i64 (k:Int))).run Tryz.prog W = .ok (.int .i64 x) W:=fun W=>by
  match k,h with
  | 0,h=>cases h;exact ix3_0 ..
  | 1,h=>cases h;exact ix3_1 ..
  | 2,h=>cases h;exact ix3_2 ..
theorem bad_in {n:Nat} {o:Int→Int→Int→Int} {a b c x:Int} {k:Nat} (h:([a,b,c]:List Int)[k]?=some x) (hx:¬ (0≤x∧x < n)):triR n o a b c=((0,0,0),false):=tri_out fun hh=>by
  match k,h with
  | 0,h=>cases h;omega
  | 1,h=>cases h;omega
  | 2,h=>cases h;omega
theorem all_succ {α:Type} {q:α→Prop} {l:List α} {k:Nat} {t:α} (h:l[k]?=some t) (hn:q t) (hi:∀ x∈l.take k,q x):∀ x∈l.take (k+1),q x:=fun x hx=>by
  rw [take_succ' h,List.mem_append,List.mem_singleton] at hx
  rcases hx with hx|rfl
  · exact hi x hx
  · exact hn
theorem in3 {P:List (Int × Int)} {a b c:Int} (h:∀ x∈([a,b,c]:List Int).take 3,0≤x∧x < P.length):InP P a∧InP P b∧InP P c :=
  ⟨inP (h a (by simp)),inP (h b (by simp)),inP (h c (by simp))⟩
instance (t:Int × Int × Int):Decidable (least t):=by unfold least;infer_instance
def rotM (s:Int × Int × Int):Nat:=if least s then 0 else if least (rot1 s) then 1 else 2
theorem rot_go {s:Int × Int × Int} (hd:apartT s) (h:s.1 > s.2.1∨s.1 > s.2.2):rot1 s=(s.2.1,s.2.2,s.1)∧apartT (s.2.1,s.2.2,s.1)∧rot1 (rot1 (s.2.1,s.2.2,s.1))=rot1 (rot1 s)∧rotM (s.2.1,s.2.2,s.1) < rotM s:=by
  have e:rot1 s=(s.2.1,s.2.2,s.1):=if_pos h
  have hl:least (rot1 (rot1 s)):=rot_two (a:=s.1) (b:=s.2.1) (c:=s.2.2) hd.1 hd.2.1 hd.2.2
  have hns:¬ least s:=fun hh=>by unfold least at hh;omega
  refine ⟨e,⟨hd.2.1,hd.2.2,hd.1⟩,?_,?_⟩
  · rw [← e,rot1_least hl]
  · rw [← e]
    unfold rotM
    rw [if_neg hns]
    by_cases h1:least (rot1 s)
    · rw [if_pos h1,if_pos h1];omega
    · rw [if_neg h1,if_neg h1,if_pos hl];omega
theorem rot_stop {s:Int × Int × Int} (h:¬ (s.1 > s.2.1∨s.1 > s.2.2)):rot1 (rot1 s)=s:=by
  have e:rot1 s=s:=if_neg h
  rw [e,e]
def edv (t:Int × Int × Int):Value := .agg #[.int .i64 t.1,.int .i64 t.2.1,.int .i64 t.2.1,.int .i64 t.2.2,.int .i64 t.2.2,.int .i64 t.1]
theorem ty3S:AggTy Tryz.prog 86 6:=⟨⟨_,Tryz.underlying86,rfl⟩,by kernel_rfl⟩
theorem z3S (W:World):(zeroValue 86).run Tryz.prog W = .ok (edv (0,0,0)) W:=by kernel_rfl
theorem b3S (x y z:Int):Tryz.prog.built 86 [(0,sgv (x,y)),(1,sgv (y,z)),(2,sgv (z,x))]=some (edv (x,y,z)).cells:=by kernel_rfl
theorem a3S (x y z:Int):Value.agg (edv (x,y,z)).cells=edv (x,y,z):=rfl
instance (t:Int × Int × Int):AggSP (.is (edv t)) 6:=⟨fun h=>⟨_,h,rfl,by simp [Value.oneCell']⟩⟩
theorem ixE_0 (x y z:Int) (W:World):(Instr.index 86 (edv (x,y,z)) (.int .i64 ((0:Nat):Int))).run Tryz.prog W = .ok (sgv (x,y)) W:=by kernel_rfl
theorem ixE_1 (x y z:Int) (W:World):(Instr.index 86 (edv (x,y,z)) (.int .i64 ((1:Nat):Int))).run Tryz.prog W = .ok (sgv (y,z)) W:=by kernel_rfl
theorem ixE_2 (x y z:Int) (W:World):(Instr.index 86 (edv (x,y,z)) (.int .i64 ((2:Nat):Int))).run Tryz.prog W = .ok (sgv (z,x)) W:=by kernel_rfl
theorem ixE {t:Int × Int × Int} {s:Int × Int} {k:Nat} (h:(edg t)[k]?=some s):∀ W,(Instr.index 86 (edv t) (.int .i64 (k:Int))).run Tryz.prog W = .ok (sgv s) W:=fun W=>by
  match k,h with
  | 0,h=>cases h;exact ixE_0 ..
  | 1,h=>cases h;exact ixE_1 ..
  | 2,h=>cases h;exact ixE_2 ..
theorem fn_edges {t:Int × Int × Int}:FnC Tryz.prog 56 [.is (trv t)] (.is (edv t)):=by
 refine FnC.of (N:=19) Tryz.func56 rfl rfl (Nat.le_of_ble_eq_true rfl) (fun w0 ok0=>?_)
 refine Tr.rs [] (.k (bxx .k (.b 0 rfl)) (.k (alc .k z3S) .n)) [] [0,1] rfl rfl ?_
 refine Tr.rs [(1,16)] (.k (faddr .k (.b 0 rfl) rfl fTA) (.k (ldc .k (.g 0 rfl) (.b 0 rfl) tyI) (.k (faddr .k (.b 0 rfl) rfl fTB) (.k (ldc .k (.g 2 rfl) (.b 0 rfl) tyI) (.k (bld .k (.k (.g 1 rfl) (.k (.g 3 rfl) .n)) (bS _ _) (aS _ _)) (.k (faddr .k (.b 0 rfl) rfl fTB) (.k (ldc .k (.g 5 rfl) (.b 0 rfl) tyI) (.k (faddr .k (.b 0 rfl) rfl fTC) (.k (ldc .k (.g 7 rfl) (.b 0 rfl) tyI) (.k (bld .k (.k (.g 6 rfl) (.k (.g 8 rfl) .n)) (bS _ _) (aS _ _)) (.k (faddr .k (.b 0 rfl) rfl fTC) (.k (ldc .k (.g 10 rfl) (.b 0 rfl) tyI) (.k (faddr .k (.b 0 rfl) rfl fTA) (.k (ldc .k (.g 12 rfl) (.b 0 rfl) tyI) (.k (bld .k (.k (.g 11 rfl) (.k (.g 13 rfl) .n)) (bS _ _) (aS _ _)) (.k (bld .k (.k (.g 4 rfl) (.k (.g 9 rfl) (.k (.g 14 rfl) .n))) (b3S _ _ _) (a3S _ _ _)) (.k (sto .k (.b 1 rfl) (.g 15 rfl) ty3S) .n))))))))))))))))) [] [16] rfl rfl ?_
 refine Tr.ret (end_cell 0 rfl rfl ty3S)
theorem fn_Tri {P:List (Int × Int)} {a b c:Int} (hl:P.length≤1000000):FnC Tryz.prog 54 [pvec P,iv a,iv b,iv c] (.tup [.is (trv (triR P.length (oP P) a b c).1),bv (triR P.length (oP P) a b c).2]):=by
 refine FnC.of (N:=64) Tryz.func54 rfl rfl (Nat.le_of_ble_eq_true rfl) (fun w0 ok0=>?_)
 refine Tr.rs [] (.k (alc .k zT) (.k (asg .k .c) .n)) [0,1,2,3] [0] rfl rfl ?_
 refine Tr.seq (Tr.rs [] (.k (mv .k (.b 1 rfl)) (.k (mv .k (.b 2 rfl)) (.k (mv .k (.b 3 rfl)) (.k (bld .k (.k (.g 0 rfl) (.k (.g 1 rfl) (.k (.g 2 rfl) .n))) (bA3 _ _ _) (aT _ _ _)) (.k (mv .k .c) .n))))) [0,1,2,3,4] [3,4] rfl rfl ?_)
 refine Tr.block (?_)
 refine Tr.loop (fun n_ F_=>∃ k:Nat,(k≤3∧∀ x∈([a,b,c]:List Int).take k,0≤x∧x < P.length)∧n_=3 - k∧F_=[.s 0 (pvec P),.s 1 (iv a),.s 2 (iv b),.s 3 (iv c),.s 15 (.is (trv (a,b,c))),.s 16 (iv ((k:Nat):Int)),.b 8 (.is (trv (0,0,0))) 55 3]) (3 - 0) (F0:=[.s 0 (pvec P),.s 1 (iv a),.s 2 (iv b),.s 3 (iv c),.s 15 (.is (trv (a,b,c))),.s 16 (iv ((0:Nat):Int)),.b 8 (.is (trv (0,0,0))) 55 3]) ⟨0,⟨Nat.zero_le _,by simp⟩,rfl,rfl⟩ (Sub.all (.cons 0 rfl (.cons 1 rfl (.cons 2 rfl (.cons 3 rfl (.cons 5 rfl (.cons 6 rfl (.cons 4 rfl .nil)))))))) (fun n_ F_ hI=>?_)
 obtain ⟨k,hinv,rfl,rfl⟩:=hI
 refine Tr.rs [] (.k (lt_ .k (.b 5 rfl) .c rfl) .n) [0,1,2,3,4,5,6] [0] rfl rfl ?_
 refine Tr.seq (Tr.cond 7 rfl (fun e17=>?_) (fun e17=>?_))
 ·
  have hk2:k < 3:=by have:=of_decide_eq_true e17;omega
  refine Tr.skip (Nx.go (Tr.seq (Tr.block (?_))))
  obtain ⟨x,p1⟩:∃ x,([a,b,c]:List Int)[k]?=some x:=⟨_,List.getElem?_eq_getElem (show k < ([a,b,c]:List Int).length from hk2)⟩;rcases (show x < 0∨(0≤x∧x ≥ P.length)∨(0≤x∧x < P.length) by omega) with h|h|hx
  ·
   rw [bad_in p1 (show ¬ (0≤x∧x < P.length) by omega)]
   refine Tr.rs [] (.k (ixv .k (.b 4 rfl) (.b 5 rfl) (ix3 p1)) (.k (asg .k (.g 0 rfl)) .n)) [0,1,2,3,4,5,6] [1] rfl rfl ?_
   refine Tr.rs [] (.k (mv .k (.b 7 rfl)) (.k (lt_ .k (.g 0 rfl) .c (dT (by omega))) (.k (mv .k (.g 1 rfl)) (.k (skp (.o 2 rfl rfl rfl)) (.k (skp (.o 2 rfl rfl rfl)) (.k (skp (.o 2 rfl rfl rfl)) (.k (skp (.o 2 rfl rfl rfl)) (.k (pickT .k (.g 2 rfl) .c) .n)))))))) [0,1,2,3,4,5,6] [7] rfl rfl ?_
   refine Tr.cond 7 rfl (fun _=>?_) nofun
   refine Tr.rs [(6,1)] (.k (bld .k .n bT0 (aT 0 0 0)) (.k (sto .k (.b 6 rfl) (.g 0 rfl) tyT) (.k (asg .k .c) .n))) [] [1,2] rfl rfl ?_
   refine Tr.ret (end_cell_tmp 0 1 rfl rfl rfl tyT)
  ·
   rw [bad_in p1 (show ¬ (0≤x∧x < P.length) by omega)]
   refine Tr.rs [] (.k (ixv .k (.b 4 rfl) (.b 5 rfl) (ix3 p1)) (.k (asg .k (.g 0 rfl)) .n)) [0,1,2,3,4,5,6] [1] rfl rfl ?_
   refine Tr.rs [] (.k (mv .k (.b 7 rfl)) (.k (lt_ .k (.g 0 rfl) .c (dF (by omega))) (.k (mv .k (.g 1 rfl)) (.k (mv (.o 2 rfl rfl rfl) (.b 7 rfl)) (.k (mv (.o 2 rfl rfl rfl) (.b 0 rfl)) (.k (len_ (.o 2 rfl rfl rfl) rwP (.g 4 rfl) (by rw [List.length_map])) (.k (ge_ (.o 2 rfl rfl rfl) (.g 3 rfl) (.g 5 rfl) (dT (by omega))) (.k (pickF .k (.g 2 rfl) (.g 6 rfl)) .n)))))))) [0,1,2,3,4,5,6] [7] rfl rfl ?_
   refine Tr.cond 7 rfl (fun _=>?_) nofun
   refine Tr.rs [(6,1)] (.k (bld .k .n bT0 (aT 0 0 0)) (.k (sto .k (.b 6 rfl) (.g 0 rfl) tyT) (.k (asg .k .c) .n))) [] [1,2] rfl rfl ?_
   refine Tr.ret (end_cell_tmp 0 1 rfl rfl rfl tyT)
  ·
   refine Tr.rs [] (.k (ixv .k (.b 4 rfl) (.b 5 rfl) (ix3 p1)) (.k (asg .k (.g 0 rfl)) .n)) [0,1,2,3,4,5,6] [1] rfl rfl ?_
   refine Tr.rs [] (.k (mv .k (.b 7 rfl)) (.k (lt_ .k (.g 0 rfl) .c (dF (by omega))) (.k (mv .k (.g 1 rfl)) (.k (mv (.o 2 rfl rfl rfl) (.b 7 rfl)) (.k (mv (.o 2 rfl rfl rfl) (.b 0 rfl)) (.k (len_ (.o 2 rfl rfl rfl) rwP (.g 4 rfl) (by rw [List.length_map])) (.k (ge_ (.o 2 rfl rfl rfl) (.g 3 rfl) (.g 5 rfl) (dF (by omega))) (.k (pickF .k (.g 2 rfl) (.g 6 rfl)) .n)))))))) [0,1,2,3,4,5,6] [7] rfl rfl ?_
   refine Tr.cond 7 rfl nofun (fun _=>?_)
   refine Tr.skip (Nx.bkN (Nx.go (Tr.reg [(5,1)] (.k (add_ .k (.b 5 rfl) .c (wr1 (by omega))) (.k (mv .k (.g 0 rfl)) .n)) [0,1,2,3,4,6] [1] rfl rfl (Nx.again (3 - (k+1)) (by omega) [.s 0 (pvec P),.s 1 (iv a),.s 2 (iv b),.s 3 (iv c),.s 15 (.is (trv (a,b,c))),.s 16 (iv (((k+1):Nat):Int)),.b 8 (.is (trv (0,0,0))) 55 3] ⟨(k+1),⟨by omega,all_succ p1 hx hinv.2⟩,rfl,rfl⟩ (Sub.all (.cons 0 rfl (.cons 1 rfl (.cons 2 rfl (.cons 3 rfl (.cons 4 rfl (.cons 6 rfl (.cons 5 rfl .nil))))))))))))
 ·
  obtain rfl:k=3:=by have:=of_decide_eq_false e17;omega
  refine Tr.exit (Nx.thX (Nx.thX (Nx.bkX (Nx.go (?_)))))
  obtain ⟨hA,hB,hC⟩:=in3 hinv.2;have lA:=inP_lt hA;have lB:=inP_lt hB;have lC:=inP_lt hC;obtain ⟨u,p,ea,pa⟩:=id hA;obtain ⟨v,q,eb,pb⟩:=id hB;obtain ⟨w,r,ec,pc_⟩:=id hC;rcases (oP_ori P).one a b c with h0|h0|h0
  ·
   have hne:oP P a b c≠0:=by omega
   have hap:=(oP_ori P).apart hne
   have hd:apartT (a,c,b):=⟨fun e=>hap.2.2 e.symm,fun e=>hap.2.1 e.symm,fun e=>hap.1 e.symm⟩
   refine Tr.seq (Tr.ds hmx [] (.k (mv .k (.b 0 rfl)) (.k (mv .k (.b 1 rfl)) (.k (idx_ .k rwP (.g 0 rfl) (.g 1 rfl) ea (gm pa)) (.k (ld_at .k (.g 2 rfl) tyP rfl (show _=ptv _ _ from rfl)) (.k (mv .k (.b 0 rfl)) (.k (mv .k (.b 2 rfl)) (.k (idx_ .k rwP (.g 4 rfl) (.g 5 rfl) eb (gm pb)) (.k (ld_at .k (.g 6 rfl) tyP rfl (show _=ptv _ _ from rfl)) (.k (mv .k (.b 0 rfl)) (.k (mv .k (.b 3 rfl)) (.k (idx_ .k rwP (.g 8 rfl) (.g 9 rfl) ec (gm pc_)) (.k (ld_at .k (.g 10 rfl) tyP rfl (show _=ptv _ _ from rfl)) (.k (cal .k Tryz.func88 rfl (oP_at ea eb ec pa pb pc_ ▸ fn_Orient) (.k (.g 3 rfl) (.k (.g 7 rfl) (.k (.g 11 rfl) .n)))) .n))))))))))))) [1,2,3,6] [12] rfl rfl ?_)
   refine Tr.block (Tr.rs [] (.k (eq_ .k (.b 4 rfl) .c (beq_eq_false_iff_ne.2 hne)) (.k (asg .k (.g 0 rfl)) .n)) [0,1,2,3,4] [1] rfl rfl ?_)
   refine Tr.cond 5 rfl nofun (fun _=>?_)
   refine Tr.rs [] (.k (eq_ .k (.b 4 rfl) .c (beq_iff_eq.2 h0)) (.k (asg .k (.g 0 rfl)) .n)) [0,1,2,3] [1] rfl rfl ?_
   refine Tr.cond 4 rfl (fun _=>?_) nofun
   refine Tr.reg [(1,2),(2,3)] (.k (mv .k (.b 2 rfl)) (.k (mv .k (.b 1 rfl)) (.k (asg .k (.g 0 rfl)) (.k (asg .k (.g 1 rfl)) .n)))) [0,3] [2,3] rfl rfl (Nx.bkN (Nx.go (Tr.seq (Tr.block (?_)))))
   refine Tr.loop (fun n_ F_=>∃ s:Int × Int × Int,(apartT s∧rot1 (rot1 s)=rot1 (rot1 (a,c,b)))∧n_=rotM s∧F_=[.s 1 (iv s.1),.s 2 (iv s.2.1),.s 3 (iv s.2.2),.b 8 (.is (trv (0,0,0))) 55 3]) (rotM (a,c,b)) (F0:=[.s 1 (iv (a,c,b).1),.s 2 (iv (a,c,b).2.1),.s 3 (iv (a,c,b).2.2),.b 8 (.is (trv (0,0,0))) 55 3]) ⟨(a,c,b),⟨hd,rfl⟩,rfl,rfl⟩ (Sub.all (.cons 0 rfl (.cons 2 rfl (.cons 3 rfl (.cons 1 rfl .nil))))) (fun n_ F_ hI=>?_)
   obtain ⟨s,hsv,rfl,rfl⟩:=hI
   rcases (show s.1 > s.2.1∨(¬ s.1 > s.2.1∧s.1 > s.2.2)∨(¬ s.1 > s.2.1∧¬ s.1 > s.2.2) by omega) with h1|⟨h1,h2⟩|⟨h1,h2⟩
   ·
    have hgo:s.1 > s.2.1∨s.1 > s.2.2 := .inl h1
    refine Tr.seq (Tr.rs [] (.k (mv .k (.b 0 rfl)) (.k (mv .k (.b 1 rfl)) (.k (gt_ .k (.g 0 rfl) (.g 1 rfl) (decide_eq_true h1)) (.k (mv .k (.g 2 rfl)) (.k (skp (.o 3 rfl rfl rfl)) (.k (skp (.o 3 rfl rfl rfl)) (.k (skp (.o 3 rfl rfl rfl)) (.k (pickT .k (.g 3 rfl) .c) .n)))))))) [0,1,2,3] [7] rfl rfl ?_)
    refine Tr.cond 4 rfl (fun _=>?_) nofun
    refine Tr.skip (Nx.go (Tr.block (Tr.reg [(0,3),(1,4),(2,5)] (.k (mv .k (.b 1 rfl)) (.k (mv .k (.b 2 rfl)) (.k (mv .k (.b 0 rfl)) (.k (asg .k (.g 0 rfl)) (.k (asg .k (.g 1 rfl)) (.k (asg .k (.g 2 rfl)) .n)))))) [3] [3,4,5] rfl rfl (Nx.bkN (Nx.again (rotM (s.2.1,s.2.2,s.1)) (rot_go hsv.1 hgo).2.2.2 [.s 1 (iv (s.2.1,s.2.2,s.1).1),.s 2 (iv (s.2.1,s.2.2,s.1).2.1),.s 3 (iv (s.2.1,s.2.2,s.1).2.2),.b 8 (.is (trv (0,0,0))) 55 3] ⟨(s.2.1,s.2.2,s.1),⟨(rot_go hsv.1 hgo).2.1,(rot_go hsv.1 hgo).2.2.1.trans hsv.2⟩,rfl,rfl⟩ (Sub.all (.cons 1 rfl (.cons 2 rfl (.cons 3 rfl (.cons 0 rfl .nil))))))))))
   ·
    have hgo:s.1 > s.2.1∨s.1 > s.2.2 := .inr h2
    refine Tr.seq (Tr.rs [] (.k (mv .k (.b 0 rfl)) (.k (mv .k (.b 1 rfl)) (.k (gt_ .k (.g 0 rfl) (.g 1 rfl) (decide_eq_false h1)) (.k (mv .k (.g 2 rfl)) (.k (mv (.o 3 rfl rfl rfl) (.b 0 rfl)) (.k (mv (.o 3 rfl rfl rfl) (.b 2 rfl)) (.k (gt_ (.o 3 rfl rfl rfl) (.g 4 rfl) (.g 5 rfl) (decide_eq_true h2)) (.k (pickF .k (.g 3 rfl) (.g 6 rfl)) .n)))))))) [0,1,2,3] [7] rfl rfl ?_)
    refine Tr.cond 4 rfl (fun _=>?_) nofun
    refine Tr.skip (Nx.go (Tr.block (Tr.reg [(0,3),(1,4),(2,5)] (.k (mv .k (.b 1 rfl)) (.k (mv .k (.b 2 rfl)) (.k (mv .k (.b 0 rfl)) (.k (asg .k (.g 0 rfl)) (.k (asg .k (.g 1 rfl)) (.k (asg .k (.g 2 rfl)) .n)))))) [3] [3,4,5] rfl rfl (Nx.bkN (Nx.again (rotM (s.2.1,s.2.2,s.1)) (rot_go hsv.1 hgo).2.2.2 [.s 1 (iv (s.2.1,s.2.2,s.1).1),.s 2 (iv (s.2.1,s.2.2,s.1).2.1),.s 3 (iv (s.2.1,s.2.2,s.1).2.2),.b 8 (.is (trv (0,0,0))) 55 3] ⟨(s.2.1,s.2.2,s.1),⟨(rot_go hsv.1 hgo).2.1,(rot_go hsv.1 hgo).2.2.1.trans hsv.2⟩,rfl,rfl⟩ (Sub.all (.cons 1 rfl (.cons 2 rfl (.cons 3 rfl (.cons 0 rfl .nil))))))))))
   ·
    rw [show triR P.length (oP P) a b c=(s,true) by rw [tri_in ⟨lA,lB,lC⟩ hne,if_pos h0,← hsv.2,rot_stop (by omega)]]
    refine Tr.seq (Tr.rs [] (.k (mv .k (.b 0 rfl)) (.k (mv .k (.b 1 rfl)) (.k (gt_ .k (.g 0 rfl) (.g 1 rfl) (decide_eq_false h1)) (.k (mv .k (.g 2 rfl)) (.k (mv (.o 3 rfl rfl rfl) (.b 0 rfl)) (.k (mv (.o 3 rfl rfl rfl) (.b 2 rfl)) (.k (gt_ (.o 3 rfl rfl rfl) (.g 4 rfl) (.g 5 rfl) (decide_eq_false h2)) (.k (pickF .k (.g 3 rfl) (.g 6 rfl)) .n)))))))) [0,1,2,3] [7] rfl rfl ?_)
    refine Tr.cond 4 rfl nofun (fun _=>?_)
    refine Tr.exit (Nx.thX (Nx.thX (Nx.bkX (Nx.go (Tr.rs [(3,4)] (.k (mv .k (.b 0 rfl)) (.k (mv .k (.b 1 rfl)) (.k (mv .k (.b 2 rfl)) (.k (bld .k (.k (.g 0 rfl) (.k (.g 1 rfl) (.k (.g 2 rfl) .n))) (bT _ _ _) (aT _ _ _)) (.k (sto .k (.b 3 rfl) (.g 3 rfl) tyT) (.k (asg .k .c) .n)))))) [] [4,5] rfl rfl ?_)))))
    refine Tr.ret (end_cell_tmp 0 1 rfl rfl rfl tyT)
  ·
   rw [show triR P.length (oP P) a b c=((0,0,0),false) from tri_out (fun h=>h.2.2.2 h0)]
   refine Tr.seq (Tr.ds hmx [] (.k (mv .k (.b 0 rfl)) (.k (mv .k (.b 1 rfl)) (.k (idx_ .k rwP (.g 0 rfl) (.g 1 rfl) ea (gm pa)) (.k (ld_at .k (.g 2 rfl) tyP rfl (show _=ptv _ _ from rfl)) (.k (mv .k (.b 0 rfl)) (.k (mv .k (.b 2 rfl)) (.k (idx_ .k rwP (.g 4 rfl) (.g 5 rfl) eb (gm pb)) (.k (ld_at .k (.g 6 rfl) tyP rfl (show _=ptv _ _ from rfl)) (.k (mv .k (.b 0 rfl)) (.k (mv .k (.b 3 rfl)) (.k (idx_ .k rwP (.g 8 rfl) (.g 9 rfl) ec (gm pc_)) (.k (ld_at .k (.g 10 rfl) tyP rfl (show _=ptv _ _ from rfl)) (.k (cal .k Tryz.func88 rfl (oP_at ea eb ec pa pb pc_ ▸ fn_Orient) (.k (.g 3 rfl) (.k (.g 7 rfl) (.k (.g 11 rfl) .n)))) .n))))))))))))) [1,2,3,6] [12] rfl rfl ?_)
   refine Tr.block (Tr.rs [] (.k (eq_ .k (.b 4 rfl) .c (beq_iff_eq.2 h0)) (.k (asg .k (.g 0 rfl)) .n)) [0,1,2,3,4] [1] rfl rfl ?_)
   refine Tr.cond 5 rfl (fun _=>?_) nofun
   refine Tr.rs [(3,1)] (.k (bld .k .n bT0 (aT 0 0 0)) (.k (sto .k (.b 3 rfl) (.g 0 rfl) tyT) (.k (asg .k .c) .n))) [] [1,2] rfl rfl ?_
   refine Tr.ret (end_cell_tmp 0 1 rfl rfl rfl tyT)
  ·
   have hne:oP P a b c≠0:=by omega
   have hap:=(oP_ori P).apart hne
   have hd:apartT (a,b,c):=⟨hap.1,hap.2.1,hap.2.2⟩
   refine Tr.seq (Tr.ds hmx [] (.k (mv .k (.b 0 rfl)) (.k (mv .k (.b 1 rfl)) (.k (idx_ .k rwP (.g 0 rfl) (.g 1 rfl) ea (gm pa)) (.k (ld_at .k (.g 2 rfl) tyP rfl (show _=ptv _ _ from rfl)) (.k (mv .k (.b 0 rfl)) (.k (mv .k (.b 2 rfl)) (.k (idx_ .k rwP (.g 4 rfl) (.g 5 rfl) eb (gm pb)) (.k (ld_at .k (.g 6 rfl) tyP rfl (show _=ptv _ _ from rfl)) (.k (mv .k (.b 0 rfl)) (.k (mv .k (.b 3 rfl)) (.k (idx_ .k rwP (.g 8 rfl) (.g 9 rfl) ec (gm pc_)) (.k (ld_at .k (.g 10 rfl) tyP rfl (show _=ptv _ _ from rfl)) (.k (cal .k Tryz.func88 rfl (oP_at ea eb ec pa pb pc_ ▸ fn_Orient) (.k (.g 3 rfl) (.k (.g 7 rfl) (.k (.g 11 rfl) .n)))) .n))))))))))))) [1,2,3,6] [12] rfl rfl ?_)
   refine Tr.block (Tr.rs [] (.k (eq_ .k (.b 4 rfl) .c (beq_eq_false_iff_ne.2 hne)) (.k (asg .k (.g 0 rfl)) .n)) [0,1,2,3,4] [1] rfl rfl ?_)
   refine Tr.cond 5 rfl nofun (fun _=>?_)
   refine Tr.rs [] (.k (eq_ .k (.b 4 rfl) .c (beq_eq_false_iff_ne.2 (by omega))) (.k (asg .k (.g 0 rfl)) .n)) [0,1,2,3] [1] rfl rfl ?_
   refine Tr.cond 4 rfl nofun (fun _=>?_)
   refine Tr.skip (Nx.bkN (Nx.go (Tr.seq (Tr.block (?_)))))
   refine Tr.loop (fun n_ F_=>∃ s:Int × Int × Int,(apartT s∧rot1 (rot1 s)=rot1 (rot1 (a,b,c)))∧n_=rotM s∧F_=[.s 1 (iv s.1),.s 2 (iv s.2.1),.s 3 (iv s.2.2),.b 8 (.is (trv (0,0,0))) 55 3]) (rotM (a,b,c)) (F0:=[.s 1 (iv (a,b,c).1),.s 2 (iv (a,b,c).2.1),.s 3 (iv (a,b,c).2.2),.b 8 (.is (trv (0,0,0))) 55 3]) ⟨(a,b,c),⟨hd,rfl⟩,rfl,rfl⟩ (Sub.all (.cons 0 rfl (.cons 1 rfl (.cons 2 rfl (.cons 3 rfl .nil))))) (fun n_ F_ hI=>?_)
   obtain ⟨s,hsv,rfl,rfl⟩:=hI
   rcases (show s.1 > s.2.1∨(¬ s.1 > s.2.1∧s.1 > s.2.2)∨(¬ s.1 > s.2.1∧¬ s.1 > s.2.2) by omega) with h1|⟨h1,h2⟩|⟨h1,h2⟩
   ·
    have hgo:s.1 > s.2.1∨s.1 > s.2.2 := .inl h1
    refine Tr.seq (Tr.rs [] (.k (mv .k (.b 0 rfl)) (.k (mv .k (.b 1 rfl)) (.k (gt_ .k (.g 0 rfl) (.g 1 rfl) (decide_eq_true h1)) (.k (mv .k (.g 2 rfl)) (.k (skp (.o 3 rfl rfl rfl)) (.k (skp (.o 3 rfl rfl rfl)) (.k (skp (.o 3 rfl rfl rfl)) (.k (pickT .k (.g 3 rfl) .c) .n)))))))) [0,1,2,3] [7] rfl rfl ?_)
    refine Tr.cond 4 rfl (fun _=>?_) nofun
    refine Tr.skip (Nx.go (Tr.block (Tr.reg [(0,3),(1,4),(2,5)] (.k (mv .k (.b 1 rfl)) (.k (mv .k (.b 2 rfl)) (.k (mv .k (.b 0 rfl)) (.k (asg .k (.g 0 rfl)) (.k (asg .k (.g 1 rfl)) (.k (asg .k (.g 2 rfl)) .n)))))) [3] [3,4,5] rfl rfl (Nx.bkN (Nx.again (rotM (s.2.1,s.2.2,s.1)) (rot_go hsv.1 hgo).2.2.2 [.s 1 (iv (s.2.1,s.2.2,s.1).1),.s 2 (iv (s.2.1,s.2.2,s.1).2.1),.s 3 (iv (s.2.1,s.2.2,s.1).2.2),.b 8 (.is (trv (0,0,0))) 55 3] ⟨(s.2.1,s.2.2,s.1),⟨(rot_go hsv.1 hgo).2.1,(rot_go hsv.1 hgo).2.2.1.trans hsv.2⟩,rfl,rfl⟩ (Sub.all (.cons 1 rfl (.cons 2 rfl (.cons 3 rfl (.cons 0 rfl .nil))))))))))
   ·
    have hgo:s.1 > s.2.1∨s.1 > s.2.2 := .inr h2
    refine Tr.seq (Tr.rs [] (.k (mv .k (.b 0 rfl)) (.k (mv .k (.b 1 rfl)) (.k (gt_ .k (.g 0 rfl) (.g 1 rfl) (decide_eq_false h1)) (.k (mv .k (.g 2 rfl)) (.k (mv (.o 3 rfl rfl rfl) (.b 0 rfl)) (.k (mv (.o 3 rfl rfl rfl) (.b 2 rfl)) (.k (gt_ (.o 3 rfl rfl rfl) (.g 4 rfl) (.g 5 rfl) (decide_eq_true h2)) (.k (pickF .k (.g 3 rfl) (.g 6 rfl)) .n)))))))) [0,1,2,3] [7] rfl rfl ?_)
    refine Tr.cond 4 rfl (fun _=>?_) nofun
    refine Tr.skip (Nx.go (Tr.block (Tr.reg [(0,3),(1,4),(2,5)] (.k (mv .k (.b 1 rfl)) (.k (mv .k (.b 2 rfl)) (.k (mv .k (.b 0 rfl)) (.k (asg .k (.g 0 rfl)) (.k (asg .k (.g 1 rfl)) (.k (asg .k (.g 2 rfl)) .n)))))) [3] [3,4,5] rfl rfl (Nx.bkN (Nx.again (rotM (s.2.1,s.2.2,s.1)) (rot_go hsv.1 hgo).2.2.2 [.s 1 (iv (s.2.1,s.2.2,s.1).1),.s 2 (iv (s.2.1,s.2.2,s.1).2.1),.s 3 (iv (s.2.1,s.2.2,s.1).2.2),.b 8 (.is (trv (0,0,0))) 55 3] ⟨(s.2.1,s.2.2,s.1),⟨(rot_go hsv.1 hgo).2.1,(rot_go hsv.1 hgo).2.2.1.trans hsv.2⟩,rfl,rfl⟩ (Sub.all (.cons 1 rfl (.cons 2 rfl (.cons 3 rfl (.cons 0 rfl .nil))))))))))
   ·
    rw [show triR P.length (oP P) a b c=(s,true) by rw [tri_in ⟨lA,lB,lC⟩ hne,if_neg (by omega),← hsv.2,rot_stop (by omega)]]
    refine Tr.seq (Tr.rs [] (.k (mv .k (.b 0 rfl)) (.k (mv .k (.b 1 rfl)) (.k (gt_ .k (.g 0 rfl) (.g 1 rfl) (decide_eq_false h1)) (.k (mv .k (.g 2 rfl)) (.k (mv (.o 3 rfl rfl rfl) (.b 0 rfl)) (.k (mv (.o 3 rfl rfl rfl) (.b 2 rfl)) (.k (gt_ (.o 3 rfl rfl rfl) (.g 4 rfl) (.g 5 rfl) (decide_eq_false h2)) (.k (pickF .k (.g 3 rfl) (.g 6 rfl)) .n)))))))) [0,1,2,3] [7] rfl rfl ?_)
    refine Tr.cond 4 rfl nofun (fun _=>?_)
    refine Tr.exit (Nx.thX (Nx.thX (Nx.bkX (Nx.go (Tr.rs [(3,4)] (.k (mv .k (.b 0 rfl)) (.k (mv .k (.b 1 rfl)) (.k (mv .k (.b 2 rfl)) (.k (bld .k (.k (.g 0 rfl) (.k (.g 1 rfl) (.k (.g 2 rfl) .n))) (bT _ _ _) (aT _ _ _)) (.k (sto .k (.b 3 rfl) (.g 3 rfl) tyT) (.k (asg .k .c) .n)))))) [] [4,5] rfl rfl ?_)))))
    refine Tr.ret (end_cell_tmp 0 1 rfl rfl rfl tyT)
end Go.Proofs.YtkgagdjogedoiaaGreat

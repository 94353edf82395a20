/- The wide package's functions, by contracts over whole numbers. -/
import Derived.Test.YtkgagdjogedoiaaGreatNb
import Derived.Test.YtkgagdjogedoiaaGreatNLimb
set_option linter.unusedVariables false
set_option linter.unusedSimpArgs false
set_option maxRecDepth 100000
set_option maxHeartbeats 8000000
namespace Go.Proofs.YtkgagdjogedoiaaGreat
open Go Go.RowKit Go.Proofs.YtkgagdjogedoiaaGreat.Fx Go.Proofs.YtkgagdjogedoiaaGreatW.PrintWords
theorem spl_small {d:Int} (h0:0≤d) (h1:d < 18446744073709551616):spl0 d=d∧spl1 d=0∧spl2 d=0∧spl3 d=0:=by
  unfold spl0 spl1 spl2 spl3;omega
theorem u4_spl (v:Int):u4 (spl0 v) (spl1 v) (spl2 v) (spl3 v)=true:=u4_iff.2 ⟨spl0_U v,spl1_U v,spl2_U v,spl3_U v⟩
def sv (m:Bool) (v:Int):Int:=if m then -v else v
theorem sgn_cases (z:Int):sgn z = -1∧z < 0∨sgn z=0∧z=0∨sgn z=1∧0 < z:=by
  unfold sgn
  by_cases h:z < 0
  · rw [if_pos h];exact .inl ⟨rfl,h⟩
  · rw [if_neg h]
    by_cases h2:z=0
    · rw [if_pos h2];exact .inr (.inl ⟨rfl,h2⟩)
    · rw [if_neg h2];exact .inr (.inr ⟨rfl,by omega⟩)
def goOn (op:Int→Int→Int):List Int→Int→Option Int
  | [],z=>some z
  | a :: t,z=>if ((op z a).natAbs:Int) < top4 then goOn op t (op z a) else none
theorem sv_self (z:Int):sv (decide (z < 0)) z.natAbs=z:=by
  unfold sv
  by_cases h:z < 0
  · rw [decide_eq_true h];simp;omega
  · rw [decide_eq_false h];simp;omega
def wv (z:Int):Value := .agg #[.bool (decide (z < 0)),.int .u64 (spl0 z.natAbs),.int .u64 (spl1 z.natAbs),.int .u64 (spl2 z.natAbs),.int .u64 (spl3 z.natAbs)]
abbrev wc (z:Int):List Value:=(wv z).cells.toList
def lv (v:Int):Value := .agg #[.int .u64 (spl0 v),.int .u64 (spl1 v),.int .u64 (spl2 v),.int .u64 (spl3 v)]
def wq (m:Bool) (v:Int):Value := .agg #[.bool m,.int .u64 (spl0 v),.int .u64 (spl1 v),.int .u64 (spl2 v),.int .u64 (spl3 v)]
theorem tyW:AggTy Tryz.prog 96 5:=⟨⟨_,Tryz.underlying96,rfl⟩,by kernel_rfl⟩
theorem tyL:AggTy Tryz.prog 94 4:=⟨⟨_,Tryz.underlying94,rfl⟩,by kernel_rfl⟩
theorem rwW:RowTy Tryz.prog 132 96 5:=⟨Tryz.underlying132,by kernel_rfl⟩
theorem zW (W:World):(zeroValue 96).run Tryz.prog W = .ok (wv 0) W:=by kernel_rfl
theorem zL (W:World):(zeroValue 94).run Tryz.prog W = .ok (lv 0) W:=by kernel_rfl
theorem fWM:FieldTy Tryz.prog 96 0 0:=⟨⟨_,_,Tryz.underlying96,rfl,fun _ _=>by kernel_rfl⟩⟩
theorem fWL:FieldTy Tryz.prog 96 1 1:=⟨⟨_,_,Tryz.underlying96,rfl,fun _ _=>by kernel_rfl⟩⟩
instance (z:Int):AggSP (.is (wv z)) 5:=⟨fun h=>⟨_,h,rfl,by simp [Value.oneCell']⟩⟩
instance (m:Bool) (v:Int):AggSP (.is (wq m v)) 5:=⟨fun h=>⟨_,h,rfl,by simp [Value.oneCell']⟩⟩
instance (v:Int):AggSP (.is (lv v)) 4:=⟨fun h=>⟨_,h,rfl,by simp [Value.oneCell']⟩⟩
instance (m:Bool) (v:Int):CellOf (.is (wq m v)) 0 (bv m):=⟨fun h=>⟨_,by have h:Value.agg _=wq m v:=h;simp only [wq,Value.agg.injEq] at h;subst h;rfl,rfl⟩⟩
instance (z:Int):CellOf (.is (wv z)) 0 (bv (decide (z < 0))):=⟨fun h=>⟨_,by have h:Value.agg _=wv z:=h;simp only [wv,Value.agg.injEq] at h;subst h;rfl,rfl⟩⟩
theorem bL0:Tryz.prog.built 94 []=some #[.int .u64 0,.int .u64 0,.int .u64 0,.int .u64 0]:=by kernel_rfl
theorem aL0:Value.agg #[.int .u64 0,.int .u64 0,.int .u64 0,.int .u64 0]=lv 0:=rfl
theorem bL1 (x:Int):Tryz.prog.built 94 [(0,.int .u64 x)]=some #[.int .u64 x,.int .u64 0,.int .u64 0,.int .u64 0]:=by kernel_rfl
theorem aL1 {x d:Int} (h0:0≤d) (h1:d < 18446744073709551616) (h:x=d):Value.agg #[.int .u64 x,.int .u64 0,.int .u64 0,.int .u64 0]=lv d:=by
  obtain ⟨e0,e1,e2,e3⟩:=spl_small h0 h1
  unfold lv
  rw [e0,e1,e2,e3,h]
theorem bWq (m:Bool) (v:Int):Tryz.prog.built 96 [(0,.bool m),(1,lv v)]=some #[.bool m,.int .u64 (spl0 v),.int .u64 (spl1 v),.int .u64 (spl2 v),.int .u64 (spl3 v)]:=by kernel_rfl
theorem aWq (m:Bool) (v:Int):Value.agg #[.bool m,.int .u64 (spl0 v),.int .u64 (spl1 v),.int .u64 (spl2 v),.int .u64 (spl3 v)]=wq m v:=rfl
theorem gL:Tryz.prog.eqGuardType Tryz.prog.depth 94=false:=by kernel_rfl
theorem eqL {v:Int} (h0:0≤v) (h1:v < top4) (W:World):(Op.equalIn 10000 94 (lv v) (lv 0)).run Tryz.prog W = .ok (decide (v=0)) W:=by
  refine (eqA94 9998 W _ _ _ _ _ _ _ _).trans ?_
  rw [show decide (v=0)=noneB (spl0 v) (spl1 v) (spl2 v) (spl3 v) by rw [noneB_iff (spl0_U v) (spl1_U v) (spl2_U v) (spl3_U v),val4_spl h0 h1]]
  rfl
theorem ldf {P:Program} {w0:World} {ok0:Nat→Prop} {N:Nat} {R:Rg} {ops:Array Oper} {Q:Exit→Act→World→Prop} {i:Nat} {o:Oper} {d t u:Tmp} {off:Nat} {cs:Array Value} {v:Value} {T T':TypeId} {n m:Nat} (hh:Pl R ops i o (some d) (.load T (.tmp t)) true) (hfa:R.Nd i (.f t u off)) (hb:R.Nd i (.b u (.is (.agg cs)) T' n))
    (hT:AggTy P T m) (hv:∃ l:List Value,l.length=m∧(∀ j x,l[j]?=some x→cs[off+j]?=some x)∧Value.agg l.toArray=v):Does P w0 ok0 N R ops Q i o (some (.s d (.is v))) :=
  pure_ hh fun ok a W hf=>by
    obtain ⟨l,rfl,hc,rfl⟩:=hv
    obtain ⟨g,cs',h1,_,_,h4,h5,h6⟩:=hf _ hb
    have h6:Value.agg cs' = .agg cs:=h6
    cases h6
    obtain ⟨g',h1',h2'⟩:=hf _ hfa
    obtain ⟨dd,hu,hdd⟩:=hT.u
    rw [h1] at h1'
    simp only [blk,ptr,Option.some.injEq] at h1'
    subst h1'
    have hev:a.eval (.tmp t)=ptr g off:=h2'
    have hl:(loadCells ⟨g,off,none⟩ l.length).run P W = .ok l.toArray W:=run_loadCells_list (P:=P) W _ l (fun j u hu=>by
      have hadd:(⟨g,off,none⟩:Addr).add j=⟨g,off+j,none⟩:=by unfold Addr.add;split<;>simp_all
      rw [hadd,cell_of_row W g (off+j) _ T' (0,0) h4]
      exact hc j u hu)
    have hagg:(isAgg T).run P W = .ok true W:=by
      unfold isAgg
      rw [Sem.run_bind,run_underlying hu W]
      cases dd<;>simp_all
    obtain ⟨ie,hie,his⟩:∃ ie,P.info? T=some ie∧ie.size=l.length:=by
      have:=hT.i
      cases h:P.info? T with
      | none=>simp [h] at this
      | some ie=>exact ⟨ie,rfl,by simpa [h] using this⟩
    unfold execOp
    simp [hh.op,hev,Instr.loadAt,Instr.sureAddr,loadVar,Sem.run_bind,hagg,sizeOf,typeInfo,hie,his,hl]
theorem aL_ (m:Bool) (v:Int):∃ l:List Value,l.length=4∧(∀ j x,l[j]?=some x→(#[Value.bool m,.int .u64 (spl0 v),.int .u64 (spl1 v),.int .u64 (spl2 v),.int .u64 (spl3 v)]:Array Value)[1+j]?=some x)∧Value.agg l.toArray=lv v :=
  ⟨[.int .u64 (spl0 v),.int .u64 (spl1 v),.int .u64 (spl2 v),.int .u64 (spl3 v)],rfl,(fun j x h=>by
    match j with
    | 0|1|2|3=>exact h
    | j+4=>cases h),rfl⟩
theorem FnC.val {f:FuncId} {vs:List Value} {r:Value} (h:∀ W,Calls Tryz.prog f vs.toArray W fun e W'=>e = .returned r∧Below W.heap.size W W'):FnC Tryz.prog f (vs.map SP.is) (.is r):=by
  intro ok ws W hA hk
  rw [args_is hA]
  exact (h W).mono fun e W' ⟨e1,e2⟩=>⟨r,e1,rfl,e2⟩
theorem FnC.valT {f:FuncId} {vs rs:List Value} (h:∀ W,Calls Tryz.prog f vs.toArray W fun e W'=>e = .returned (.tuple rs.toArray)∧Below W.heap.size W W'):FnC Tryz.prog f (vs.map SP.is) (.tup (rs.map SP.is)):=by
  intro ok ws W hA hk
  rw [args_is hA]
  refine (h W).mono fun e W' ⟨e1,e2⟩=>⟨_,e1,⟨rs,rfl,?_⟩,e2⟩
  have:∀ rs:List Value,Args ok W' (rs.map SP.is) rs:=fun rs=>by
    induction rs with
    | nil=>trivial
    | cons r rs ih=>exact ⟨rfl,ih⟩
  exact this rs
theorem fn_wplus {u v:Int} (hu:0≤u) (hv:0≤v) (h:u+v < top4):FnC Tryz.prog 147 [.is (lv u),.is (lv v)] (.tup [.is (lv (u+v)),bv true]) :=
  FnC.valT (vs:=[lv u,lv v]) (rs:=[lv (u+v),.bool true]) fun W=>wide_plus_c _ _ _ _ _ _ _ _ _ _ _ _ _ W (by
    unfold wide_plus_f
    rw [if_pos ⟨u4_spl u,u4_spl v⟩,val4_spl hu (by omega),val4_spl hv (by omega),Int.emod_eq_of_lt (by omega) h,decide_eq_true h])
theorem fn_wless {u v:Int} (hv:0≤v) (h:v≤u) (hu:u < top4):FnC Tryz.prog 148 [.is (lv u),.is (lv v)] (.is (lv (u - v))) :=
  FnC.val (vs:=[lv u,lv v]) fun W=>wide_less_c _ _ _ _ _ _ _ _ _ _ _ _ W (by
    unfold wide_less_f
    rw [if_pos ⟨u4_spl u,u4_spl v⟩,val4_spl (by omega) hu,val4_spl hv (by omega),Int.emod_eq_of_lt (by omega) (by omega)])
theorem fn_wsize {u v:Int} (hu0:0≤u) (hu1:u < top4) (hv0:0≤v) (hv1:v < top4):FnC Tryz.prog 93 [.is (lv u),.is (lv v)] (iv (sgn (u - v))) :=
  FnC.val (vs:=[lv u,lv v]) fun W=>wide_size_c _ _ _ _ _ _ _ _ _ W (by
    unfold wide_size_f
    rw [if_pos ⟨u4_spl u,u4_spl v⟩,val4_spl hu0 hu1,val4_spl hv0 hv1]
    unfold cmpI sgn
    (repeat' split)<;>first|rfl|omega)
theorem sv_mul (z:Int) (n:Bool) {v:Int} (hv0:0≤v):((z * sv n v).natAbs:Int)=z.natAbs * v∧decide (z * sv n v < 0)=((!(decide (z < 0)==n)) && !decide ((z.natAbs:Int) * v=0)):=by
  obtain ⟨t,ht⟩:∃ t:Int,t=z.natAbs * v:=⟨_,rfl⟩
  have ht0:0≤t:=by rw [ht];exact Int.mul_nonneg (by omega) hv0
  have key:z * sv n v=if (decide (z < 0)==n)=true then t else -t:=by
    by_cases hz:z < 0
    · have e:(z.natAbs:Int) = -z:=by omega
      rw [ht,e,decide_eq_true hz]
      cases n<;>simp [sv,Int.neg_mul,Int.mul_neg]
    · have e:(z.natAbs:Int)=z:=by omega
      rw [ht,e,decide_eq_false hz]
      cases n<;>simp [sv,Int.neg_mul,Int.mul_neg]
  rw [← ht,key]
  cases h:(decide (z < 0)==n)
  · simp only [Bool.false_eq_true,if_false]
    refine ⟨by omega,?_⟩
    by_cases h0:t=0
    · subst h0;rfl
    · rw [decide_eq_true (by omega),decide_eq_false h0];rfl
  · simp only [if_true]
    refine ⟨by omega,?_⟩
    rw [decide_eq_false (by omega)];rfl
theorem fn_wmul {a b:Int} (ha:(a.natAbs:Int) < top4) (hb:(b.natAbs:Int) < top4) (h:((a * b).natAbs:Int) < top4):FnC Tryz.prog 126 [.is (wv a),.is (wv b)] (.tup [.is (wv (a * b)),bv true]) :=
  FnC.valT (vs:=[wv a,wv b]) (rs:=[wv (a * b),.bool true]) fun W=>wide_mul_c _ _ _ _ _ _ _ _ _ _ _ _ _ _ _ _ W (by
    obtain ⟨e1,e2⟩:=sv_mul a (decide (b < 0)) (v:=b.natAbs) (by omega)
    rw [sv_self] at e1 e2
    have hp:=Int.mul_nonneg (show (0:Int)≤a.natAbs by omega) (show (0:Int)≤b.natAbs by omega)
    unfold wide_mul_f
    rw [if_pos ⟨u4_spl _,u4_spl _⟩,val4_spl (by omega) ha,val4_spl (by omega) hb,Int.emod_eq_of_lt hp (e1 ▸ h),e1,e2,decide_eq_true (show (a.natAbs:Int) * b.natAbs < top4 from e1 ▸ h)])
theorem is_eq {f:FuncId} {ps:List SP} {v w:Value} (h:FnC Tryz.prog f ps (.is v)) (e:v=w):FnC Tryz.prog f ps (.is w):=e ▸ h
theorem wq_wv {m:Bool} {v z:Int} (h1:(z.natAbs:Int)=v) (h2:m=decide (z < 0)):wq m v=wv z:=by subst h1;subst h2;rfl
theorem at_w {l:List Int} {k:Nat} (h:k < l.length):(l.map wc)[k]?=some (wc (l.getD k 0)):=by
  rw [List.getElem?_map,List.getD_eq_getElem?_getD,List.getElem?_eq_getElem h]
  rfl
theorem fn_wnone {v:Int} (h0:0≤v) (h1:v < top4):FnC Tryz.prog 95 [.is (lv v)] (bv (decide (v=0))):=by
 refine FnC.of (N:=6) Tryz.func95 rfl rfl (Nat.le_of_ble_eq_true rfl) (fun w0 ok0=>?_)
 refine Tr.rs [] (.k (bxx .k (.b 0 rfl)) (.k (asg .k .c) .n)) [] [0] rfl rfl ?_
 refine Tr.rs [] (.k (ld .k (.b 0 rfl) tyL) (.k (bld .k .n bL0 aL0) (.k (eqS_ .k gL (.g 0 rfl) (.g 1 rfl) (eqL h0 h1) rfl) (.k (asg .k (.g 2 rfl)) .n)))) [] [3] rfl rfl ?_
 refine Tr.ret (end_tmp 0 rfl rfl)
theorem fn_wof {m:Bool} {v:Int} (h0:0≤v) (h1:v < top4):FnC Tryz.prog 97 [bv m,.is (lv v)] (.is (wq (m && !decide (v=0)) v)):=by
 refine FnC.of (N:=13) Tryz.func97 rfl rfl (Nat.le_of_ble_eq_true rfl) (fun w0 ok0=>?_)
 refine Tr.rs [] (.k (bxx .k (.b 1 rfl)) (.k (alc .k zW) .n)) [0] [0,1] rfl rfl ?_
 cases m
 ·
  refine Tr.ds hmx [(2,8)] (.k (mv .k (.b 0 rfl)) (.k (mv .k (.g 0 rfl)) (.k (skp (.o 1 rfl rfl rfl)) (.k (skp (.o 1 rfl rfl rfl)) (.k (skp (.o 1 rfl rfl rfl)) (.k (pickF .k (.g 1 rfl) .c) (.k (ld .k (.b 1 rfl) tyL) (.k (bld .k (.k (.g 5 rfl) (.k (.g 6 rfl) .n)) (bWq _ _) (aWq _ _)) (.k (sto .k (.b 2 rfl) (.g 7 rfl) tyW) .n))))))))) [] [8] rfl rfl ?_
  refine Tr.ret (end_cell 0 rfl rfl tyW)
 ·
  refine Tr.ds hmx [(2,8)] (.k (mv .k (.b 0 rfl)) (.k (mv .k (.g 0 rfl)) (.k (ld (.o 1 rfl rfl rfl) (.b 1 rfl) tyL) (.k (cal (.o 1 rfl rfl rfl) Tryz.func95 rfl (fn_wnone h0 h1) (.k (.g 2 rfl) .n)) (.k (not_ (.o 1 rfl rfl rfl) (.g 3 rfl)) (.k (pickT .k (.g 1 rfl) (.g 4 rfl)) (.k (ld .k (.b 1 rfl) tyL) (.k (bld .k (.k (.g 5 rfl) (.k (.g 6 rfl) .n)) (bWq _ _) (aWq _ _)) (.k (sto .k (.b 2 rfl) (.g 7 rfl) tyW) .n))))))))) [] [8] rfl rfl ?_
  refine Tr.ret (end_cell 0 rfl rfl tyW)
theorem u64_abs {n:Int} (h0 : -9223372036854775808≤n) (h1:n≤9223372036854775807):(n < 0→IntKind.u64.wrap (0 - IntKind.u64.wrap n)=n.natAbs)∧(¬ n < 0→IntKind.u64.wrap n=n.natAbs):=by
  have e:∀ x,IntKind.u64.wrap x=x % 18446744073709551616:=fun _=>rfl
  rw [e,e]
  omega
theorem i64_lt {n:Int} (h0 : -9223372036854775808≤n) (h1:n≤9223372036854775807):(n.natAbs:Int) < top4:=by unfold top4;omega
theorem fn_Of {n:Int} (h0 : -9223372036854775808≤n) (h1:n≤9223372036854775807):FnC Tryz.prog 68 [iv n] (.is (wv n)):=by
 refine FnC.of (N:=14) Tryz.func68 rfl rfl (Nat.le_of_ble_eq_true rfl) (fun w0 ok0=>?_)
 refine Tr.rs [] (.k (alc .k zW) .n) [0] [0] rfl rfl ?_
 by_cases hn:n < 0
 ·
  refine Tr.seq (Tr.rs [] (.k (mv .k (.b 0 rfl)) (.k (lt_ .k (.g 0 rfl) .c (decide_eq_true hn)) .n)) [0,1] [1] rfl rfl ?_)
  refine Tr.cond 2 rfl (fun _=>?_) nofun
  refine Tr.rs [(1,5)] (.k (mv .k (.b 0 rfl)) (.k (cvt_ .k (by rw [Tryz.underlying3];rfl) Tryz.underlying93 (.g 0 rfl) rfl) (.k (neg_ .k (.g 1 rfl)) (.k (bld .k (.k (.g 2 rfl) .n) (bL1 _) (aL1 (d:=n.natAbs) (by omega) (by omega) ((u64_abs h0 h1).1 hn))) (.k (cal .k Tryz.func97 rfl (is_eq (fn_wof (m:=true) (v:=n.natAbs) (by omega) (i64_lt h0 h1)) (wq_wv rfl (by rw [decide_eq_true hn,decide_eq_false (show ¬ (n.natAbs:Int)=0 by omega)];rfl))) (.k .c (.k (.g 3 rfl) .n))) (.k (sto .k (.b 1 rfl) (.g 4 rfl) tyW) .n)))))) [] [5] rfl rfl ?_
  refine Tr.ret (end_cell 0 rfl rfl tyW)
 ·
  refine Tr.seq (Tr.rs [] (.k (mv .k (.b 0 rfl)) (.k (lt_ .k (.g 0 rfl) .c (decide_eq_false hn)) .n)) [0,1] [1] rfl rfl ?_)
  refine Tr.cond 2 rfl nofun (fun _=>?_)
  refine Tr.skip (Nx.go (Tr.rs [(1,4)] (.k (mv .k (.b 0 rfl)) (.k (cvt_ .k (by rw [Tryz.underlying3];rfl) Tryz.underlying93 (.g 0 rfl) rfl) (.k (bld .k (.k (.g 1 rfl) .n) (bL1 _) (aL1 (d:=n.natAbs) (by omega) (by omega) ((u64_abs h0 h1).2 hn))) (.k (cal .k Tryz.func97 rfl (is_eq (fn_wof (m:=false) (v:=n.natAbs) (by omega) (i64_lt h0 h1)) (wq_wv rfl (decide_eq_false hn).symm)) (.k .c (.k (.g 2 rfl) .n))) (.k (sto .k (.b 1 rfl) (.g 3 rfl) tyW) .n))))) [] [4] rfl rfl ?_))
  refine Tr.ret (end_cell 0 rfl rfl tyW)
theorem fn_wneg {m:Bool} {v:Int} (h0:0≤v) (h1:v < top4):FnC Tryz.prog 94 [.is (wq m v)] (.is (wq (!m && !decide (v=0)) v)):=by
 refine FnC.of (N:=9) Tryz.func94 rfl rfl (Nat.le_of_ble_eq_true rfl) (fun w0 ok0=>?_)
 refine Tr.rs [] (.k (bxx .k (.b 0 rfl)) (.k (alc .k zW) .n)) [] [0,1] rfl rfl ?_
 refine Tr.rs [(1,6)] (.k (faddr .k (.b 0 rfl) rfl fWM) (.k (ldc .k (.g 0 rfl) (.b 0 rfl) tyB) (.k (not_ .k (.g 1 rfl)) (.k (faddr .k (.b 0 rfl) rfl fWL) (.k (ldf .k (.g 3 rfl) (.b 0 rfl) tyL (aL_ _ _)) (.k (cal .k Tryz.func97 rfl (fn_wof h0 h1) (.k (.g 2 rfl) (.k (.g 4 rfl) .n))) (.k (sto .k (.b 1 rfl) (.g 5 rfl) tyW) .n))))))) [] [6] rfl rfl ?_
 refine Tr.ret (end_cell 0 rfl rfl tyW)
theorem fn_Neg {z:Int} (h:(z.natAbs:Int) < top4):FnC Tryz.prog 94 [.is (wv z)] (.is (wv (-z))) :=
  is_eq (fn_wneg (m:=decide (z < 0)) (v:=z.natAbs) (by omega) h) (wq_wv (by omega) (by by_cases h0:z < 0<;>by_cases h1:z=0<;>simp [h0,h1]<;>omega))
theorem fn_wsign {m:Bool} {v:Int} (h0:0≤v) (h1:v < top4):FnC Tryz.prog 66 [.is (wq m v)] (iv (sgn (sv m v))):=by
 refine FnC.of (N:=10) Tryz.func66 rfl rfl (Nat.le_of_ble_eq_true rfl) (fun w0 ok0=>?_)
 refine Tr.rs [] (.k (bxx .k (.b 0 rfl)) (.k (asg .k .c) .n)) [] [0] rfl rfl ?_
 refine Tr.seq (Tr.block (?_))
 have hc:=sgn_cases (sv m v);rcases (show v=0∨(v≠0∧m=true)∨(v≠0∧m=false) by cases m<;>simp<;>omega) with h|⟨h,e⟩|⟨h,e⟩
 ·
  subst h
  rw [show sgn (sv m 0)=0 by cases m<;>rfl]
  refine Tr.rs [] (.k (faddr .k (.b 0 rfl) rfl fWL) (.k (ldf .k (.g 0 rfl) (.b 0 rfl) tyL (aL_ _ _)) (.k (cal .k Tryz.func95 rfl (show FnC _ _ _ (bv true) from fn_wnone h0 h1) (.k (.g 1 rfl) .n)) (.k (asg .k (.g 2 rfl)) .n)))) [0] [3] rfl rfl ?_
  refine Tr.cond 1 rfl (fun _=>?_) nofun
  refine Tr.rs [] (.k (asg .k .c) .n) [] [0] rfl rfl ?_
  refine Tr.ret (end_tmp 0 rfl rfl)
 ·
  subst e
  rw [show sgn (sv true v) = -1 by unfold sv at hc ⊢;simp at hc ⊢;omega]
  refine Tr.rs [] (.k (faddr .k (.b 0 rfl) rfl fWL) (.k (ldf .k (.g 0 rfl) (.b 0 rfl) tyL (aL_ _ _)) (.k (cal .k Tryz.func95 rfl (show FnC _ _ _ (bv false) from by rw [← decide_eq_false h];exact fn_wnone h0 h1) (.k (.g 1 rfl) .n)) (.k (asg .k (.g 2 rfl)) .n)))) [0] [3] rfl rfl ?_
  refine Tr.cond 1 rfl nofun (fun _=>?_)
  refine Tr.rs [] (.k (faddr .k (.b 0 rfl) rfl fWM) (.k (ldc .k (.g 0 rfl) (.b 0 rfl) tyB) (.k (asg .k (.g 1 rfl)) .n))) [] [2] rfl rfl ?_
  refine Tr.cond 0 rfl (fun _=>?_) nofun
  refine Tr.rs [] (.k (asg .k .c) .n) [] [0] rfl rfl ?_
  refine Tr.ret (end_tmp 0 rfl rfl)
 ·
  subst e
  rw [show sgn (sv false v)=1 by unfold sv at hc ⊢;simp at hc ⊢;omega]
  refine Tr.rs [] (.k (faddr .k (.b 0 rfl) rfl fWL) (.k (ldf .k (.g 0 rfl) (.b 0 rfl) tyL (aL_ _ _)) (.k (cal .k Tryz.func95 rfl (show FnC _ _ _ (bv false) from by rw [← decide_eq_false h];exact fn_wnone h0 h1) (.k (.g 1 rfl) .n)) (.k (asg .k (.g 2 rfl)) .n)))) [0] [3] rfl rfl ?_
  refine Tr.cond 1 rfl nofun (fun _=>?_)
  refine Tr.rs [] (.k (faddr .k (.b 0 rfl) rfl fWM) (.k (ldc .k (.g 0 rfl) (.b 0 rfl) tyB) (.k (asg .k (.g 1 rfl)) .n))) [] [2] rfl rfl ?_
  refine Tr.cond 0 rfl nofun (fun _=>?_)
  refine Tr.skip (Nx.bkN (Nx.go (Tr.rs [] (.k (asg .k .c) .n) [] [0] rfl rfl ?_)))
  refine Tr.ret (end_tmp 0 rfl rfl)
theorem fn_Sign {z:Int} (h:(z.natAbs:Int) < top4):FnC Tryz.prog 66 [.is (wv z)] (iv (sgn z)):=by
  have:=fn_wsign (m:=decide (z < 0)) (v:=z.natAbs) (by omega) h
  rw [sv_self] at this
  exact this
theorem fn_nan {x:Int}:FnC Tryz.prog 113 [iv x] (bv false):=by
 refine FnC.of (N:=6) Tryz.func113 rfl rfl (Nat.le_of_ble_eq_true rfl) (fun w0 ok0=>?_)
 refine Tr.rs [] (.k (asg .k .c) .n) [0] [] rfl rfl ?_
 refine Tr.rs [] (.k (mv .k (.b 0 rfl)) (.k (mv .k (.b 0 rfl)) (.k (ne_ .k (.g 0 rfl) (.g 1 rfl) (bne_eq_false_iff_eq.2 rfl)) (.k (asg .k (.g 2 rfl)) .n)))) [] [3] rfl rfl ?_
 refine Tr.ret (end_tmp 0 rfl rfl)
theorem fn_ccmp {x y:Int}:FnC Tryz.prog 90 [iv x,iv y] (iv (sgn (x - y))):=by
 refine FnC.of (N:=20) Tryz.func90 rfl rfl (Nat.le_of_ble_eq_true rfl) (fun w0 ok0=>?_)
 refine Tr.rs [] (.k (asg .k .c) .n) [0,1] [] rfl rfl ?_
 refine Tr.rs [] (.k (mv .k (.b 0 rfl)) (.k (cal .k Tryz.func113 rfl fn_nan (.k (.g 0 rfl) .n)) (.k (asg .k (.g 1 rfl)) .n))) [0,1] [2] rfl rfl ?_
 refine Tr.rs [] (.k (mv .k (.b 1 rfl)) (.k (cal .k Tryz.func113 rfl fn_nan (.k (.g 0 rfl) .n)) (.k (asg .k (.g 1 rfl)) .n))) [0,1,2] [2] rfl rfl ?_
 refine Tr.seq (Tr.rs [] (.k (mv .k (.b 2 rfl)) .n) [0,1,3] [0] rfl rfl ?_)
 refine Tr.cond 3 rfl nofun (fun _=>?_)
 refine Tr.skip (Nx.go (Tr.seq (Tr.rs [] (.k (mv .k (.b 2 rfl)) .n) [0,1] [0] rfl rfl ?_)))
 refine Tr.cond 2 rfl nofun (fun _=>?_)
 refine Tr.skip (Nx.go (?_))
 rcases sgn_cases (x - y) with ⟨h,hz⟩|⟨h,hz⟩|⟨h,hz⟩
 ·
  rw [h]
  refine Tr.seq (Tr.rs [] (.k (mv .k (.b 0 rfl)) (.k (mv .k (.b 1 rfl)) (.k (lt_ .k (.g 0 rfl) (.g 1 rfl) (dT (by omega))) .n))) [0,1] [2] rfl rfl ?_)
  refine Tr.cond 2 rfl (fun _=>?_) nofun
  refine Tr.rs [] (.k (asg .k .c) .n) [] [0] rfl rfl ?_
  refine Tr.ret (end_tmp 0 rfl rfl)
 ·
  rw [h]
  refine Tr.seq (Tr.rs [] (.k (mv .k (.b 0 rfl)) (.k (mv .k (.b 1 rfl)) (.k (lt_ .k (.g 0 rfl) (.g 1 rfl) (dF (by omega))) .n))) [0,1] [2] rfl rfl ?_)
  refine Tr.cond 2 rfl nofun (fun _=>?_)
  refine Tr.skip (Nx.go (Tr.seq (Tr.rs [] (.k (mv .k (.b 0 rfl)) (.k (mv .k (.b 1 rfl)) (.k (gt_ .k (.g 0 rfl) (.g 1 rfl) (dF (by omega))) .n))) [] [2] rfl rfl ?_)))
  refine Tr.cond 0 rfl nofun (fun _=>?_)
  refine Tr.skip (Nx.go (Tr.rs [] (.k (asg .k .c) .n) [] [0] rfl rfl ?_))
  refine Tr.ret (end_tmp 0 rfl rfl)
 ·
  rw [h]
  refine Tr.seq (Tr.rs [] (.k (mv .k (.b 0 rfl)) (.k (mv .k (.b 1 rfl)) (.k (lt_ .k (.g 0 rfl) (.g 1 rfl) (dF (by omega))) .n))) [0,1] [2] rfl rfl ?_)
  refine Tr.cond 2 rfl nofun (fun _=>?_)
  refine Tr.skip (Nx.go (Tr.seq (Tr.rs [] (.k (mv .k (.b 0 rfl)) (.k (mv .k (.b 1 rfl)) (.k (gt_ .k (.g 0 rfl) (.g 1 rfl) (dT (by omega))) .n))) [] [2] rfl rfl ?_)))
  refine Tr.cond 0 rfl (fun _=>?_) nofun
  refine Tr.rs [] (.k (asg .k .c) .n) [] [0] rfl rfl ?_
  refine Tr.ret (end_tmp 0 rfl rfl)
theorem cmp_1 (a b:Int):(sgn a≠sgn b→sgn (a - b)=sgn (sgn a - sgn b))∧(sgn a=sgn b→sgn a=0→sgn (a - b)=sgn (sgn a - sgn b))∧(sgn a=sgn b→sgn a≠0→IntKind.i64.wrap (sgn a * sgn ((a.natAbs:Int) - b.natAbs))=sgn (a - b)):=by
  have h1:=sgn_cases a
  have h2:=sgn_cases b
  have h3:=sgn_cases (a - b)
  have h4:=sgn_cases (sgn a - sgn b)
  have h5:=sgn_cases ((a.natAbs:Int) - b.natAbs)
  refine ⟨fun h=>by omega,fun h h'=>by omega,fun h h'=>?_⟩
  rcases (show sgn a = -1∨sgn a=1 by omega) with e|e
  · rw [e,IntWalk.i64_in _ (by omega)];omega
  · rw [e,IntWalk.i64_in _ (by omega)];omega
theorem fn_Cmp {a b:Int} (ha:(a.natAbs:Int) < top4) (hb:(b.natAbs:Int) < top4):FnC Tryz.prog 64 [.is (wv a),.is (wv b)] (iv (sgn (a - b))):=by
 refine FnC.of (N:=28) Tryz.func64 rfl rfl (Nat.le_of_ble_eq_true rfl) (fun w0 ok0=>?_)
 refine Tr.rs [] (.k (bxx .k (.b 0 rfl)) (.k (bxx .k (.b 1 rfl)) (.k (asg .k .c) .n))) [] [0,1] rfl rfl ?_
 refine Tr.ds hmx [] (.k (ld .k (.b 0 rfl) tyW) (.k (cal .k Tryz.func66 rfl (fn_Sign ha) (.k (.g 0 rfl) .n)) (.k (ld .k (.b 1 rfl) tyW) (.k (cal .k Tryz.func66 rfl (fn_Sign hb) (.k (.g 2 rfl) .n)) (.k (asg .k (.g 1 rfl)) (.k (asg .k (.g 3 rfl)) .n)))))) [0,1] [4,5] rfl rfl ?_
 obtain ⟨c1,c2,c3⟩:=cmp_1 a b;rcases (show sgn a≠sgn b∨(sgn a=sgn b∧sgn a=0)∨(sgn a=sgn b∧sgn a≠0) by omega) with h|⟨h,h2⟩|⟨h,h2⟩
 ·
  refine Tr.seq (Tr.rs [] (.k (mv .k (.b 2 rfl)) (.k (mv .k (.b 3 rfl)) (.k (ne_ .k (.g 0 rfl) (.g 1 rfl) (bne_iff_ne.2 h)) (.k (mv .k (.g 2 rfl)) (.k (skp (.o 3 rfl rfl rfl)) (.k (skp (.o 3 rfl rfl rfl)) (.k (pickT .k (.g 3 rfl) .c) .n))))))) [0,1,2,3] [6] rfl rfl ?_)
  refine Tr.cond 4 rfl (fun _=>?_) nofun
  refine Tr.rs [] (.k (mv .k (.b 2 rfl)) (.k (mv .k (.b 3 rfl)) (.k (cal .k Tryz.func90 rfl (show FnC _ _ _ (iv (sgn (a - b))) from by rw [c1 h];exact fn_ccmp) (.k (.g 0 rfl) (.k (.g 1 rfl) .n))) (.k (asg .k (.g 2 rfl)) .n)))) [] [3] rfl rfl ?_
  refine Tr.ret (end_tmp 0 rfl rfl)
 ·
  refine Tr.seq (Tr.rs [] (.k (mv .k (.b 2 rfl)) (.k (mv .k (.b 3 rfl)) (.k (ne_ .k (.g 0 rfl) (.g 1 rfl) (bne_eq_false_iff_eq.2 h)) (.k (mv .k (.g 2 rfl)) (.k (mv (.o 3 rfl rfl rfl) (.b 2 rfl)) (.k (eq_ (.o 3 rfl rfl rfl) (.g 4 rfl) .c (beq_iff_eq.2 h2)) (.k (pickF .k (.g 3 rfl) (.g 5 rfl)) .n))))))) [0,1,2,3] [6] rfl rfl ?_)
  refine Tr.cond 4 rfl (fun _=>?_) nofun
  refine Tr.rs [] (.k (mv .k (.b 2 rfl)) (.k (mv .k (.b 3 rfl)) (.k (cal .k Tryz.func90 rfl (show FnC _ _ _ (iv (sgn (a - b))) from by rw [c2 h h2];exact fn_ccmp) (.k (.g 0 rfl) (.k (.g 1 rfl) .n))) (.k (asg .k (.g 2 rfl)) .n)))) [] [3] rfl rfl ?_
  refine Tr.ret (end_tmp 0 rfl rfl)
 ·
  refine Tr.seq (Tr.rs [] (.k (mv .k (.b 2 rfl)) (.k (mv .k (.b 3 rfl)) (.k (ne_ .k (.g 0 rfl) (.g 1 rfl) (bne_eq_false_iff_eq.2 h)) (.k (mv .k (.g 2 rfl)) (.k (mv (.o 3 rfl rfl rfl) (.b 2 rfl)) (.k (eq_ (.o 3 rfl rfl rfl) (.g 4 rfl) .c (beq_eq_false_iff_ne.2 h2)) (.k (pickF .k (.g 3 rfl) (.g 5 rfl)) .n))))))) [0,1,2,3] [6] rfl rfl ?_)
  refine Tr.cond 4 rfl nofun (fun _=>?_)
  refine Tr.skip (Nx.go (Tr.rs [] (.k (mv .k (.b 2 rfl)) (.k (faddr .k (.b 0 rfl) rfl fWL) (.k (ldf .k (.g 1 rfl) (.b 0 rfl) tyL (aL_ _ _)) (.k (faddr .k (.b 1 rfl) rfl fWL) (.k (ldf .k (.g 3 rfl) (.b 1 rfl) tyL (aL_ _ _)) (.k (cal .k Tryz.func93 rfl (fn_wsize (by omega) ha (by omega) hb) (.k (.g 2 rfl) (.k (.g 4 rfl) .n))) (.k (mul_ .k (.g 0 rfl) (.g 5 rfl) (c3 h h2)) (.k (asg .k (.g 6 rfl)) .n)))))))) [] [7] rfl rfl ?_))
  refine Tr.ret (end_tmp 0 rfl rfl)
theorem add_1 {a b:Int} (e:decide (a < 0)=decide (b < 0)):((a+b).natAbs:Int)=a.natAbs+b.natAbs∧(decide (a < 0) && !decide ((a.natAbs:Int)+b.natAbs=0))=decide (a+b < 0):=by
  by_cases h1:a < 0
  · rw [decide_eq_true h1] at e ⊢
    have h2:=of_decide_eq_true e.symm
    refine ⟨by omega,?_⟩
    rw [decide_eq_false (show ¬ (a.natAbs:Int)+b.natAbs=0 by omega),decide_eq_true (show a+b < 0 by omega)];rfl
  · rw [decide_eq_false h1] at e ⊢
    have h2:=of_decide_eq_false e.symm
    exact ⟨by omega,(decide_eq_false (show ¬ a+b < 0 by omega)).symm⟩
theorem add_2 {a b:Int} (e:decide (a < 0)≠decide (b < 0)) (h:(b.natAbs:Int)≤a.natAbs):((a+b).natAbs:Int)=a.natAbs - b.natAbs∧(decide (a < 0) && !decide ((a.natAbs:Int) - b.natAbs=0))=decide (a+b < 0):=by
  by_cases h1:a < 0
  · rw [decide_eq_true h1] at e ⊢
    have h2:¬ b < 0:=fun h=>e (decide_eq_true h).symm
    refine ⟨by omega,?_⟩
    by_cases h0:(a.natAbs:Int) - b.natAbs=0
    · rw [decide_eq_true h0,decide_eq_false (show ¬ a+b < 0 by omega)];rfl
    · rw [decide_eq_false h0,decide_eq_true (show a+b < 0 by omega)];rfl
  · rw [decide_eq_false h1] at e ⊢
    have h2:b < 0:=Decidable.byContradiction fun h=>e (decide_eq_false h).symm
    exact ⟨by omega,(decide_eq_false (show ¬ a+b < 0 by omega)).symm⟩
theorem fn_wadd {a b:Int} (ha:(a.natAbs:Int) < top4) (hb:(b.natAbs:Int) < top4) (h:((a+b).natAbs:Int) < top4):FnC Tryz.prog 128 [.is (wv a),.is (wv b)] (.tup [.is (wv (a+b)),bv true]):=by
 refine FnC.of (N:=50) Tryz.func128 rfl rfl (Nat.le_of_ble_eq_true rfl) (fun w0 ok0=>?_)
 refine Tr.rs [] (.k (bxx .k (.b 0 rfl)) (.k (bxx .k (.b 1 rfl)) (.k (alc .k zW) (.k (asg .k .c) .n)))) [] [0,1,2] rfl rfl ?_
 refine Tr.seq (Tr.block (?_))
 by_cases e:decide (a < 0)=decide (b < 0)
 ·
  obtain ⟨e1,e2⟩:=add_1 e
  refine Tr.rs [] (.k (faddr .k (.b 0 rfl) rfl fWM) (.k (ldc .k (.g 0 rfl) (.b 0 rfl) tyB) (.k (faddr .k (.b 1 rfl) rfl fWM) (.k (ldc .k (.g 2 rfl) (.b 1 rfl) tyB) (.k (eqB_ .k Tryz.underlying4 (.g 1 rfl) (.g 3 rfl) (beq_iff_eq.2 e)) (.k (asg .k (.g 4 rfl)) .n)))))) [0,1,2] [5] rfl rfl ?_
  refine Tr.cond 3 rfl (fun _=>?_) nofun
  refine Tr.rs [] (.k (faddr .k (.b 0 rfl) rfl fWL) (.k (ldf .k (.g 0 rfl) (.b 0 rfl) tyL (aL_ _ _)) (.k (faddr .k (.b 1 rfl) rfl fWL) (.k (ldf .k (.g 2 rfl) (.b 1 rfl) tyL (aL_ _ _)) (.k (cal .k Tryz.func147 rfl (fn_wplus (u:=a.natAbs) (v:=b.natAbs) (by omega) (by omega) (by omega)) (.k (.g 1 rfl) (.k (.g 3 rfl) .n))) (.k (mv .k (.g 4 rfl)) (.k (exx .k (.g 5 rfl) rfl) (.k (exx .k (.g 5 rfl) rfl) (.k (ala .k zL) (.k (sta .k (.g 8 rfl) (.g 6 rfl) tyL) (.k (asg .k (.g 7 rfl)) .n))))))))))) [0,2] [9,10] rfl rfl ?_
  refine Tr.rs [(1,5)] (.k (faddr .k (.b 0 rfl) rfl fWM) (.k (ldc .k (.g 0 rfl) (.b 0 rfl) tyB) (.k (ld .k (.b 2 rfl) tyL) (.k (cal .k Tryz.func97 rfl (is_eq (fn_wof (v:=(a.natAbs:Int)+b.natAbs) (by omega) (by omega)) (wq_wv e1 e2)) (.k (.g 1 rfl) (.k (.g 2 rfl) .n))) (.k (mv .k (.b 3 rfl)) (.k (sto .k (.b 1 rfl) (.g 3 rfl) tyW) (.k (asg .k (.g 4 rfl)) .n))))))) [] [5,6] rfl rfl ?_
  refine Tr.ret (end_cell_tmp 0 1 rfl rfl rfl tyW)
 ·
  have hs:=sgn_cases ((a.natAbs:Int) - b.natAbs)
  refine Tr.rs [] (.k (faddr .k (.b 0 rfl) rfl fWM) (.k (ldc .k (.g 0 rfl) (.b 0 rfl) tyB) (.k (faddr .k (.b 1 rfl) rfl fWM) (.k (ldc .k (.g 2 rfl) (.b 1 rfl) tyB) (.k (eqB_ .k Tryz.underlying4 (.g 1 rfl) (.g 3 rfl) (beq_eq_false_iff_ne.2 e)) (.k (asg .k (.g 4 rfl)) .n)))))) [0,1,2] [5] rfl rfl ?_
  refine Tr.cond 3 rfl nofun (fun _=>?_)
  by_cases hlt:(a.natAbs:Int) < b.natAbs
  ·
   obtain ⟨e1,e2⟩:=add_2 (a:=b) (b:=a) (fun x=>e x.symm) (by omega)
   refine Tr.rs [] (.k (faddr .k (.b 0 rfl) rfl fWL) (.k (ldf .k (.g 0 rfl) (.b 0 rfl) tyL (aL_ _ _)) (.k (faddr .k (.b 1 rfl) rfl fWL) (.k (ldf .k (.g 2 rfl) (.b 1 rfl) tyL (aL_ _ _)) (.k (cal .k Tryz.func93 rfl (fn_wsize (by omega) ha (by omega) hb) (.k (.g 1 rfl) (.k (.g 3 rfl) .n))) (.k (lt_ .k (.g 4 rfl) .c (dT (by omega))) (.k (asg .k (.g 5 rfl)) .n))))))) [0,1,2] [6] rfl rfl ?_
   refine Tr.cond 3 rfl (fun _=>?_) nofun
   refine Tr.ds hmx [(2,8)] (.k (faddr .k (.b 1 rfl) rfl fWM) (.k (ldc .k (.g 0 rfl) (.b 1 rfl) tyB) (.k (faddr .k (.b 1 rfl) rfl fWL) (.k (ldf .k (.g 2 rfl) (.b 1 rfl) tyL (aL_ _ _)) (.k (faddr .k (.b 0 rfl) rfl fWL) (.k (ldf .k (.g 4 rfl) (.b 0 rfl) tyL (aL_ _ _)) (.k (cal .k Tryz.func148 rfl (fn_wless (u:=b.natAbs) (v:=a.natAbs) (by omega) (by omega) hb) (.k (.g 3 rfl) (.k (.g 5 rfl) .n))) (.k (cal .k Tryz.func97 rfl (is_eq (fn_wof (v:=(b.natAbs:Int) - a.natAbs) (by omega) (by omega)) (Int.add_comm b a ▸ wq_wv e1 e2)) (.k (.g 1 rfl) (.k (.g 6 rfl) .n))) (.k (sto .k (.b 2 rfl) (.g 7 rfl) tyW) (.k (asg .k .c) .n)))))))))) [] [8,9] rfl rfl ?_
   refine Tr.ret (end_cell_tmp 0 1 rfl rfl rfl tyW)
  ·
   obtain ⟨e1,e2⟩:=add_2 e (by omega)
   refine Tr.rs [] (.k (faddr .k (.b 0 rfl) rfl fWL) (.k (ldf .k (.g 0 rfl) (.b 0 rfl) tyL (aL_ _ _)) (.k (faddr .k (.b 1 rfl) rfl fWL) (.k (ldf .k (.g 2 rfl) (.b 1 rfl) tyL (aL_ _ _)) (.k (cal .k Tryz.func93 rfl (fn_wsize (by omega) ha (by omega) hb) (.k (.g 1 rfl) (.k (.g 3 rfl) .n))) (.k (lt_ .k (.g 4 rfl) .c (dF (by omega))) (.k (asg .k (.g 5 rfl)) .n))))))) [0,1,2] [6] rfl rfl ?_
   refine Tr.cond 3 rfl nofun (fun _=>?_)
   refine Tr.skip (Nx.bkN (Nx.go (Tr.ds hmx [(2,8)] (.k (faddr .k (.b 0 rfl) rfl fWM) (.k (ldc .k (.g 0 rfl) (.b 0 rfl) tyB) (.k (faddr .k (.b 0 rfl) rfl fWL) (.k (ldf .k (.g 2 rfl) (.b 0 rfl) tyL (aL_ _ _)) (.k (faddr .k (.b 1 rfl) rfl fWL) (.k (ldf .k (.g 4 rfl) (.b 1 rfl) tyL (aL_ _ _)) (.k (cal .k Tryz.func148 rfl (fn_wless (u:=a.natAbs) (v:=b.natAbs) (by omega) (by omega) ha) (.k (.g 3 rfl) (.k (.g 5 rfl) .n))) (.k (cal .k Tryz.func97 rfl (is_eq (fn_wof (v:=(a.natAbs:Int) - b.natAbs) (by omega) (by omega)) (wq_wv e1 e2)) (.k (.g 1 rfl) (.k (.g 6 rfl) .n))) (.k (sto .k (.b 2 rfl) (.g 7 rfl) tyW) (.k (asg .k .c) .n)))))))))) [] [8,9] rfl rfl ?_)))
   refine Tr.ret (end_cell_tmp 0 1 rfl rfl rfl tyW)
theorem go_step {op:Int→Int→Int} {zs:List Int} {k:Nat} {z r:Int} (hk:k < zs.length) (h:goOn op (zs.drop k) z=some r):((op z (zs.getD k 0)).natAbs:Int) < top4∧goOn op (zs.drop (k+1)) (op z (zs.getD k 0))=some r:=by
  rw [List.drop_eq_getElem_cons hk] at h
  rw [List.getD_eq_getElem?_getD,List.getElem?_eq_getElem hk]
  unfold goOn at h
  split at h
  · rename_i h2;exact ⟨h2,h⟩
  · cases h
theorem go_end {op:Int→Int→Int} {zs:List Int} {k:Nat} {z r:Int} (hk:zs.length≤k) (h:goOn op (zs.drop k) z=some r):z=r:=by
  rw [List.drop_eq_nil_of_le hk] at h
  exact Option.some.inj h
theorem getD_all {p:Int→Prop} {zs:List Int} (h:∀ z∈zs,p z) {k:Nat} (hk:k < zs.length):p (zs.getD k 0):=by
  rw [List.getD_eq_getElem?_getD,List.getElem?_eq_getElem hk]
  exact h _ (List.getElem_mem hk)
theorem fn_Add {r:Int} {zs:List Int} (hz:∀ z∈zs,(z.natAbs:Int) < top4) (hl:zs.length≤1000) (hr:goOn (·+·) zs 0=some r):FnC Tryz.prog 100 [.vec 5 (zs.map wc)] (.tup [.is (wv r),iv 0]):=by
 refine FnC.of (N:=27) Tryz.func100 rfl rfl (Nat.le_of_ble_eq_true rfl) (fun w0 ok0=>?_)
 refine Tr.rs [] (.k (alc .k zW) (.k (asg .k .c) .n)) [0] [0] rfl rfl ?_
 refine Tr.rs [] (.k (alc .k zW) .n) [0,1] [0] rfl rfl ?_
 refine Tr.seq (Tr.rs [] (.k (mv .k (.b 0 rfl)) (.k (len_ .k rwW (.g 0 rfl) (by rw [List.length_map])) (.k (mv .k .c) .n))) [1,2] [0,1,2] rfl rfl ?_)
 refine Tr.block (?_)
 refine Tr.loop (fun n_ F_=>∃ k:Nat,∃ z:Int,((k≤zs.length∧(z.natAbs:Int) < top4∧goOn (·+·) (zs.drop k) z=some r))∧n_=zs.length - k∧F_=[.b 2 (.is (wv 0)) 96 5,.s 9 (.vec 5 (zs.map wc)),.s 10 (iv ((zs.length:Nat):Int)),.s 11 (iv ((k:Nat):Int)),.b 4 (.is (wv z)) 96 5]) (zs.length - 0) (F0:=[.b 2 (.is (wv 0)) 96 5,.s 9 (.vec 5 (zs.map wc)),.s 10 (iv ((zs.length:Nat):Int)),.s 11 (iv ((0:Nat):Int)),.b 4 (.is (wv 0)) 96 5]) ⟨0,0,⟨Nat.zero_le _,by decide,hr⟩,rfl,rfl⟩ (Sub.all (.cons 0 rfl (.cons 2 rfl (.cons 3 rfl (.cons 4 rfl (.cons 1 rfl .nil)))))) (fun n_ F_ hI=>?_)
 obtain ⟨k,z,hinv,rfl,rfl⟩:=hI
 refine Tr.rs [] (.k (lt_ .k (.b 3 rfl) (.b 2 rfl) rfl) .n) [0,1,2,3,4] [0] rfl rfl ?_
 refine Tr.seq (Tr.cond 5 rfl (fun e12=>?_) (fun e12=>?_))
 ·
  have hk2:k < zs.length:=by have:=of_decide_eq_true e12;omega
  refine Tr.skip (Nx.go (Tr.seq (Tr.block (?_))))
  obtain ⟨hf,hg⟩:=go_step hk2 hinv.2.2
  have hz2:=getD_all hz hk2
  refine Tr.rs [] (.k (idx_ .k rwW (.b 1 rfl) (.b 3 rfl) rfl (at_w hk2)) (.k (ld_at .k (.g 0 rfl) tyW rfl (show _=wv _ from rfl)) (.k (ala .k zW) (.k (sta .k (.g 2 rfl) (.g 1 rfl) tyW) .n)))) [0,1,2,3,4] [3] rfl rfl ?_
  refine Tr.rs [] (.k (ld .k (.b 4 rfl) tyW) (.k (ld .k (.b 5 rfl) tyW) (.k (cal .k Tryz.func128 rfl (fn_wadd hinv.2.1 hz2 hf) (.k (.g 0 rfl) (.k (.g 1 rfl) .n))) (.k (mv .k (.g 2 rfl)) (.k (exx .k (.g 3 rfl) rfl) (.k (exx .k (.g 3 rfl) rfl) (.k (ala .k zW) (.k (sta .k (.g 6 rfl) (.g 4 rfl) tyW) (.k (asg .k (.g 5 rfl)) .n))))))))) [0,1,2,3,4] [7,8] rfl rfl ?_
  refine Tr.seq (Tr.rs [] (.k (mv .k (.b 6 rfl)) (.k (not_ .k (.g 0 rfl)) .n)) [0,1,2,3,4,5] [1] rfl rfl ?_)
  refine Tr.cond 6 rfl nofun (fun _=>?_)
  refine Tr.skip (Nx.go (Tr.reg [(4,1)] (.k (ld .k (.b 5 rfl) tyW) (.k (sto .k (.b 4 rfl) (.g 0 rfl) tyW) .n)) [0,1,2,3] [1] rfl rfl (Nx.bkN (Nx.go (Tr.reg [(3,1)] (.k (add_ .k (.b 3 rfl) .c (wr1 (by omega))) (.k (mv .k (.g 0 rfl)) .n)) [0,1,2,4] [1] rfl rfl (Nx.again (zs.length - (k+1)) (by omega) [.b 2 (.is (wv 0)) 96 5,.s 9 (.vec 5 (zs.map wc)),.s 10 (iv ((zs.length:Nat):Int)),.s 11 (iv (((k+1):Nat):Int)),.b 4 (.is (wv (z+zs.getD k 0))) 96 5] ⟨(k+1),(z+zs.getD k 0),⟨by omega,hf,hg⟩,rfl,rfl⟩ (Sub.all (.cons 0 rfl (.cons 1 rfl (.cons 2 rfl (.cons 4 rfl (.cons 3 rfl .nil))))))))))))
 ·
  have hk2:¬ k < zs.length:=by have:=of_decide_eq_false e12;omega
  refine Tr.exit (Nx.thX (Nx.thX (Nx.bkX (Nx.go (?_)))))
  obtain rfl:=go_end (by omega) hinv.2.2
  refine Tr.rs [(0,1)] (.k (ld .k (.b 4 rfl) tyW) (.k (sto .k (.b 0 rfl) (.g 0 rfl) tyW) (.k (asg .k .c) .n))) [] [1,2] rfl rfl ?_
  refine Tr.ret (end_cell_tmp 0 1 rfl rfl rfl tyW)
theorem fn_Mul {r:Int} {zs:List Int} (hz:∀ z∈zs,(z.natAbs:Int) < top4) (hl:zs.length≤1000) (hr:goOn (· * ·) zs 1=some r):FnC Tryz.prog 96 [.vec 5 (zs.map wc)] (.tup [.is (wv r),iv 0]):=by
 refine FnC.of (N:=36) Tryz.func96 rfl rfl (Nat.le_of_ble_eq_true rfl) (fun w0 ok0=>?_)
 refine Tr.rs [] (.k (alc .k zW) (.k (asg .k .c) .n)) [0] [0] rfl rfl ?_
 refine Tr.rs [] (.k (cal .k Tryz.func68 rfl (fn_Of (n:=1) (by decide) (by decide)) (.k .c .n)) (.k (ala .k zW) (.k (sta .k (.g 1 rfl) (.g 0 rfl) tyW) .n))) [0,1] [2] rfl rfl ?_
 refine Tr.seq (Tr.rs [] (.k (mv .k (.b 0 rfl)) (.k (len_ .k rwW (.g 0 rfl) (by rw [List.length_map])) (.k (mv .k .c) .n))) [1,2] [0,1,2] rfl rfl ?_)
 refine Tr.block (?_)
 refine Tr.loop (fun n_ F_=>∃ k:Nat,∃ z:Int,((k≤zs.length∧(z.natAbs:Int) < top4∧goOn (· * ·) (zs.drop k) z=some r)∧(k=0→z=1))∧n_=zs.length - k∧F_=[.b 2 (.is (wv 0)) 96 5,.s 10 (.vec 5 (zs.map wc)),.s 11 (iv ((zs.length:Nat):Int)),.s 12 (iv ((k:Nat):Int)),.b 4 (.is (wv z)) 96 5]) (zs.length - 0) (F0:=[.b 2 (.is (wv 0)) 96 5,.s 10 (.vec 5 (zs.map wc)),.s 11 (iv ((zs.length:Nat):Int)),.s 12 (iv ((0:Nat):Int)),.b 4 (.is (wv 1)) 96 5]) ⟨0,1,⟨⟨Nat.zero_le _,by decide,hr⟩,fun _=>rfl⟩,rfl,rfl⟩ (Sub.all (.cons 0 rfl (.cons 2 rfl (.cons 3 rfl (.cons 4 rfl (.cons 1 rfl .nil)))))) (fun n_ F_ hI=>?_)
 obtain ⟨k,z,hinv,rfl,rfl⟩:=hI
 refine Tr.rs [] (.k (lt_ .k (.b 3 rfl) (.b 2 rfl) rfl) .n) [0,1,2,3,4] [0] rfl rfl ?_
 refine Tr.seq (Tr.cond 5 rfl (fun e13=>?_) (fun e13=>?_))
 ·
  have hk2:k < zs.length:=by have:=of_decide_eq_true e13;omega
  refine Tr.skip (Nx.go (Tr.seq (Tr.block (?_))))
  obtain ⟨hf,hg⟩:=go_step hk2 hinv.1.2.2
  have hz2:=getD_all hz hk2
  refine Tr.rs [] (.k (mv .k (.b 3 rfl)) (.k (idx_ .k rwW (.b 1 rfl) (.b 3 rfl) rfl (at_w hk2)) (.k (ld_at .k (.g 1 rfl) tyW rfl (show _=wv _ from rfl)) (.k (ala .k zW) (.k (asg .k (.g 0 rfl)) (.k (sta .k (.g 3 rfl) (.g 2 rfl) tyW) .n)))))) [0,1,2,3,4] [4,5] rfl rfl ?_
  refine Tr.rs [] (.k (ld .k (.b 4 rfl) tyW) (.k (ld .k (.b 6 rfl) tyW) (.k (cal .k Tryz.func126 rfl (fn_wmul hinv.1.2.1 hz2 hf) (.k (.g 0 rfl) (.k (.g 1 rfl) .n))) (.k (mv .k (.g 2 rfl)) (.k (exx .k (.g 3 rfl) rfl) (.k (exx .k (.g 3 rfl) rfl) (.k (ala .k zW) (.k (sta .k (.g 6 rfl) (.g 4 rfl) tyW) (.k (asg .k (.g 5 rfl)) .n))))))))) [0,1,2,3,4,5,6] [7,8] rfl rfl ?_
  refine Tr.seq (Tr.rs [] (.k (mv .k (.b 5 rfl)) (.k (eq_ .k (.g 0 rfl) .c rfl) .n)) [0,1,2,3,4,6,7,8] [1] rfl rfl ?_)
  refine Tr.cond 8 rfl (fun e24=>?_) (fun e24=>?_)
  ·
   have hz1:=hinv.2 (by have:=beq_iff_eq.1 e24;omega)
   refine Tr.reg [(6,5)] (.k (faddr .k (.b 5 rfl) rfl fWM) (.k (ldc .k (.g 0 rfl) (.b 5 rfl) tyB) (.k (faddr .k (.b 5 rfl) rfl fWL) (.k (ldf .k (.g 2 rfl) (.b 5 rfl) tyL (aL_ _ _)) (.k (cal .k Tryz.func97 rfl (is_eq (w:=wv (z * zs.getD k 0)) (fn_wof (v:=((zs.getD k 0).natAbs:Int)) (by omega) hz2) (by rw [hz1,Int.one_mul];exact wq_wv rfl (by by_cases h0:zs.getD k 0 < 0<;>simp [h0]<;>omega))) (.k (.g 1 rfl) (.k (.g 3 rfl) .n))) (.k (sto .k (.b 6 rfl) (.g 4 rfl) tyW) .n)))))) [0,1,2,3,4,7] [5] rfl rfl (Nx.go (Tr.seq (Tr.rs [] (.k (mv .k (.b 5 rfl)) (.k (not_ .k (.g 0 rfl)) .n)) [0,1,2,3,4,6] [1] rfl rfl ?_)))
   refine Tr.cond 6 rfl nofun (fun _=>?_)
   refine Tr.skip (Nx.go (Tr.reg [(4,1)] (.k (ld .k (.b 5 rfl) tyW) (.k (sto .k (.b 4 rfl) (.g 0 rfl) tyW) .n)) [0,1,2,3] [1] rfl rfl (Nx.bkN (Nx.go (Tr.reg [(3,1)] (.k (add_ .k (.b 3 rfl) .c (wr1 (by omega))) (.k (mv .k (.g 0 rfl)) .n)) [0,1,2,4] [1] rfl rfl (Nx.again (zs.length - (k+1)) (by omega) [.b 2 (.is (wv 0)) 96 5,.s 10 (.vec 5 (zs.map wc)),.s 11 (iv ((zs.length:Nat):Int)),.s 12 (iv (((k+1):Nat):Int)),.b 4 (.is (wv (z * zs.getD k 0))) 96 5] ⟨(k+1),(z * zs.getD k 0),⟨⟨by omega,hf,hg⟩,fun h=>by omega⟩,rfl,rfl⟩ (Sub.all (.cons 0 rfl (.cons 1 rfl (.cons 2 rfl (.cons 4 rfl (.cons 3 rfl .nil))))))))))))
  ·
   refine Tr.skip (Nx.go (Tr.seq (Tr.rs [] (.k (mv .k (.b 7 rfl)) (.k (not_ .k (.g 0 rfl)) .n)) [0,1,2,3,4,6] [1] rfl rfl ?_)))
   refine Tr.cond 6 rfl nofun (fun _=>?_)
   refine Tr.skip (Nx.go (Tr.reg [(4,1)] (.k (ld .k (.b 5 rfl) tyW) (.k (sto .k (.b 4 rfl) (.g 0 rfl) tyW) .n)) [0,1,2,3] [1] rfl rfl (Nx.bkN (Nx.go (Tr.reg [(3,1)] (.k (add_ .k (.b 3 rfl) .c (wr1 (by omega))) (.k (mv .k (.g 0 rfl)) .n)) [0,1,2,4] [1] rfl rfl (Nx.again (zs.length - (k+1)) (by omega) [.b 2 (.is (wv 0)) 96 5,.s 10 (.vec 5 (zs.map wc)),.s 11 (iv ((zs.length:Nat):Int)),.s 12 (iv (((k+1):Nat):Int)),.b 4 (.is (wv (z * zs.getD k 0))) 96 5] ⟨(k+1),(z * zs.getD k 0),⟨⟨by omega,hf,hg⟩,fun h=>by omega⟩,rfl,rfl⟩ (Sub.all (.cons 0 rfl (.cons 1 rfl (.cons 2 rfl (.cons 4 rfl (.cons 3 rfl .nil))))))))))))
 ·
  have hk2:¬ k < zs.length:=by have:=of_decide_eq_false e13;omega
  refine Tr.exit (Nx.thX (Nx.thX (Nx.bkX (Nx.go (?_)))))
  obtain rfl:=go_end (by omega) hinv.1.2.2
  refine Tr.rs [(0,1)] (.k (ld .k (.b 4 rfl) tyW) (.k (sto .k (.b 0 rfl) (.g 0 rfl) tyW) (.k (asg .k .c) .n))) [] [1,2] rfl rfl ?_
  refine Tr.ret (end_cell_tmp 0 1 rfl rfl rfl tyW)
theorem u64_id {x:Int} (h0:0≤x) (h1:x < 18446744073709551616):IntKind.u64.wrap x=x:=by
 have h:IntKind.u64.wrap x=x % 18446744073709551616:=rfl
 rw [h];omega
theorem or3 {a b c:Nat} (ha:Lm a) (hb:Lm b) (hc:Lm c):Go.bits .or .u64 (Go.bits .or .u64 (a:Int) (b:Int)) (c:Int)=0↔a=0∧b=0∧c=0:=by
 have k:∀ {x y:Nat},Lm x→Lm y→Go.bits .or .u64 (x:Int) (y:Int)=((x ||| y:Nat):Int)∧Lm (x ||| y):=by
  intro x y hx hy
  refine ⟨(bits_nat .u64 64 (by decide) u64_small x y hx hy).2,?_⟩
  exact Nat.or_lt_two_pow (n:=64) hx hy
 rw [(k ha hb).1,(k (k ha hb).2 hc).1]
 constructor
 ·intro h0
  have h1:a ||| b ||| c=0:=by omega
  rw [Nat.or_eq_zero_iff,Nat.or_eq_zero_iff] at h1
  omega
 ·rintro ⟨h0,h1,h2⟩
  obtain rfl:a=0:=by omega
  obtain rfl:b=0:=by omega
  obtain rfl:c=0:=by omega
  rfl
theorem or3_int {a b c:Int} (ha:U a) (hb:U b) (hc:U c):Go.bits .or .u64 (Go.bits .or .u64 a b) c=0↔a=0∧b=0∧c=0:=by
 obtain ⟨x,rfl⟩:=Int.eq_ofNat_of_zero_le ha.1
 obtain ⟨y,rfl⟩:=Int.eq_ofNat_of_zero_le hb.1
 obtain ⟨z,rfl⟩:=Int.eq_ofNat_of_zero_le hc.1
 have h:=or3 (a:=x) (b:=y) (c:=z) (by have:=ha.2;unfold Lm;omega) (by have:=hb.2;unfold Lm;omega) (by have:=hc.2;unfold Lm;omega)
 exact h.trans (by omega)
end Go.Proofs.YtkgagdjogedoiaaGreat

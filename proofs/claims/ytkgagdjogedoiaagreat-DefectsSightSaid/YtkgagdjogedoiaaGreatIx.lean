/- More rules: stores into named blocks, maps, values of functions, rows of slices, and steps that change the words alone. -/
import Derived.Test.YtkgagdjogedoiaaGreatHx
import Derived.Laws.CopyRow
import Derived.DeepKeys4
import Derived.Maps.Own
import Derived.Maps.Views
set_option linter.unusedVariables false
set_option linter.unusedSimpArgs false
namespace Go.Proofs.YtkgagdjogedoiaaGreat.Fx
open Go Go.RowKit Go.Proofs.YtkgagdjogedoiaaGreatW.PrintWords
section
variable {P:Program} {w0:World} {ok0:Nat→Prop} {N:Nat} {R:Rg} {ops:Array Oper} {Q:Exit→Act→World→Prop} {i:Nat} {o:Oper}
theorem does_h {d:Option Tmp} {l g:Nat} {op:Op} {q q':HP} (hh:Pl R ops i o d op true) (hb:R.Nd i (.h l g q))
    (hrun:∀ (ok:Nat→Prop) (a:Act) (W:World),(∀ f,R.Nd i f→f.holds w0.heap.size ok a W)→(∀ k,W.heap.size≤k→ok k)→∀ ob,W.heap[g]?=some ob→q.H ok ob W→¬ ok g→∀ K:Act→World→Prop,
      (∀ v W',W.grownBy W' (some g)→(∃ ob',W'.heap[g]?=some ob'∧q'.H ok ob' W')→K (a.put d v) W')→o.wp P a W K Q):Does P w0 ok0 N R ops Q i o (some (.h l g q')):=by
  intro l0 Φ a W hdN hnd hS hΦ
  obtain ⟨ok,h1,h2,h3⟩:=hS.ex
  have hf:∀ f,R.Nd i f→f.holds w0.heap.size ok a W:=fun f hf=>h3 f (hnd f hf)
  rw [if_pos (hh.wanted hf)]
  have hbF:=hnd _ hb
  obtain ⟨ob,b1,b2,b3,b4⟩:=h3 _ hbF
  refine hrun ok a W hf h2 ob b1 b4 b2 _ (fun v W' e2 hob=>?_)
  obtain ⟨ob',e3,e4⟩:=hob
  refine hS.put_h (d:=d) (v:=v) (row:=some g) (ok:=ok) (ok':=ok) (K:=fun f=>R.Av l0 f∧(∀ t,d=some t→f.on t=false)∧∀ l' g',f.lab=some (l',g')→l'≠l) (Nw:=fun f=>f = .h l g q') (fun t e=>hdN t (hh.dst.trans e)) e2 h3 (fun k e=>by cases e;exact b3) h1
    (fun k hk=>h2 k (Nat.le_trans e2.size hk)) (fun k hk _=>⟨hk,fun e=>by cases e;exact b2 hk⟩)
    (fun f hf=>⟨hf.1,hf.2.1,fun t ht g' hg=>⟨fun e=>by cases e;exact hS.farh _ f l g t hbF hf.1 rfl ht hg,(box_lt ht (h3 f hf.1) g' hg).2.2⟩,fun l' g' e=>⟨fun e'=>by cases e';exact hS.farl _ f l g l' g hbF hf.1 rfl e (Ne.symm (hf.2.2 l' g e)) rfl,(lab_lt e (h3 f hf.1)).2.2⟩⟩)
    (fun f hf=>?_)
    (fun f hf=>?_)
  · subst hf
    refine ⟨⟨ob',e3,b2,b3,e4⟩,rfl,fun l' g' e=>?_⟩
    cases e
    refine ⟨fun f' hf' l2 g2 e=>?_,fun f' t' hf' ht'=>hS.farh _ f' l g t' hbF hf'.1 rfl ht',fun f' l2 g2 hf' e hne=>?_⟩
    · subst hf';cases e;rfl
    · exact fun e2=>hS.farl _ f' l g l2 g2 hbF hf'.1 rfl e (Ne.symm hne) e2.symm
  · rcases hΦ f hf with h|⟨h,hu⟩
    · cases h;exact .inl rfl
    · exact .inr ⟨h,fun t e=>undoes_on (hh.dst.trans e) hu,fun l' g' e=>undoes_lab rfl e hu⟩
theorem own_cur {T:TypeId} {sz cap n:Nat} {xs:List Value} {ok:Nat→Prop} {ob:Obj} {W:World} (h:(HP.own T sz cap n xs).H ok ob W):∃ cur,ob = .cells cur T (0,0)∧xs.length≤cur.size∧cur.toList.take xs.length=xs:=by
  obtain ⟨cur,e,h1,h2,h3,h4,h5⟩:=h
  refine ⟨cur,e,?_,by rw [h4];exact h5⟩
  rw [h4,h3];exact Nat.mul_le_mul_right _ h1
theorem take_store {α:Type} {cur xs vs:List α} {off:Nat} (h:cur.take xs.length=xs) (hfit:off+vs.length≤xs.length) (hl:xs.length≤cur.length) :
    (cur.take off++vs++cur.drop (off+vs.length)).take xs.length=xs.take off++vs++xs.drop (off+vs.length):=by
  apply List.ext_getElem?
  intro j
  rw [List.getElem?_take]
  split
  · rename_i hj
    have hx:xs[j]?=cur[j]?:=by rw [← h,List.getElem?_take,if_pos hj]
    simp only [List.getElem?_append,List.length_append,List.length_take,List.getElem?_take,List.getElem?_drop,show min off cur.length=off by omega,show min off xs.length=off by omega]
    by_cases h1:j < off
    · simp [h1,show j < off+vs.length by omega,hx]
    · by_cases h2:j < off+vs.length
      · simp [h1,h2]
      · simp [h1,h2,show off+vs.length+(j - (off+vs.length))=j by omega,hx]
  · rename_i hj
    symm
    rw [List.getElem?_eq_none]
    simp only [List.length_append,List.length_take,List.length_drop]
    omega
theorem sth {t:Tmp} {y:Operand} {T E:TypeId} {l g off sz cap n m:Nat} {xs xs':List Value} {v:Value} (hh:Pl R ops i o none (.store T (.tmp t) y) true) (hx:Vl R i (.tmp t) (.is (ptr g off))) (hb:R.Nd i (.h l g (HP.own E sz cap n xs)))
    (hy:Vl R i y (.is v)) (hT:(P.info? T).map (·.size)=some m) (hm:v.cells.size=m) (hfit:off+m≤xs.length) (h1:v.cells.all (·.oneCell')=true) (he:xs.take off++v.cells.toList++xs.drop (off+m)=xs') :
    Does P w0 ok0 N R ops Q i o (some (.h l g (HP.own E sz cap n xs'))) :=
  does_h hh hb fun ok a W hf hk ob hob hq hg K hK=>by
    subst hm
    have hq':=hq
    obtain ⟨cur,rfl,hlen,htake⟩:=own_cur hq
    obtain ⟨cur',e0,q1,q2,q3,q4,q5⟩:=hq'
    cases e0
    have ex:a.eval (.tmp t)=ptr g off:=hx.H hf
    have ey:a.eval y=v:=hy.H hf
    have hvl:v.cells.toList.length=v.cells.size:=Array.length_toList
    have hst:=run_storeCells_at P g off E v.cells.toList 0 cur W hob (by rw [hvl];omega) (fun u hu=>(Array.all_eq_true_iff_forall_mem.1 h1) u (by simpa using hu))
    obtain ⟨it,hit,his⟩:∃ it,P.info? T=some it∧it.size=v.cells.size:=by
      cases h:P.info? T with
      | none=>rw [h] at hT;cases hT
      | some it=>rw [h] at hT;exact ⟨it,rfl,by simpa using hT⟩
    have hst2:(storeVar T ⟨g,off,none⟩ v).run P W = .ok () (W.setRow g (cur.toList.take off++v.cells.toList++cur.toList.drop (off+v.cells.toList.length)).toArray):=by
      simp [storeVar,sizeOf,typeInfo,hit,his] at hst ⊢
      exact hst
    have hrow:=setRow_heap W g cur (cur.toList.take off++v.cells.toList++cur.toList.drop (off+v.cells.toList.length)).toArray E (0,0) hob
    unfold Oper.wp execOp
    simp only [hh.op,ex,ey,Instr.storeAt,Instr.sureAddr,Sem.run_bind,Sem.run_pure,Result.andThen_ok,hst2]
    show K (a.put o.dst undef) _
    rw [hh.dst]
    refine hK _ _ ⟨rfl,rfl,rfl,by simp,fun k _ hne=>setRow_other W g k _ (fun e=>hne (by rw [e]))⟩ ⟨_,hrow,_,rfl,q1,q2,?_,?_,?_⟩
    · rw [← q3]
      simp only [List.size_toArray,List.length_append,List.length_take,List.length_drop,hvl,Array.length_toList]
      omega
    · rw [← he,← q4]
      simp only [List.length_append,List.length_take,List.length_drop,hvl]
      omega
    · rw [← q4]
      show List.take xs.length (_:List Value)=xs'
      rw [take_store htake (by rw [hvl];exact hfit) (by rw [Array.length_toList];exact hlen),hvl,he]
theorem sth1 {t:Tmp} {y:Operand} {T E:TypeId} {l g off sz cap n:Nat} {xs xs':List Value} {v:Value} (hh:Pl R ops i o none (.store T (.tmp t) y) true) (hx:Vl R i (.tmp t) (.is (ptr g off))) (hb:R.Nd i (.h l g (HP.own E sz cap n xs)))
    (hy:Vl R i y (.is v)) (hT:(P.info? T).map (·.size)=some 1) (hc:v.cells=#[v]) (hfit:off < xs.length) (h1:v.oneCell'=true) (he:xs.set off v=xs'):Does P w0 ok0 N R ops Q i o (some (.h l g (HP.own E sz cap n xs'))) :=
  sth hh hx hb hy hT (by rw [hc];rfl) (by omega) (by rw [hc];simpa using h1) (by
    rw [← he,hc,List.set_eq_take_append_cons_drop,if_pos hfit]
    simp)
theorem ldna {d:Tmp} {x:Operand} {T E:TypeId} {l g off sz cap n m:Nat} {xs:List Value} {v:Value} (hh:Pl R ops i o (some d) (.load T x) true) (hx:Vl R i x (.is (ptr g off))) (hb:R.Nd i (.h l g (HP.own E sz cap n xs))) (hT:AggTy P T m)
    (cs:List Value) (hm:cs.length=m) (hc:∀ j u,cs[j]?=some u→xs[off+j]?=some u) (hv:Value.agg cs.toArray=v):Does P w0 ok0 N R ops Q i o (some (.s d (.is v))) :=
  pure_ hh fun ok a W hf=>by
    subst hm
    obtain ⟨ob,h1,_,h3,hq⟩:=hf _ hb
    obtain ⟨cur,rfl,hlen,htake⟩:=own_cur hq
    obtain ⟨dd,hu,hdd⟩:=hT.u
    have hev:a.eval x=ptr g off:=hx.H hf
    have hl:(loadCells ⟨g,off,none⟩ cs.length).run P W = .ok cs.toArray W:=run_loadCells_list (P:=P) W _ cs (fun j u hu=>by
      have hadd:(⟨g,off,none⟩:Addr).add j=⟨g,off+j,none⟩:=by unfold Addr.add;split<;>simp_all
      rw [hadd,cell_of_row W g (off+j) cur E (0,0) h1]
      have:=hc j u hu
      rw [← htake,List.getElem?_take] at this
      split at this
      · simpa using this
      · cases this)
    have hagg:(isAgg T).run P W = .ok true W:=by
      unfold isAgg
      rw [Sem.run_bind,run_underlying hu W]
      cases dd<;>simp_all
    obtain ⟨ie,hie,his⟩:∃ ie,P.info? T=some ie∧ie.size=cs.length:=by
      have hs:=hT.i
      cases h:P.info? T with
      | none=>rw [h] at hs;cases hs
      | some ie=>rw [h] at hs;exact ⟨ie,rfl,by simpa using hs⟩
    unfold execOp
    simp only [hh.op,hev,Instr.loadAt,Instr.sureAddr,Sem.run_bind,Sem.run_pure,Result.andThen_ok,loadVar,hagg,if_true,sizeOf,typeInfo,program,Sem.run,hie,his,hl,hv]
structure ArrTy (P:Program) (T E:TypeId) (n:Nat):Prop where
  u:P.underlying T=some (.array n E)
  i:(P.info? E).map (·.size)=some 1
theorem run_indexAt_arr {T E:TypeId} {n k:Nat} {kk:IntKind} {g off:Nat} (hT:ArrTy P T E n) (hk:k < n) (W:World):(Instr.indexAt T (ptr g off) (.int kk k)).run P W = .ok (ptr g (off+k)) W:=by
  obtain ⟨ie,hie,his⟩:∃ ie,P.info? E=some ie∧ie.size=1:=by
    have hs:=hT.i
    cases h:P.info? E with
    | none=>rw [h] at hs;cases hs
    | some ie=>rw [h] at hs;exact ⟨ie,rfl,by simpa using hs⟩
  have hadd:(⟨g,off,none⟩:Addr).add k=⟨g,off+k,none⟩:=by unfold Addr.add;split<;>simp_all
  have h1:(0:Int)≤(k:Int)∧(k:Int) < (n:Nat):=⟨by omega,by omega⟩
  simp only [Instr.indexAt,asIntOf,Instr.sureAddr,Sem.run_bind,Sem.run_pure,Result.andThen_ok,run_underlying hT.u W,if_pos h1,sizeOf,typeInfo,program,Sem.run,hie,his]
  simp [his,hadd]
theorem baddr {d u:Tmp} {q:SP} {T T' E:TypeId} {n n':Nat} {kk:IntKind} {c:Int} (k:Nat) (hh:Pl R ops i o (some d) (.indexAddr T (.tmp u) (.const (.int kk c))) true) (hb:R.Nd i (.b u q T' n')) (hne:(u==d)=false)
    (hT:ArrTy P T E n) (hc:c=k) (hk:k < n):Does P w0 ok0 N R ops Q i o (some (.f d u k)):=by
  intro l Φ a W hdN hnd hS hΦ
  obtain ⟨ok,h1,h2,h3⟩:=hS.ex
  have hf:∀ f,R.Nd i f→f.holds w0.heap.size ok a W:=fun f hf=>h3 f (hnd f hf)
  rw [if_pos (hh.wanted hf)]
  obtain ⟨g,cs,e1,_,_,e4,_,_⟩:=hf _ hb
  have e:(execOp a.eval o).run P W = .ok (.value (ptr g k)) W:=by
    have hev:a.eval (.tmp u)=ptr g 0:=e1
    have e2:a.eval (.const (.int kk c)) = .int kk k:=by rw [← hc];rfl
    unfold execOp
    simp only [hh.op,hev,e2,Sem.run_bind,run_indexAt_arr hT hk W,Result.andThen_ok,Nat.zero_add]
    rfl
  unfold Oper.wp
  rw [e]
  show St w0 ok0 N Φ (a.put o.dst (ptr g k)) W
  rw [hh.dst]
  have hne':u≠d:=by simpa using hne
  have keep:∀ f:Fact,f.on d=false→∀ t,f.on t=true→(a.put (some d) (ptr g k)).tmps.getD t undef=a.tmps.getD t undef:=fun f hd' t ht=>getD_put (fun e=>by subst e;rw [ht] at hd';cases hd')
  have old:∀ f,Φ f→f = .f d u k∨(R.Av l f∧f.on d=false):=fun f hf=>by
    rcases hΦ f hf with h|⟨h,hu⟩
    · cases h;exact .inl rfl
    · exact .inr ⟨h,undoes_on hh.dst hu⟩
  refine ⟨hS.hb,hS.h0,by rw [defers_put];exact hS.hd,by rw [size_put];exact hS.hn,⟨ok,h1,h2,fun f hΦf=>?_⟩,fun f f' t t' hΦf hΦf' ee ee' ne=>?_,fun f f' l g t hΦf hΦf' ee ee'=>?_,fun f f' l g l' g' hΦf hΦf' ee ee' ne=>?_⟩
  · rcases old f hΦf with rfl|⟨hA,hd'⟩
    · exact ⟨g,by rw [getD_put hne',e1];rfl,getD_put_self (by rw [hS.hn];exact hdN d hh.dst)⟩
    · exact (h3 f hA).later (Below.refl _ _) (fun k hk _=>hk) (fun k hk _=>hk) (keep f hd')
  · rcases old f hΦf with rfl|⟨hA,hd1⟩
    · cases ee
    rcases old f' hΦf' with rfl|⟨hA',hd2⟩
    · cases ee'
    rw [keep f hd1 t (box_on ee),keep f' hd2 t' (box_on ee')]
    exact hS.far f f' t t' hA hA' ee ee' ne
  · rcases old f hΦf with rfl|⟨hA,hd1⟩
    · cases ee
    rcases old f' hΦf' with rfl|⟨hA',hd2⟩
    · cases ee'
    rw [keep f' hd2 t (box_on ee')]
    exact hS.farh f f' l g t hA hA' ee ee'
  · rcases old f hΦf with rfl|⟨hA,hd1⟩
    · cases ee
    rcases old f' hΦf' with rfl|⟨hA',hd2⟩
    · cases ee'
    exact hS.farl f f' l g l' g' hA hA' ee ee' ne
theorem cal_h {d:Tmp} {f:FuncId} {fn:Func} {l g:Nat} {q q':HP} {xs:List Operand} {ts:Array TypeId} {vs:List Value} (hh:Pl R ops i o (some d) (.call { callee := .value (.func f),args:=xs.toArray,argTypes:=ts }) true) (hfn:P.funcs[f]?=some fn) (hbody:(fn.name == "runtime.NumGoroutine" || fn.body.isNone)=false)
    (hb:R.Nd i (.h l g q)) (hx:Vis R i xs vs)
    (hc:∀ (ok:Nat→Prop) (W:World) (ob:Obj),W.heap[g]?=some ob→q.H ok ob W→Calls P f vs.toArray W fun e W'=>∃ r,e = .returned r∧W.grownBy W' (some g)∧∃ ob',W'.heap[g]?=some ob'∧q'.H ok ob' W'):Does P w0 ok0 N R ops Q i o (some (.h l g q')) :=
  does_h hh hb fun ok a W hf hk ob hob hq hg K hK=>by
    have e:(execOp a.eval o).run P W = .ok (.enter f (xs.map a.eval).toArray) W:=by
      have e1:execOp a.eval o=callFunc f (xs.map a.eval).toArray:=by
        unfold execOp
        simp only [hh.op]
        show callFunc f (#[]++xs.toArray.map a.eval++#[])=_
        simp
      rw [e1]
      unfold callFunc
      have hp:program.run P W = .ok P W:=rfl
      rw [Sem.run_bind,hp,Result.andThen_ok,hfn]
      have hb1:(fn.name == "runtime.NumGoroutine")=false:=by revert hbody;cases (fn.name == "runtime.NumGoroutine")<;>simp
      have hb2:fn.body.isNone=false:=by revert hbody;cases fn.body.isNone<;>simp
      simp only [hb1,hb2,Bool.false_eq_true,if_false]
      rfl
    unfold Oper.wp
    rw [e,Oper.upon_enter,hx.H hf]
    refine (hc ok W ob hob hq).mono ?_
    rintro e W' ⟨r,rfl,hr,hb⟩
    rw [hh.dst]
    exact hK r W' hr hb
end
/-! ### Maps whose keys are pairs of numbers -/
structure KeyTy (P:Program) (k:TypeId):Prop where
  K:Go.Maps.Keyed P k
  hk:∀ a b:Int,(Lit.int .i64 a).wf=true→(Lit.int .i64 b).wf=true→∃ l,keyOf P k (.agg #[.int .i64 a,.int .i64 b])=some l
def pcv (p:Int × Int):Value := .agg #[.int .i64 p.1,.int .i64 p.2]
def HP.pset (P:Program) (k e:TypeId) (n:Nat) (S:List (Int × Int)):HP :=
  ⟨fun _ ob _=>∃ es clock,ob = .map es clock∧Go.WideElems.Fit P k (plainElem (H:=Nat) P e) es clock∧es.size≤n ∧
    ∀ p l,keyOf P k (pcv p)=some l→∀ zd,(DataW.map ((es.toList.map (Go.WideElems.rg P k (plainElem (H:=Nat) P e))).foldr DataW.insert [])).atKey l zd=if p∈S then .lit (.bool true) else zd,fun _ h=>h,fun h=>h,fun h _=>h⟩
theorem pset_own {P:Program} {k e:TypeId} {n:Nat} {S:List (Int × Int)} {ok:Nat→Prop} {ob:Obj} {W:World} {g:Nat} (h:(HP.pset P k e n S).H ok ob W) (hg:W.heap[g]?=some ob) :
    ∃ D,W.ownsMap P k (plainElem (H:=Nat) P e) g n D∧∀ p l,keyOf P k (pcv p)=some l→∀ zd,D.atKey l zd=if p∈S then .lit (.bool true) else zd:=by
  obtain ⟨es,clock,rfl,h1,h2,h3⟩:=h
  exact ⟨_,⟨es,clock,hg,h1,h2,rfl⟩,h3⟩
theorem own_pset {P:Program} {k e:TypeId} {n:Nat} {S:List (Int × Int)} {ok:Nat→Prop} {W:World} {g:Nat} {D:DataW Nat} (h:W.ownsMap P k (plainElem (H:=Nat) P e) g n D) (hD:∀ p l,keyOf P k (pcv p)=some l→∀ zd,D.atKey l zd=if p∈S then .lit (.bool true) else zd) :
    ∃ ob,W.heap[g]?=some ob∧(HP.pset P k e n S).H ok ob W:=by
  obtain ⟨es,clock,h1,h2,h3,rfl⟩:=h
  exact ⟨_,h1,es,clock,rfl,h2,h3,hD⟩
section
variable {P:Program} {w0:World} {ok0:Nat→Prop} {N:Nat} {ops:Array Oper} {Q:Exit→Act→World→Prop} {F F1:List Fact} {i:Nat} {o:Oper} {r:List Oper}
theorem Go.mkmap {d:Tmp} {T k e:TypeId} (l:Nat) (hh:Pl (Rg.of F) ops i o (some d) (.makeMap T none) true) (hT:P.underlying T=some (.map k e))
    (ks:List Nat) (hd:dstOk N o=true) (hp:pickL F o l ks=some F1) (t:∀ g,Go P w0 ok0 N ops Q (i+1) r (.s d (.is (.map (some g))) :: .h l g (HP.pset P k e 0 []) :: F1)):Go P w0 ok0 N ops Q i (o :: r) F:=by
  refine Go.new (α:=Nat) (p:=fun g => .is (.map (some g))) (g:=fun g=>g) (q:=fun g=>HP.pset P k e 0 []) hh ks hd hp (fun ok a W hf hB=>?_) t
  obtain ⟨ob,r3,r4⟩:=own_pset (S:=[]) (ok:=fun k=>ok k∧k≠W.heap.size) (World.ownsMap_made W P k (plainElem (H:=Nat) P e)) (fun p l _ zd=>by simp [DataW.atKey])
  refine ⟨W.heap.size,_,W.alloc (.map #[] 0),?_,World.grownBy_alloc W _ none,Nat.le_refl _,by simp,rfl,ob,r3,r4⟩
  unfold execOp
  simp only [hh.op,Instr.makeMap,Option.map_none,Sem.run_bind,run_underlying hT,Result.andThen_ok]
  simp [run_newObj_alloc]
end
section
variable {P:Program} {w0:World} {ok0:Nat→Prop} {N:Nat} {R:Rg} {ops:Array Oper} {Q:Exit→Act→World→Prop} {i:Nat} {o:Oper}
theorem lkp {d:Tmp} {x y:Operand} {T k e:TypeId} {l g n:Nat} {S:List (Int × Int)} {a b:Int} {r:Bool} (hh:Pl R ops i o (some d) (.lookup T x y false) true) (hT:P.underlying T=some (.map k e)) (hK:KeyTy P k) (he:P.underlying e=some .bool) (hz:∀ W,(zeroValue e).run P W = .ok (.bool false) W)
    (hx:Vl R i x (.is (.map (some g)))) (hb:R.Nd i (.h l g (HP.pset P k e n S))) (hy:Vl R i y (.is (.agg #[.int .i64 a,.int .i64 b]))) (wa:(Lit.int .i64 a).wf=true) (wb:(Lit.int .i64 b).wf=true) (hr:decide ((a,b)∈S)=r):Does P w0 ok0 N R ops Q i o (some (.s d (bb r))) :=
  pure_ hh fun ok a' W hf=>by
    obtain ⟨ob,h1,_,h3,hq⟩:=hf _ hb
    obtain ⟨D,hD,hat⟩:=pset_own hq h1
    obtain ⟨kl,hkl⟩:=hK.hk a b wa wb
    obtain ⟨v,ps,hrun,hv⟩:=hD.lookup hK.K hT (hz W) (plainElem_bool he false) hkl
    have ex:a'.eval x = .map (some g):=hx.H hf
    have ey:a'.eval y = .agg #[.int .i64 a,.int .i64 b]:=hy.H hf
    rw [hat (a,b) kl hkl,show (if (a,b)∈S then DataW.lit (.bool true) else DataW.lit (.bool false))=(DataW.lit (.bool (decide ((a,b)∈S))):DataW Nat) by by_cases h:(a,b)∈S<;>simp [h]] at hv
    have ev:v = .bool r:=by
      unfold plainElem at hv
      rw [he] at hv
      cases v<;>simp at hv
      rw [← hr,← hv.1]
    unfold execOp
    simp only [hh.op,ex,ey,Sem.run_bind,hrun,Result.andThen_ok,ev]
    rfl
theorem mupd {x y z:Operand} {T k e:TypeId} {l g n:Nat} {S:List (Int × Int)} {a b:Int} (hh:Pl R ops i o none (.mapUpdate T x y z) true) (hT:P.underlying T=some (.map k e)) (hK:KeyTy P k) (he:P.underlying e=some .bool)
    (hx:Vl R i x (.is (.map (some g)))) (hb:R.Nd i (.h l g (HP.pset P k e n S))) (hy:Vl R i y (.is (.agg #[.int .i64 a,.int .i64 b]))) (hz:Vl R i z (bb true)) (wa:(Lit.int .i64 a).wf=true) (wb:(Lit.int .i64 b).wf=true) (hn:n < maxLen) {S':List (Int × Int)} (hS:(a,b) :: S=S') :
    Does P w0 ok0 N R ops Q i o (some (.h l g (HP.pset P k e (n+1) S'))):=hS ▸
  does_h hh hb fun ok a' W hf hk ob hob hq hg K hKK=>by
    obtain ⟨D,hD,hat⟩:=pset_own hq hob
    obtain ⟨kl,hkl⟩:=hK.hk a b wa wb
    obtain ⟨w',hrun,r1,r2⟩:=hD.update hK.K hT hn hkl (plainElem_bool he true)
    have ex:a'.eval x = .map (some g):=hx.H hf
    have ey:a'.eval y = .agg #[.int .i64 a,.int .i64 b]:=hy.H hf
    have ez:a'.eval z = .bool true:=hz.H hf
    have hIs:Go.Maps.IsMap D:=by obtain ⟨es,clock,_,_,_,rfl⟩:=hD;exact ⟨_,rfl⟩
    obtain ⟨ob',e1,e2⟩:=own_pset (S:=(a,b) :: S) (ok:=ok) r1 (fun p l' hl' zd=>by
      by_cases h:p=(a,b)
      · subst h
        have:l'=kl:=by rw [show pcv (a,b) = .agg #[.int .i64 a,.int .i64 b] from rfl,hkl] at hl';cases hl';rfl
        subst this
        rw [Go.Maps.atKey_put_same hIs (hK.K.key hkl)]
        simp
      · have hne:l'≠kl:=fun e=>h (by
          subst e
          have:=hK.K.inj hl' hkl
          unfold pcv at this
          simp only [Value.agg.injEq] at this
          simp at this
          exact Prod.ext this.1 this.2)
        rw [Go.Maps.atKey_put_other hne,hat p l' hl']
        simp [h])
    unfold Oper.wp execOp
    simp only [hh.op,ex,ey,ez,Sem.run_bind,hrun,Result.andThen_ok]
    show K (a'.put o.dst undef) _
    rw [hh.dst]
    exact hKK _ _ r2 ⟨ob',e1,e2⟩
end
section
variable {P:Program} {w0:World} {ok0:Nat→Prop} {N:Nat} {F:List Fact} {c:Code} {Q:Exit→Act→World→Prop}
theorem St.ghost {a:Act} {W:World} (hS:St w0 ok0 N (·∈F) a W) {F':List Fact} (h:∀ ok:Nat→Prop,(∀ f∈F,f.holds w0.heap.size ok a W)→∀ f∈F',f∈F∨(f.box=none∧f.lab=none∧f.holds w0.heap.size ok a W)):St w0 ok0 N (·∈F') a W:=by
  obtain ⟨ok,h1,h2,h3⟩:=hS.ex
  have hh:=h ok h3
  refine ⟨hS.hb,hS.h0,hS.hd,hS.hn,⟨ok,h1,h2,fun f hf=>?_⟩,fun f f' t t' hf hf' e e'=>?_,fun f f' l g t hf hf' e e'=>?_,fun f f' l g l' g' hf hf' e e'=>?_⟩
  · rcases hh f hf with h|h
    · exact h3 f h
    · exact h.2.2
  · rcases hh f hf with h|⟨h,_⟩
    · rcases hh f' hf' with h'|⟨h',_⟩
      · exact hS.far f f' t t' h h' e e'
      · rw [h'] at e';cases e'
    · rw [h] at e;cases e
  · rcases hh f hf with h|⟨_,h,_⟩
    · rcases hh f' hf' with h'|⟨h',_⟩
      · exact hS.farh f f' l g t h h' e e'
      · rw [h'] at e';cases e'
    · rw [h] at e;cases e
  · rcases hh f hf with h|⟨_,h,_⟩
    · rcases hh f' hf' with h'|⟨_,h',_⟩
      · exact hS.farl f f' l g l' g' h h' e e'
      · rw [h'] at e';cases e'
    · rw [h] at e;cases e
theorem Tr.more {f':Fact} (hb:f'.box=none) (hl:f'.lab=none) (h:∀ (ok:Nat→Prop) (a:Act) (W:World),(∀ f∈F,f.holds w0.heap.size ok a W)→f'.holds w0.heap.size ok a W) (t:Tr P w0 ok0 N (f' :: F) c Q):Tr P w0 ok0 N F c Q:=fun a W hS =>
  t a W (hS.ghost fun ok h3 f hf=>by
    rcases List.mem_cons.1 hf with rfl|hf
    · exact .inr ⟨hb,hl,h ok a W h3⟩
    · exact .inl hf)
theorem Tr.name {t:Tmp} {sz:Nat} {rows:List (List Value)} (k:Nat) (hk:F[k]?=some (.s t (.vec sz rows))) (h:∀ A cap,Tr P w0 ok0 N (.s t (.is (.slice A rows.length cap)) :: .v [.slice A rows.length cap] [.vec sz rows] :: F) c Q):Tr P w0 ok0 N F c Q:=fun a W hS=>by
  obtain ⟨ok,h1,h2,h3⟩:=hS.ex
  have hm:=h3 _ (List.mem_of_getElem? hk)
  obtain ⟨A,cap,e⟩:=SP.vec_val (show (SP.vec sz rows).H ok (a.tmps.getD t undef) W from hm)
  refine h A cap a W ?_
  have hm':(SP.vec sz rows).H ok (a.tmps.getD t undef) W:=hm
  rw [e] at hm'
  refine ⟨hS.hb,hS.h0,hS.hd,hS.hn,⟨ok,h1,h2,fun f hf=>?_⟩,fun f f' t t' hf hf' e e'=>?_,fun f f' l g t hf hf' e e'=>?_,fun f f' l g l' g' hf hf' e e'=>?_⟩
  · rcases List.mem_cons.1 hf with rfl|hf
    · exact e
    rcases List.mem_cons.1 hf with rfl|hf
    · exact ⟨hm',trivial⟩
    exact h3 f hf
  all_goals
    (rcases List.mem_cons.1 hf with rfl|hf
     · cases e
     rcases List.mem_cons.1 hf with rfl|hf
     · cases e
     rcases List.mem_cons.1 hf' with rfl|hf'
     · cases e'
     rcases List.mem_cons.1 hf' with rfl|hf'
     · cases e')
  · exact hS.far f f' _ _ hf hf' e e'
  · exact hS.farh f f' _ _ _ hf hf' e e'
  · exact hS.farl f f' _ _ _ _ hf hf' e e'
theorem owns_vec {B:Nat} {ok:Nat→Prop} {W:World} {sz:Nat} {E:TypeId} {rows:List (List Value)} {v:Value} (hrow:W.ownsRow B E sz v rows.length rows.flatten) (hsz:∀ r∈rows,r.length=sz):(SP.vec sz rows).H (fun k=>ok k∨v.ownBlock=some k) v W:=by
  rcases hrow.2 with ⟨e,en⟩|⟨g,cap,cur,e,hg,hb,hc,hm,hcs,htk⟩
  · rw [e]
    obtain rfl:rows=[]:=List.eq_nil_of_length_eq_zero en
    exact ⟨none,0,rfl,Nat.le_refl _,fun W' _ h=>absurd h (Nat.lt_irrefl _)⟩
  · refine ⟨some ⟨g,0,none⟩,cap,e,hc,fun W' hW' h=>⟨⟨g,0,none⟩,rfl,fun j c hj=>⟨hsz c (List.mem_of_getElem? hj),fun k u hu=>?_⟩⟩⟩
    have hb':W'.heap[g]?=some (.cells cur E (0,0)):=(hW' g (.inr (by rw [e];rfl)) (Array.getElem?_eq_some_iff.1 hb).1).trans hb
    have hf:=flat_get rows hsz j c hj k u hu
    have hadd:(⟨g,0,none⟩:Addr).add (j * sz+k)=⟨g,j * sz+k,none⟩:=by unfold Addr.add;split<;>simp_all
    rw [hadd,cell_of_row W' g (j * sz+k) cur E (0,0) hb']
    rw [← htk,List.getElem?_take] at hf
    split at hf
    · simpa using hf
    · cases hf
def pickB (F:List Fact) (b:Fact→Bool):List Nat→Option (List Fact)
  | []=>some []
  | k :: ks=>match F[k]? with
    | some f=>match b f with
      | true=>none
      | false=>match pickB F b ks with
        | some r=>some (f :: r)
        | none=>none
    | none=>none
theorem pickB_mem {b:Fact→Bool}:∀ {ks:List Nat} {G:List Fact},pickB F b ks=some G→∀ f∈G,f∈F∧b f=false
  | [],G,h=>by unfold pickB at h;cases h;intro f hf;cases hf
  | k :: ks,G,h=>by
    unfold pickB at h
    split at h
    · rename_i f0 hk
      split at h
      · cases h
      · rename_i hu
        split at h
        · rename_i r hr
          cases h
          intro f hf
          rcases List.mem_cons.1 hf with rfl|hf
          · exact ⟨List.mem_of_getElem? hk,hu⟩
          · exact pickB_mem hr f hf
        · cases h
    · cases h
theorem St.freeze {a:Act} {W:World} (hS:St w0 ok0 N (·∈F) a W) {F':List Fact} {g:Nat} (hg:w0.heap.size≤g)
    (h:∀ ok:Nat→Prop,(∀ f∈F,f.holds w0.heap.size ok a W)→∀ f∈F',(f∈F∧(∀ t,f.box=some t→blk (a.tmps.getD t undef)≠some g)∧∀ l g',f.lab=some (l,g')→g'≠g)∨(f.box=none∧f.lab=none∧f.holds w0.heap.size (fun k=>ok k∨k=g) a W)):St w0 ok0 N (·∈F') a W:=by
  obtain ⟨ok,h1,h2,h3⟩:=hS.ex
  have hh:=h ok h3
  refine ⟨hS.hb,hS.h0,hS.hd,hS.hn,⟨fun k=>ok k∨k=g,fun k hk=>?_,fun k hk => .inl (h2 k hk),fun f hf=>?_⟩,fun f f' t t' hf hf' e e'=>?_,fun f f' l g t hf hf' e e'=>?_,fun f f' l g l' g' hf hf' e e'=>?_⟩
  · rcases hk with hk|rfl
    · exact h1 k hk
    · exact hS.h0 _ hg
  · rcases hh f hf with ⟨hF,hbx,hlb⟩|h
    · have hm:∀ k,ok k→ok k∨k=g:=fun k hk => .inl hk
      have:=h3 f hF
      cases f with
      | s t p=>exact p.mono hm this
      | b t q T n=>obtain ⟨g',cs,e1,e2,e3,e4,e5,e6⟩:=this;exact ⟨g',cs,e1,fun h=>h.elim e2 (fun e=>hbx t rfl (by rw [e1,e];rfl)),e3,e4,e5,q.mono hm e6⟩
      | a t T n=>obtain ⟨g',cs,e1,e2,e3,e4,e5⟩:=this;exact ⟨g',cs,e1,fun h=>h.elim e2 (fun e=>hbx t rfl (by rw [e1,e];rfl)),e3,e4,e5⟩
      | f t u off=>exact this
      | al t u=>exact this
      | o t sz T rows =>
        have hh':Owns _ _ _ _ _ _ _:=this
        exact ⟨hh'.row,fun g' hg' h=>h.elim (hh'.fr g' hg') (fun e=>hbx t rfl (hh'.blk.trans (hg'.trans (by rw [e])))),hh'.sz⟩
      | h l g' q=>obtain ⟨ob,e1,e2,e3,e4⟩:=this;exact ⟨ob,e1,fun h=>h.elim e2 (hlb l g' rfl),e3,q.mono hm e4⟩
      | v vs ps=>exact Args.mono hm this
    · exact h.2.2
  · rcases hh f hf with h|⟨h,_⟩
    · rcases hh f' hf' with h'|⟨h',_⟩
      · exact hS.far f f' t t' h.1 h'.1 e e'
      · rw [h'] at e';cases e'
    · rw [h] at e;cases e
  · rcases hh f hf with h|⟨_,h,_⟩
    · rcases hh f' hf' with h'|⟨h',_⟩
      · exact hS.farh f f' l g t h.1 h'.1 e e'
      · rw [h'] at e';cases e'
    · rw [h] at e;cases e
  · rcases hh f hf with h|⟨_,h,_⟩
    · rcases hh f' hf' with h'|⟨_,h',_⟩
      · exact hS.farl f f' l g l' g' h.1 h'.1 e e'
      · rw [h'] at e';cases e'
    · rw [h] at e;cases e
theorem Tr.frz {F1:List Fact} {t:Tmp} {l g n cap sz:Nat} {E:TypeId} {xs:List Value} (rows:List (List Value)) (k j:Nat) (ks:List Nat) (hk:F[k]?=some (.s t (.is (.slice (some ⟨g,0,none⟩) n cap)))) (hj:F[j]?=some (.h l g (HP.own E sz cap n xs))) (hp:pickB F (fun f=>match f with | .h l' _ _=>l'==l|_=>false) ks=some F1)
    (hx:xs=rows.flatten) (hn:n=rows.length) (hsz:∀ r∈rows,r.length=sz) (h:Tr P w0 ok0 N (.s t (.vec sz rows) :: F1) c Q):Tr P w0 ok0 N F c Q:=fun a W hS=>by
  have hmj:=List.mem_of_getElem? hj
  obtain ⟨ok0',_,_,h30⟩:=hS.ex
  obtain ⟨ob,e1,e2,e3,e4⟩:=h30 _ hmj
  refine h a W (hS.freeze (g:=g) e3 fun ok h3 f hf=>?_)
  rcases List.mem_cons.1 hf with rfl|hf
  · right
    refine ⟨rfl,rfl,?_⟩
    have hv:a.tmps.getD t undef = .slice (some ⟨g,0,none⟩) n cap:=h3 _ (List.mem_of_getElem? hk)
    have hrow:=HP.own_row e4 e1 (Nat.zero_le g)
    rw [hx,hn] at hrow
    have:=owns_vec (ok:=ok) hrow hsz
    show SP.H _ _ _ _
    rw [hv,hn]
    refine SP.mono _ (fun k hk=>?_) this
    rcases hk with hk|hk
    · exact .inl hk
    · right;simp [Value.ownBlock] at hk;exact hk.symm
  · left
    obtain ⟨hF,hb⟩:=pickB_mem hp f hf
    refine ⟨hF,fun t' ht'=>hS.farh _ f l g t' hmj hF rfl ht',fun l' g' hl' e=>?_⟩
    subst e
    cases f<;>simp [Fact.lab] at hl'
    obtain ⟨rfl,rfl⟩:=hl'
    exact hS.farl _ _ l _ _ _ hmj hF rfl rfl (by simpa using Ne.symm (by simpa using hb)) rfl
theorem Tr.frzo {F1:List Fact} {t:Tmp} {sz:Nat} {E:TypeId} {rows:List (List Value)} (k:Nat) (ks:List Nat) (hk:F[k]?=some (.o t sz E rows)) (hp:pickB F (fun f=>f.own==some t) ks=some F1)
    (h:Tr P w0 ok0 N (.s t (.vec sz rows) :: F1) c Q):Tr P w0 ok0 N F c Q:=fun a W hS=>by
  have hmk:=List.mem_of_getElem? hk
  obtain ⟨ok1,h1,h2,h31⟩:=hS.ex
  have hown:Owns w0.heap.size ok1 W sz E rows (a.tmps.getD t undef):=h31 _ hmk
  cases hb:(a.tmps.getD t undef).ownBlock with
  | none =>
    refine h a W (hS.ghost fun ok h3 f hf=>?_)
    rcases List.mem_cons.1 hf with rfl|hf
    · right
      refine ⟨rfl,rfl,?_⟩
      refine SP.mono _ (fun k hk=>?_) (owns_vec (ok:=ok) hown.row hown.sz)
      rcases hk with hk|hk
      · exact hk
      · rw [hb] at hk;cases hk
    · exact .inl (pickB_mem hp f hf).1
  | some g =>
    refine h a W (hS.freeze (g:=g) (hown.row.lt g hb).1 fun ok h3 f hf=>?_)
    rcases List.mem_cons.1 hf with rfl|hf
    · right
      refine ⟨rfl,rfl,?_⟩
      refine SP.mono _ (fun k hk=>?_) (owns_vec (ok:=ok) hown.row hown.sz)
      rcases hk with hk|hk
      · exact .inl hk
      · rw [hb] at hk;cases hk;exact .inr rfl
    · left
      obtain ⟨hF,hbf⟩:=pickB_mem hp f hf
      refine ⟨hF,fun t' ht' e=>?_,fun l g' hl' e=>?_⟩
      · by_cases ht:t=t'
        · subst ht
          have:=box_own ht' (h31 f hF) hown
          rw [this] at hbf;simp at hbf
        · exact hS.far _ f t t' hmk hF rfl ht' ht g (hown.blk.trans hb) e
      · subst e
        exact hS.farh f _ l _ t hF hmk hl' rfl (hown.blk.trans hb)
end
section
variable {P:Program} {w0:World} {ok0:Nat→Prop} {N:Nat} {R:Rg} {ops:Array Oper} {Q:Exit→Act→World→Prop} {i:Nat} {o:Oper}
theorem len_n {d:Tmp} {x:Operand} {A:Option Addr} {n cap sz:Nat} {r:Int} {T E:TypeId} (hh:Pl R ops i o (some d) (.call { callee := .builtin .len,args:=#[x],argTypes:=#[T] }) true)
    (hR:RowTy P T E sz) (hx:Vl R i x (.is (.slice A n cap))) (hn:(n:Int)=r):Does P w0 ok0 N R ops Q i o (some (.s d (ii r))) :=
  pure_ hh fun ok a W hf=>by
    have hT:=hR.u
    have e:a.eval x = .slice A n cap:=hx.H hf
    unfold execOp
    simp only [hh.op,resolve,Sem.run_bind,Sem.run_pure,Result.andThen_ok,invoke,List.map_toArray,List.map_cons,List.map_nil,e]
    rw [← hn]
    simp [builtin,Builtin.len_,goInt,Sem.run_bind,run_underlying hT]
theorem nilv {d:Tmp} {op:Op} {sz:Nat} (hh:Pl R ops i o (some d) op true) (ho:op = .assign (.const (.slice none 0 0))∨op = .move (.const (.slice none 0 0))):Does P w0 ok0 N R ops Q i o (some (.s d (.vec sz []))) :=
  does_s hh fun ok a W hf hk K hK=>by
    unfold Oper.wp execOp
    rw [hh.op]
    rcases ho with ho|ho<;>rw [ho]<;>exact hK _ W (Below.refl _ _) ⟨none,0,rfl,Nat.le_refl _,fun W' _ h=>absurd h (Nat.lt_irrefl _)⟩
end
/-! ### Rows of the call's own, looked at; rows of slices, looked at -/
section
variable {P:Program} {w0:World} {ok0:Nat→Prop} {N:Nat} {R:Rg} {ops:Array Oper} {Q:Exit→Act→World→Prop} {i:Nat} {o:Oper}
theorem oappE {d t:Tmp} {y:Operand} {S E:TypeId} {sz bytes:Nat} {rows:List (List Value)} (hh:Pl R ops i o (some d) (.call { callee := .builtin .append,args:=#[.tmp t,y],argTypes:=#[S,S] }) true) (hT:AppTy P S E sz bytes)
    (hx:R.Nd i (.o t sz E rows)) (hy:Vl R i y (.vec sz [])):Does P w0 ok0 N R ops Q i o (some (.o d sz E rows)):=by
  intro l Φ a W hdN hnd hS hΦ
  obtain ⟨ok,h1,h2,h3⟩:=hS.ex
  rw [if_pos (hh.wanted fun f hf=>h3 f (hnd f hf))]
  have hown:Owns w0.heap.size ok W sz E rows (a.tmps.getD t undef):=h3 _ (hnd _ hx)
  have htk:takes t o.op=true:=by rw [hh.op];simp [takes,taken]
  obtain ⟨ti,z,hi,hz,hsize,hbytes,hzs⟩:=hT.i
  obtain ⟨A,c,ey,hc,hfoot⟩:=hy.H (fun f hf=>h3 f (hnd f hf))
  have hr:(Builtin.append_ #[S,S] o.type #[a.tmps.getD t undef,.slice A 0 c]).run P W = .ok (a.tmps.getD t undef) W:=by
    rcases hown.row.2 with ⟨e,en⟩|⟨g,cap,cur,e,hB,hg,hcap,_⟩
    · rw [e]
      cases A<;>simp [Builtin.append_,run_underlying hT.u,sizeOf,typeInfo,hi,Builtin.lenOf,Builtin.firstCells,storeCells,loadCells,loadCellsFrom]
    · rw [e]
      cases A<;>simp [Builtin.append_,run_underlying hT.u,sizeOf,typeInfo,hi,Builtin.lenOf,Builtin.firstCells,storeCells,hcap,loadCells,loadCellsFrom]
  have key:St w0 ok0 N Φ (a.put (some d) (a.tmps.getD t undef)) W :=
    hS.put_g (K:=fun f=>R.Av l f∧f.on d=false∧f.own≠some t) (row:=none) (ok':=ok) (fn := .o d sz E rows) (hdN d hh.dst) (World.grownBy.refl W none) h3 (fun k e=>by cases e) h1 h2 (fun k hk _=>⟨hk,by simp⟩)
      (fun f hf=>⟨hf.1,hf.2.1,fun t ht g hg=>⟨by simp,(box_lt ht (h3 f hf.1) g hg).2.2⟩⟩) (fun f l g hf e=>⟨by simp,(lab_lt e (h3 f hf.1)).2.2⟩)
      (by show Owns _ _ _ _ _ _ _;rw [getD_put_self (by rw [hS.hn];exact hdN d hh.dst)];exact hown)
      (fun t1 ht1=>⟨by simpa [Fact.box] using ht1.symm,fun f' t' hf' ht' g e=>hS.far _ f' t t' (hnd _ hx) hf'.1 rfl ht' (fun e1=>hf'.2.2 (box_own (e1 ▸ ht') (h3 f' hf'.1) hown)) g e⟩) rfl (.inr fun f l g hf e=>hS.farh f _ l g t hf.1 (hnd _ hx) e rfl)
      (fun f hf=>by
        rcases hΦ f hf with h|⟨h,hu⟩
        · cases h;exact .inl rfl
        · exact .inr ⟨h,undoes_on hh.dst hu,fun e=>by rw [undoes_own rfl e hu] at htk;cases htk⟩)
  have ex:a.eval (.tmp t)=a.tmps.getD t undef:=rfl
  have ey':a.eval y = .slice A 0 c:=ey
  unfold Oper.wp execOp
  simp only [hh.op,resolve,invoke,builtin,Sem.run_bind,Sem.run_pure,Result.andThen_ok,List.map_toArray,List.map_cons,List.map_nil,ex,ey',hr]
  rw [← hh.dst] at key
  exact key
def SP.atp (p:SP):SP :=
  ⟨fun ok v W=>∃ ad u,v = .pointer (some ad)∧Foot (fun W=>W.cell? ad=some u) W ok∧p.H ok u W,
   fun hk ⟨ad,u,e,f,h⟩=>⟨ad,u,e,f.mono hk,p.mono hk h⟩,fun ⟨ad,u,e,f,h⟩=>⟨ad,u,e,f.bound,p.bound h⟩,fun ⟨ad,u,e,f,h⟩ hm=>⟨ad,u,e,f.step hm,p.step h hm⟩⟩
theorem ldv {d:Tmp} {x:Operand} {T:TypeId} {p:SP} (hh:Pl R ops i o (some d) (.load T x) true) (hx:Vl R i x (.atp p)) (hT:ScalTy P T):Does P w0 ok0 N R ops Q i o (some (.s d p)) :=
  does_s hh fun ok a W hf hk' K hK=>by
    obtain ⟨ad,u,e,hF,hpu⟩:=hx.H hf
    obtain ⟨dd,hu,hdd⟩:=hT.u
    have hc:=hF.now
    have hagg:(isAgg T).run P W = .ok false W:=by
      unfold isAgg
      rw [Sem.run_bind,run_underlying hu W]
      cases dd<;>simp_all
    have er:(execOp a.eval o).run P W = .ok (.value u) W:=by
      unfold execOp
      simp only [hh.op,e,Instr.loadAt,Instr.sureAddr,Sem.run_bind,Sem.run_pure,Result.andThen_ok,loadVar,hagg,Bool.false_eq_true,if_false,run_load,hc]
    unfold Oper.wp
    rw [er]
    exact hK _ W (Below.refl _ _) hpu
theorem fat {d:Tmp} {x:Operand} {cs cs':List Value} {T:TypeId} {k off:Nat} (hh:Pl R ops i o (some d) (.fieldAddr T x k) true) (hx:Vl R i x (.at cs)) (hF:∃ fs fl,P.underlying T=some (.struct fs)∧fs[k]?=some fl∧∀ ad W,(fieldPlace ad fl).run P W = .ok (ad.add off) W) (hd:cs.drop off=cs'):Does P w0 ok0 N R ops Q i o (some (.s d (.at cs'))) :=
  does_s hh fun ok a W hf hk' K hK=>by
    obtain ⟨fs,fl,hT,hk,hp⟩:=hF
    obtain ⟨ad,e,hFt⟩:=hx.H hf
    have er:(execOp a.eval o).run P W = .ok (.value (.pointer (some (ad.add off)))) W:=by
      unfold execOp
      simp only [hh.op,e,Instr.fieldAt,Sem.run_bind,run_underlying hT W,Result.andThen_ok,hk,Instr.sureAddr,Sem.run_pure,hp ad W]
    unfold Oper.wp
    rw [er]
    refine hK _ W (Below.refl _ _) ⟨_,rfl,hFt.imp fun W' hW j u hu=>?_⟩
    rw [Addr.add_add]
    refine hW _ u ?_
    rw [← hd,List.getElem?_drop] at hu
    exact hu
end
theorem end_tmp3 {P:Program} {w0:World} {ok0:Nat→Prop} {N:Nat} {F:List Fact} {fn:Func} {t1 t2 t3:Nat} {q1 q2 q3:SP} (k1 k2 k3:Nat) (hr:fn.results=#[.tmp t1,.tmp t2,.tmp t3]) (hk1:F[k1]?=some (.s t1 q1)) (hk2:F[k2]?=some (.s t2 q2)) (hk3:F[k3]?=some (.s t3 q3)) :
    Nx w0 ok0 N F (fun a W=>bodyPost P fn (Ret w0 ok0 (.tup [q1,q2,q3])) .ret a W):=fun a W hS=>by
  obtain ⟨ok,h1,h2,h3⟩:=hS.ex
  have v1:q1.H ok (a.tmps.getD t1 undef) W:=h3 _ (List.mem_of_getElem? hk1)
  have v2:q2.H ok (a.tmps.getD t2 undef) W:=h3 _ (List.mem_of_getElem? hk2)
  have v3:q3.H ok (a.tmps.getD t3 undef) W:=h3 _ (List.mem_of_getElem? hk3)
  refine ⟨hS.hd,.tuple #[a.tmps.getD t1 undef,a.tmps.getD t2 undef,a.tmps.getD t3 undef],?_,⟨_,rfl,⟨[_,_,_],rfl,q1.mono h1 v1,q2.mono h1 v2,q3.mono h1 v3,trivial⟩,hS.hb⟩⟩
  simp [results,hr]
end Go.Proofs.YtkgagdjogedoiaaGreat.Fx

import Derived.Test.YtkgagdjogedoiaaGreatJx
import Derived.Maps.Range
import Derived.Test.YtkgagdjogedoiaaGreatDb
set_option linter.unusedVariables false
set_option linter.unusedSimpArgs false
namespace Go.Proofs.YtkgagdjogedoiaaGreat.Fx
open Go Go.RowKit Go.Proofs.YtkgagdjogedoiaaGreatW.PrintWords
def SP.ptr (q:SP) (T:TypeId) (n:Nat):SP :=
  ⟨fun ok v W=>∃ g cs,v=Go.Proofs.YtkgagdjogedoiaaGreat.Fx.ptr g 0∧ok g∧W.heap[g]?=some (.cells cs T (0,0))∧cs.size=n∧q.H ok (.agg cs) W,
   fun hk ⟨g,cs,e,h1,h2,h3,h4⟩=>⟨g,cs,e,hk _ h1,h2,h3,q.mono hk h4⟩,
   fun ⟨g,cs,e,h1,h2,h3,h4⟩=>⟨g,cs,e,⟨h1,(Array.getElem?_eq_some_iff.1 h2).1⟩,h2,h3,q.bound h4⟩,
   fun ⟨g,cs,e,h1,h2,h3,h4⟩ hm=>⟨g,cs,e,h1,(hm g h1 (Array.getElem?_eq_some_iff.1 h2).1).trans h2,h3,q.step h4 hm⟩⟩
def SP.fnc (f:FuncId) (ps:List SP):SP :=
  ⟨fun ok v W=>∃ us:List Value,v = .func (.func f) #[] us.toArray∧Args ok W ps us,fun hk ⟨us,e,h⟩=>⟨us,e,h.mono hk⟩,fun ⟨us,e,h⟩=>⟨us,e,h.bound⟩,fun ⟨us,e,h⟩ hm=>⟨us,e,h.step hm⟩⟩
theorem Args.app {ok:Nat→Prop} {W:World}:∀ {ps:List SP} {vs:List Value} {qs:List SP} {us:List Value},Args ok W ps vs→Args ok W qs us→Args ok W (ps++qs) (vs++us)
  | [],[],_,_,_,h=>h
  | _ :: _,_ :: _,_,_,h,h'=>⟨h.1,Args.app h.2 h'⟩
section
variable {P:Program} {w0:World} {ok0:Nat→Prop} {N:Nat} {F:List Fact} {c:Code} {Q:Exit→Act→World→Prop}
theorem Tr.frzb {F1:List Fact} {t:Tmp} {q:SP} {T:TypeId} {n:Nat} (k:Nat) (ks:List Nat) (hk:F[k]?=some (.b t q T n)) (hp:pickB F (fun f=>f.box==some t) ks=some F1)
    (h:Tr P w0 ok0 N (.s t (SP.ptr q T n) :: F1) c Q):Tr P w0 ok0 N F c Q:=fun a W hS=>by
  have hmk:=List.mem_of_getElem? hk
  obtain ⟨ok1,h1,h2,h31⟩:=hS.ex
  obtain ⟨g,cs,e1,e2,e3,e4,e5,e6⟩:=h31 _ hmk
  refine h a W (hS.freeze (g:=g) e3 fun ok h3 f hf=>?_)
  rcases List.mem_cons.1 hf with rfl|hf
  · right
    refine ⟨rfl,rfl,?_⟩
    obtain ⟨g',cs',a1,a2,a3,a4,a5,a6⟩:=h3 _ hmk
    have hg:g'=g:=by rw [a1] at e1;simpa [Go.Proofs.YtkgagdjogedoiaaGreat.Fx.ptr] using e1
    subst hg
    exact ⟨g',cs',a1,.inr rfl,a4,a5,q.mono (fun k hk => .inl hk) a6⟩
  · left
    obtain ⟨hF,hbf⟩:=pickB_mem hp f hf
    refine ⟨hF,fun t' ht' e=>?_,fun l g' hl' e=>?_⟩
    · by_cases ht:t=t'
      · subst ht
        rw [ht'] at hbf
        simp at hbf
      · exact hS.far _ f t t' hmk hF rfl ht' ht g (by rw [e1];rfl) e
    · subst e
      exact hS.farh f _ l _ t hF hmk hl' rfl (by rw [e1];rfl)
end
section
variable {P:Program} {w0:World} {ok0:Nat→Prop} {N:Nat} {R:Rg} {ops:Array Oper} {Q:Exit→Act→World→Prop} {i:Nat} {o:Oper}
theorem ldp {d:Tmp} {x:Operand} {q:SP} {T:TypeId} {n:Nat} (hh:Pl R ops i o (some d) (.load T x) true) (hx:Vl R i x (.ptr q T n)) (hT:AggTy P T n):Does P w0 ok0 N R ops Q i o (some (.s d q)) :=
  does_s hh fun ok a W hf hk K hK=>by
    obtain ⟨g,cs,h1,_,h4,h5,h6⟩:=hx.H hf
    obtain ⟨dd,hu,hdd⟩:=hT.u
    exact wp_load_row T x hh.op g h1 T cs (0,0) dd h4 hu (by cases dd<;>first|exact hdd|cases hdd) (by rw [hT.i,h5]) (hK _ W (Below.refl _ _) h6)
theorem fap {d:Tmp} {x:Operand} {q p:SP} {T:TypeId} {n k off:Nat} (hh:Pl R ops i o (some d) (.fieldAddr T x k) true) (hx:Vl R i x (.ptr q T n)) (hF:FieldTy P T k off) [hc:CellOf q off p]:Does P w0 ok0 N R ops Q i o (some (.s d (.atp p))) :=
  does_s hh fun ok a W hf hk K hK=>by
    obtain ⟨fs,fl,hT,hk',hp⟩:=hF.out
    obtain ⟨g,cs,h1,hg,h4,h5,h6⟩:=hx.H hf
    obtain ⟨v,hv,hpv⟩:=hc.out h6
    have e:(execOp a.eval o).run P W = .ok (.value (Go.Proofs.YtkgagdjogedoiaaGreat.Fx.ptr g off)) W:=by
      unfold execOp
      have hev:a.eval x=Go.Proofs.YtkgagdjogedoiaaGreat.Fx.ptr g 0:=h1
      simp only [hh.op,hev,Instr.fieldAt,Sem.run_bind,run_underlying hT W,Result.andThen_ok,hk',Instr.sureAddr,Sem.run_pure,hp g W]
    unfold Oper.wp
    rw [e]
    refine hK _ W (Below.refl _ _) ⟨⟨g,off,none⟩,v,rfl,fun W' hW'=>?_,hpv⟩
    show W'.cell? ⟨g,off,none⟩=some v
    rw [cell_of_row W' g off cs T (0,0) ((hW' g hg (Array.getElem?_eq_some_iff.1 h4).1).trans h4)]
    exact hv
theorem ixv {d:Tmp} {x y:Operand} {T:TypeId} {u j v:Value} (hh:Pl R ops i o (some d) (.index T x y) true) (hx:Vl R i x (.is u)) (hy:Vl R i y (.is j)) (hr:∀ W,(Instr.index T u j).run P W = .ok v W):Does P w0 ok0 N R ops Q i o (some (.s d (.is v))) :=
  pure_ hh fun ok a W hf=>by
    have e1:a.eval x=u:=hx.H hf
    have e2:a.eval y=j:=hy.H hf
    unfold execOp
    simp only [hh.op,e1,e2,Sem.run_bind,hr,Result.andThen_ok]
    rfl
theorem mkf {d:Tmp} {f:FuncId} {xs:List Operand} {ps:List SP} (hh:Pl R ops i o (some d) (.makeFunc (.func f) #[] xs.toArray) true) (hx:Vls R i xs ps):Does P w0 ok0 N R ops Q i o (some (.s d (.fnc f ps))) :=
  does_s hh fun ok a W hf hk K hK=>by
    have e:(execOp a.eval o).run P W = .ok (.value (.func (.func f) #[] (xs.map a.eval).toArray)) W:=by
      unfold execOp
      simp only [hh.op]
      simp [Instr.makeFunc,Sem.run_bind]
    unfold Oper.wp
    rw [e]
    exact hK _ W (Below.refl _ _) ⟨_,rfl,hx.H hf⟩
theorem calvc {d t:Tmp} {f:FuncId} {fn:Func} {xs:List Operand} {ts:Array TypeId} {ps cs:List SP} {q:SP} (hh:Pl R ops i o (some d) (.call { callee := .value (.tmp t),args:=xs.toArray,argTypes:=ts }) true) (hv:Vl R i (.tmp t) (.fnc f cs)) (hfn:P.funcs[f]?=some fn) (hbody:(fn.name == "runtime.NumGoroutine" || fn.body.isNone)=false)
    (hc:FnC P f (ps++cs) q) (hx:Vls R i xs ps):Does P w0 ok0 N R ops Q i o (some (.s d q)) :=
  does_s hh fun ok a W hf hk K hK=>by
    obtain ⟨us,e0',hA⟩:=hv.H hf
    have e0:a.eval (.tmp t) = .func (.func f) #[] us.toArray:=e0'
    have e:(execOp a.eval o).run P W = .ok (.enter f (xs.map a.eval++us).toArray) W:=by
      have e1:execOp a.eval o=callFunc f (xs.map a.eval++us).toArray:=by
        unfold execOp
        simp only [hh.op,resolve,e0]
        show callFunc f (#[]++xs.toArray.map a.eval++us.toArray)=_
        simp
      rw [e1]
      unfold callFunc
      have hp:program.run P W = .ok P W:=rfl
      rw [Sem.run_bind,hp,Result.andThen_ok,hfn]
      have hb1:(fn.name == "runtime.NumGoroutine")=false:=by revert hbody;cases (fn.name == "runtime.NumGoroutine")<;>simp
      have hb2:fn.body.isNone=false:=by revert hbody;cases fn.body.isNone<;>simp
      simp only [hb1,hb2,Bool.false_eq_true,if_false]
      rfl
    unfold Oper.wp
    rw [e,Oper.upon_enter]
    refine (hc ok _ W ((hx.H hf).app hA) hk).mono ?_
    rintro e W' ⟨r,rfl,hr,hb⟩
    exact hK r W' hb hr
end
end Go.Proofs.YtkgagdjogedoiaaGreat.Fx

set_option linter.unusedVariables false
set_option linter.unusedSimpArgs false
namespace Go.Proofs.YtkgagdjogedoiaaGreat.Fx
open Go Go.RowKit Go.Proofs.YtkgagdjogedoiaaGreatW.PrintWords
open Go.WideElems (Fit rg)
structure KeyInv (P:Program) (k:TypeId):Prop where
  inv:∀ {v:Value} {l:Lit},keyOf P k v=some l→∃ a b:Int,v = .agg #[.int .i64 a,.int .i64 b]∧(Lit.int .i64 a).wf=true∧(Lit.int .i64 b).wf=true
def HP.pin (P:Program) (k e:TypeId) (n:Nat) (S:List (Int × Int)) (es:Array MapEntry) (clock:Nat):HP :=
  ⟨fun ok ob W=>ob = .map es clock∧(HP.pset P k e n S).H ok ob W,fun _ h=>h,fun h=>h,fun h _=>h⟩
def HP.itr (P:Program) (k e:TypeId) (g:Nat) (es:Array MapEntry) (clock:Nat) (left:Lit→Bool) (cnt:Nat) (cur:Option (Int × Int)):HP :=
  ⟨fun _ ob _=>∃ since seen c0,ob = .mapIter (some g) since seen c0∧(∀ p,cur=some p→∃ stamp e,seen.back?=some stamp∧c0=clock∧es.find? (·.born==stamp)=some e∧e.key=pcv p)∧(∀ x∈es.toList,x.born < since)∧(leftOf es seen).size=cnt ∧
    (∀ x∈es.toList,left (rg P k (plainElem (H:=Nat) P e) x).1=!seen.contains x.born)∧(∀ kl,left kl=true→∃ x∈es.toList,(rg P k (plainElem (H:=Nat) P e) x).1=kl)∧since≤c0∧since≤clock,
   fun _ h=>h,fun h=>h,fun h _=>h⟩
section
variable {P:Program} {k e:TypeId} {W:World} {g r cnt n:Nat} {S:List (Int × Int)} {es:Array MapEntry} {clock:Nat} {left:Lit→Bool} {ok:Nat→Prop} {ob:Obj}
theorem ranges_of (hp:(HP.pin P k e n S es clock).H ok ob W) (hg:W.heap[g]?=some ob) {ob':Obj} (hr:W.heap[r]?=some ob') {cur:Option (Int × Int)} (h:(HP.itr P k e g es clock left cnt cur).H ok ob' W) :
    ∃ D,W.ranges P k (plainElem (H:=Nat) P e) g r n D left cnt∧∀ p l,keyOf P k (pcv p)=some l→∀ zd,D.atKey l zd=if p∈S then .lit (.bool true) else zd:=by
  obtain ⟨rfl,es',clock',e1,h1,h2,h3⟩:=hp
  cases e1
  obtain ⟨since,seen,c0,rfl,_,r1,r2,r3,r4,r5,r6⟩:=h
  exact ⟨_,⟨es,clock,since,seen,c0,hg,h1,h2,rfl,hr,r1,r2,r3,r4,r5,r6⟩,h3⟩
theorem entry_inv {since c0:Nat} {seen:Array Nat} {key v:Value} (hr:W.heap[r]?=some (.mapIter (some g) since seen c0)) (hg:W.heap[g]?=some (.map es clock)) (h:(Instr.entry (ptr r 0)).run P W = .ok (.tuple #[key,v]) W) :
    ∃ stamp e,seen.back?=some stamp∧c0=clock∧es.find? (·.born==stamp)=some e∧e.key=key:=by
  simp only [Instr.entry,ptr,getObj,Sem.run_bind,Sem.run,hr,Result.andThen] at h
  cases hb:seen.back? with
  | none=>rw [hb] at h;cases h
  | some stamp =>
    rw [hb] at h
    simp only [Sem.run_bind,getObj,Sem.run,hg,Result.andThen] at h
    by_cases hc:clock=c0
    · subst hc
      simp only [bne_self_eq_false,Bool.false_eq_true,if_false] at h
      cases hf:es.find? (·.born==stamp) with
      | none=>rw [hf] at h;cases h
      | some e0 =>
        rw [hf] at h
        refine ⟨stamp,e0,rfl,rfl,hf,?_⟩
        have h':Result.ok (Value.tuple #[e0.key,e0.val]) W = .ok (.tuple #[key,v]) W:=h
        simp at h'
        exact h'.1
    · rw [if_pos (by simpa using hc)] at h
      cases h
theorem entry_of {since c0:Nat} {seen:Array Nat} {stamp:Nat} {e0:MapEntry} (hr:W.heap[r]?=some (.mapIter (some g) since seen c0)) (hg:W.heap[g]?=some (.map es clock)) (h1:seen.back?=some stamp) (h2:c0=clock) (h3:es.find? (·.born==stamp)=some e0) :
    (Instr.entry (ptr r 0)).run P W = .ok (.tuple #[e0.key,e0.val]) W:=by
  subst h2
  simp only [Instr.entry,ptr,getObj,Sem.run_bind,Sem.run,hr,hg,h1,Result.andThen,bne_self_eq_false,Bool.false_eq_true,if_false,h3]
  rfl
theorem itr_of {R:Value→Option (DataW Nat × List MemPlace)} (hR:R=plainElem (H:=Nat) P e) {D:DataW Nat} (hg:W.heap[g]?=some (.map es clock)) (h:W.ranges P k R g r n D left cnt) (cur:Option (Int × Int)) (hc:∀ p,cur=some p→∃ v,(Instr.entry (ptr r 0)).run P W = .ok (.tuple #[pcv p,v]) W):∃ ob',W.heap[r]?=some ob'∧(HP.itr P k e g es clock left cnt cur).H ok ob' W:=by
  subst hR
  obtain ⟨es',clock',since,seen,c0,hb,_,_,_,hr,rest⟩:=h
  rw [hg] at hb
  cases hb
  exact ⟨_,hr,since,seen,c0,rfl,fun p hp=>by obtain ⟨v,hv⟩:=hc p hp;exact entry_inv hr hg hv,rest⟩
theorem has_in {D:DataW Nat} (hat:∀ p l,keyOf P k (pcv p)=some l→∀ zd,D.atKey l zd=if p∈S then .lit (.bool true) else zd) {p:Int × Int} {l:Lit} (hl:keyOf P k (pcv p)=some l) {y:DataW Nat} (h:∀ zd,D.atKey l zd=y):p∈S:=by
  by_cases hm:p∈S
  · exact hm
  · have h1:=(hat p l hl (.lit (.bool true))).symm.trans (h _)
    have h2:=(hat p l hl (.lit (.bool false))).symm.trans (h _)
    rw [if_neg hm] at h1 h2
    rw [← h1] at h2
    simp at h2
theorem in_has {D:DataW Nat} (hI:Go.Maps.IsMap D) (hat:∀ p l,keyOf P k (pcv p)=some l→∀ zd,D.atKey l zd=if p∈S then .lit (.bool true) else zd) {p:Int × Int} {l:Lit} (hl:keyOf P k (pcv p)=some l) (hm:p∈S):Go.Maps.has D l=true:=by
  obtain ⟨es,rfl⟩:=hI
  cases hh:Go.Maps.has (DataW.map es) l with
  | true=>rfl
  | false =>
    have h1:=hat p l hl (.lit (.bool false))
    rw [if_pos hm] at h1
    have:(DataW.map es).atKey l (.lit (.bool false)) = .lit (.bool false):=by
      unfold DataW.atKey
      have hf:es.find? (fun q=>q.1.sameKey l)=none:=by
        rw [List.find?_eq_none]
        intro q hq hc
        have:Go.Maps.has (DataW.map es) l=true:=List.any_eq_true.2 ⟨q,hq,hc⟩
        rw [hh] at this
        cases this
      simp [hf]
    rw [this] at h1
    simp at h1
end
section
variable {P:Program} {w0:World} {ok0:Nat→Prop} {N:Nat} {ops:Array Oper} {Q:Exit→Act→World→Prop} {F F1:List Fact} {i:Nat} {o:Oper} {r:List Oper}
theorem nd_of {a:Act} {W:World} {ok:Nat→Prop} (h3:∀ f∈F,f.holds w0.heap.size ok a W):∀ f,(Rg.of F).Nd i f→f.holds w0.heap.size ok a W:=fun f hf=>by
  cases hf with
  | g j hj=>simp [Rg.lookG,Rg.deps] at hj
  | b k hk =>
    unfold Rg.lookB at hk
    split at hk
    · rename_i f' e
      cases hk
      obtain ⟨f0,hf0,e0⟩:=List.mem_map.1 (List.mem_of_getElem? e)
      cases e0
      exact h3 f hf0
    · rename_i f' s e
      obtain ⟨_,_,e'⟩:=List.mem_map.1 (List.mem_of_getElem? e)
      cases e'
    · cases hk
theorem Go.turnv {α:Type} {C:α→Prop} {d:Tmp} {l g j0:Nat} {op:Op} {p:α→SP} {q:HP} {q':α→HP} (hh:Pl (Rg.of F) ops i o (some d) op true) (hb:F[j0]?=some (.h l g q)) (ks:List Nat) (hd:dstOk N o=true) (hp:pickL F o l ks=some F1)
    (hrun:∀ (ok:Nat→Prop) (a:Act) (W:World),(∀ f,(Rg.of F).Nd i f→f.holds w0.heap.size ok a W)→∀ ob,W.heap[g]?=some ob→q.H ok ob W→¬ ok g →
      ∃ (x:α) (v:Value) (W':World),C x∧(execOp a.eval o).run P W = .ok (.value v) W'∧W.grownBy W' (some g)∧(p x).H ok v W'∧∃ ob',W'.heap[g]?=some ob'∧(q' x).H ok ob' W')
    (t:∀ x,C x→Go P w0 ok0 N ops Q (i+1) r (.s d (p x) :: .h l g (q' x) :: F1)):Go P w0 ok0 N ops Q i (o :: r) F:=by
  intro hr a W hS
  have ho:ops[i]?=some o:=by have:=hr 0 o rfl;simpa using this
  rw [List.length_cons,List.range'_succ]
  simp only [wpOps,ho]
  obtain ⟨ok,h1,h2,h3⟩:=hS.ex
  have hnd:=nd_of (i:=i) h3
  have hbF:Fact.h l g q∈F:=List.mem_of_getElem? hb
  obtain ⟨ob,b1,b2,b3,b4⟩:=h3 _ hbF
  obtain ⟨x,v,W',hC,e1,e2,e5,ob',e3,e4⟩:=hrun ok a W hnd ob b1 b4 b2
  have hdN:d < N:=by unfold dstOk at hd;rw [hh.dst] at hd;exact Nat.blt_eq ▸ hd
  have key:St w0 ok0 N (·∈Fact.s d (p x) :: .h l g (q' x) :: F1) (a.put (some d) v) W' :=
    hS.put_h (d:=some d) (v:=v) (row:=some g) (ok:=ok) (ok':=ok) (K:=fun f=>f∈F∧f.on d=false∧∀ l' g',f.lab=some (l',g')→l'≠l) (Nw:=fun f=>f = .s d (p x)∨f = .h l g (q' x)) (fun t e=>by cases e;exact hdN) e2 h3 (fun k e=>by cases e;exact b3) h1
      (fun k hk=>h2 k (Nat.le_trans e2.size hk)) (fun k hk _=>⟨hk,fun e=>by cases e;exact b2 hk⟩)
      (fun f hf=>⟨hf.1,fun t e=>by cases e;exact hf.2.1,fun t ht g' hg=>⟨fun e=>by cases e;exact hS.farh _ f l g t hbF hf.1 rfl ht hg,(box_lt ht (h3 f hf.1) g' hg).2.2⟩,fun l' g' e=>⟨fun e'=>by cases e';exact hS.farl _ f l g l' g hbF hf.1 rfl e (Ne.symm (hf.2.2 l' g e)) rfl,(lab_lt e (h3 f hf.1)).2.2⟩⟩)
      (fun f hf=>by
        rcases hf with rfl|rfl
        · refine ⟨?_,rfl,fun l' g' e=>by cases e⟩
          show SP.H _ _ _ _
          rw [getD_put_self (by rw [hS.hn];exact hdN)];exact e5
        · refine ⟨⟨ob',e3,b2,b3,e4⟩,rfl,fun l' g' e=>?_⟩
          cases e
          refine ⟨fun f' hf' l2 g2 e=>?_,fun f' t' hf' ht'=>hS.farh _ f' l g t' hbF hf'.1 rfl ht',fun f' l2 g2 hf' e hne=>?_⟩
          · rcases hf' with rfl|rfl
            · cases e
            · cases e;rfl
          · exact fun e2=>hS.farl _ f' l g l2 g2 hbF hf'.1 rfl e (Ne.symm hne) e2.symm)
      (fun f hf=>by
        rcases List.mem_cons.1 hf with rfl|hf
        · exact .inl (.inl rfl)
        rcases List.mem_cons.1 hf with rfl|hf
        · exact .inl (.inr rfl)
        obtain ⟨r1,r2,r3⟩:=pickL_mem hp f hf
        exact .inr ⟨r1,undoes_on hh.dst r2,r3⟩)
  have hih:=t x hC (fun j o' hj=>by have:=hr (j+1) o' (by simpa using hj);rwa [show i+(j+1)=i+1+j by omega] at this)
  have hw:Region.wanted o (yielded ops a.tmps)=true:=hh.wanted hnd
  rw [if_pos hw]
  refine .inl ?_
  unfold Oper.wp
  rw [e1]
  rw [← hh.dst] at key
  exact hih _ _ key
theorem Go.range {d:Tmp} {x:Operand} {T k e:TypeId} {lm g n:Nat} {S:List (Int × Int)} {es:Array MapEntry} {clock:Nat} (l:Nat) (hh:Pl (Rg.of F) ops i o (some d) (.range T x) true) (hT:P.underlying T=some (.map k e)) (hK:KeyTy P k)
    (hx:Vl (Rg.of F) i x (.is (.map (some g)))) (hm:(Rg.of F).Nd i (.h lm g (HP.pin P k e n S es clock)))
    (ks:List Nat) (hd:dstOk N o=true) (hp:pickL F o l ks=some F1)
    (t:∀ g2 left cnt,(∀ p kl,keyOf P k (pcv p)=some kl→p∈S→left kl=true)→Go P w0 ok0 N ops Q (i+1) r (.s d (.is (ptr g2 0)) :: .h l g2 (HP.itr P k e g es clock left cnt none) :: F1)):Go P w0 ok0 N ops Q i (o :: r) F:=by
  refine Go.new (α:={ x:Nat × (Lit→Bool) × Nat // ∀ p kl,keyOf P k (pcv p)=some kl→p∈S→x.2.1 kl=true }) (p:=fun x => .is (ptr x.1.1 0)) (g:=fun x=>x.1.1) (q:=fun x=>HP.itr P k e g es clock x.1.2.1 x.1.2.2 none) hh ks hd hp (fun ok a W hf hB=>?_) (fun x=>t x.1.1 x.1.2.1 x.1.2.2 x.2)
  obtain ⟨ob,h1,_,_,hq⟩:=hf _ hm
  obtain ⟨rfl,hps⟩:=hq
  obtain ⟨D,hD,hat⟩:=pset_own hps h1
  have hI:Go.Maps.IsMap D:=by obtain ⟨es,clock,_,_,_,rfl⟩:=hD;exact ⟨_,rfl⟩
  obtain ⟨w',r1,r2,r3,r4⟩:=hD.range hK.K hT
  have ex:a.eval x = .map (some g):=hx.H hf
  have hg':w'.heap[g]?=some (.map es clock):=(r3.block g (Array.getElem?_eq_some_iff.1 h1).1 (by simp)).trans h1
  refine ⟨⟨(W.heap.size,Go.Maps.has D,Go.Maps.size D),fun p kl hk hS=>in_has hI hat hk hS⟩,_,w',?_,r3,Nat.le_refl _,by show W.heap.size < _;rw [r4];omega,rfl,itr_of rfl hg' r2 none (fun p e=>by cases e)⟩
  unfold execOp
  simp only [hh.op,ex,Sem.run_bind,r1,Result.andThen_ok]
  rfl
def SP.any:SP:=⟨fun _ _ _=>True,fun _ h=>h,fun h=>h,fun h _=>h⟩
theorem Go.next {d:Tmp} {x:Operand} {k e:TypeId} {lm l g g2 n cnt:Nat} {S:List (Int × Int)} {es:Array MapEntry} {clock:Nat} {left:Lit→Bool} {cur:Option (Int × Int)} (j:Nat) (hh:Pl (Rg.of F) ops i o (some d) (.next x false) true) (hK:KeyTy P k) (hV:KeyInv P k)
    (hx:Vl (Rg.of F) i x (.is (ptr g2 0))) (hm:(Rg.of F).Nd i (.h lm g (HP.pin P k e n S es clock))) (hb:F[j]?=some (.h l g2 (HP.itr P k e g es clock left cnt cur)))
    (ks:List Nat) (hd:dstOk N o=true) (hp:pickL F o l ks=some F1)
    (t0:(∀ kl,left kl=false)→Go P w0 ok0 N ops Q (i+1) r (.s d (.tup [bb false]) :: .h l g2 (HP.itr P k e g es clock left cnt cur) :: F1))
    (t1:∀ (p:Int × Int) kl cnt',keyOf P k (pcv p)=some kl→(Lit.int .i64 p.1).wf=true→(Lit.int .i64 p.2).wf=true→p∈S→cnt' < cnt→Go P w0 ok0 N ops Q (i+1) r (.s d (.tup [bb true,.is (pcv p),SP.any]) :: .h l g2 (HP.itr P k e g es clock (fun x=>left x && !x.sameKey kl) cnt' (some p)) :: F1)):Go P w0 ok0 N ops Q i (o :: r) F:=by
  refine Go.turnv (α:=Option ((Int × Int) × Lit × Nat)) (C:=fun x=>match x with|none=>∀ kl,left kl=false|some (p,kl,cnt')=>keyOf P k (pcv p)=some kl∧(Lit.int .i64 p.1).wf=true∧(Lit.int .i64 p.2).wf=true∧p∈S∧cnt' < cnt)
    (p:=fun x=>match x with|none => .tup [bb false]|some (p,kl,cnt') => .tup [bb true,.is (pcv p),SP.any])
    (q':=fun x=>match x with|none=>HP.itr P k e g es clock left cnt cur|some (p,kl,cnt')=>HP.itr P k e g es clock (fun x=>left x && !x.sameKey kl) cnt' (some p)) hh hb ks hd hp (fun ok a W hf ob hob hq _=>?_) (fun x=>?_)
  · obtain ⟨om,m1,_,_,m4⟩:=hf _ hm
    have hg:W.heap[g]?=some (.map es clock):=m1.trans (by rw [m4.1])
    obtain ⟨D,hR,hat⟩:=ranges_of m4 m1 hob hq
    have ex:a.eval x=ptr g2 0:=hx.H hf
    rcases hR.next hK.K o.type with ⟨c1,c2,c3⟩|⟨key,v,kl,y,w',cnt',c1,c2,c3,c4,c5,c6,c7,c8,c9,c10⟩
    · refine ⟨none,_,W,c2,?_,World.grownBy.refl W _,⟨[.bool false],rfl,rfl,trivial⟩,ob,hob,hq⟩
      unfold execOp
      simp only [hh.op,ex,Sem.run_bind,c3,Result.andThen_ok]
      rfl
    · obtain ⟨pa,pb,rfl,wa,wb⟩:=hV.inv c1
      have hne:g≠g2:=fun e=>hR.ne e.symm
      have hg':w'.heap[g]?=some (.map es clock):=(c8.block g (Array.getElem?_eq_some_iff.1 hg).1 (by simp;exact hne)).trans hg
      refine ⟨some ((pa,pb),kl,cnt'),_,w',⟨c1,wa,wb,has_in hat (p:=(pa,pb)) c1 c4,c7⟩,?_,c8,⟨[.bool true,pcv (pa,pb),v],rfl,rfl,rfl,trivial,trivial⟩,itr_of rfl hg' c6 (some (pa,pb)) (fun p e=>by cases e;exact ⟨_,c10⟩)⟩
      unfold execOp
      simp only [hh.op,ex,Sem.run_bind,c5,Result.andThen_ok]
      rfl
  · match x with
    | none=>exact fun h=>t0 h
    | some (p,kl,cnt')=>exact fun h=>t1 p kl cnt' h.1 h.2.1 h.2.2.1 h.2.2.2.1 h.2.2.2.2
end
section
variable {P:Program} {w0:World} {ok0:Nat→Prop} {N:Nat} {F:List Fact} {c:Code} {Q:Exit→Act→World→Prop}
theorem Tr.share0 {z:Code} {p:Prop} (F':List Fact) (h:p→Tr P w0 ok0 N F' z Q) (t:(p→Tr P w0 ok0 N F' z Q)→Tr P w0 ok0 N F c (Exit.then (z.wp P Q) Q)):Tr P w0 ok0 N F c (Exit.then (z.wp P Q) Q):=t h
theorem Tr.sub {F':List Fact} (hs:∀ f∈F',f∈F) (h:Tr P w0 ok0 N F' c Q):Tr P w0 ok0 N F c Q:=fun a W hS=>h a W (hS.mono hs)
theorem Tr.condF {x y:Code} (h:Tr P w0 ok0 N F y Q):Tr P w0 ok0 N F (.cond (.const (.bool false)) x y) Q:=fun a W hS=>wp_cond_false rfl (h a W hS)
theorem Tr.turn {α:Type} {C:α→Prop} {F1:List Fact} {l g:Nat} {q:HP} {q':α→HP} (k:Nat) (ks:List Nat) (hk:F[k]?=some (.h l g q)) (hp:pickM F l ks=some F1)
    (hq:∀ (ob:Obj) (ok:Nat→Prop) (W:World),q.H ok ob W→∃ x,C x∧∀ (ok:Nat→Prop),q.H ok ob W→(q' x).H ok ob W) (t:∀ x,C x→Tr P w0 ok0 N (.h l g (q' x) :: F1) c Q):Tr P w0 ok0 N F c Q:=fun a W hS=>by
  have hm:=List.mem_of_getElem? hk
  obtain ⟨ok,h1,h2,h3⟩:=hS.ex
  obtain ⟨ob,b1,b2,b3,b4⟩:=h3 _ hm
  obtain ⟨x,hC,hx⟩:=hq ob ok W b4
  have hF:∀ f∈Fact.h l g (q' x) :: F1,f = .h l g (q' x)∨f∈F:=fun f hf=>by
    rcases List.mem_cons.1 hf with rfl|hf
    · exact .inl rfl
    · exact .inr (pickM_mem hp f hf).1
  refine t x hC a W ⟨hS.hb,hS.h0,hS.hd,hS.hn,⟨ok,h1,h2,fun f hf=>?_⟩,fun f f' t t' hf hf' e e'=>?_,fun f f' l1 g1 t hf hf' e e'=>?_,fun f f' l1 g1 l2 g2 hf hf' e e'=>?_⟩
  · rcases hF f hf with rfl|hf
    · exact ⟨ob,b1,b2,b3,hx ok b4⟩
    · exact h3 f hf
  · rcases hF f hf with rfl|hf
    · cases e
    rcases hF f' hf' with rfl|hf'
    · cases e'
    exact hS.far f f' t t' hf hf' e e'
  · rcases hF f' hf' with rfl|hf'
    · cases e'
    rcases hF f hf with rfl|hf
    · cases e
      exact hS.farh _ f' l g t hm hf' rfl e'
    · exact hS.farh f f' l1 g1 t hf hf' e e'
  · rcases hF f hf with rfl|hf
    · cases e
      rcases hF f' hf' with rfl|hf'
      · cases e';exact hS.farl _ _ l g l g hm hm rfl rfl
      · exact hS.farl _ f' l g l2 g2 hm hf' rfl e'
    · rcases hF f' hf' with rfl|hf'
      · cases e';exact hS.farl f _ l1 g1 l g hf hm e rfl
      · exact hS.farl f f' l1 g1 l2 g2 hf hf' e e'
theorem Tr.pin {F1:List Fact} {l g n:Nat} {k e:TypeId} {S:List (Int × Int)} (k0:Nat) (ks:List Nat) (hk:F[k0]?=some (.h l g (HP.pset P k e n S))) (hp:pickM F l ks=some F1)
    (t:∀ es clock,Tr P w0 ok0 N (.h l g (HP.pin P k e n S es clock) :: F1) c Q):Tr P w0 ok0 N F c Q :=
  Tr.turn (α:=Array MapEntry × Nat) (C:=fun _=>True) (q':=fun x=>HP.pin P k e n S x.1 x.2) k0 ks hk hp (fun ob ok W h=>by
    have h0:=h
    obtain ⟨es,clock,e1,_⟩:=h0
    exact ⟨(es,clock),trivial,fun ok h=>⟨e1,h⟩⟩) (fun x _=>t x.1 x.2)
theorem Tr.ownh {F1:List Fact} {t:Tmp} {sz:Nat} {E:TypeId} {rows:List (List Value)} (l k:Nat) (ks:List Nat) (hk:F[k]?=some (.o t sz E rows)) (hne:rows≠[]) (hp:pickB F (fun f=>f.box==some t || (match f with | .h l' _ _=>l'==l|_=>false)) ks=some F1)
    (h:∀ g cap,Tr P w0 ok0 N (.s t (.is (.slice (some ⟨g,0,none⟩) rows.length cap)) :: .h l g (HP.own E sz cap rows.length rows.flatten) :: F1) c Q):Tr P w0 ok0 N F c Q:=fun a W hS=>by
  have hm:=List.mem_of_getElem? hk
  obtain ⟨ok,h1,h2,h3⟩:=hS.ex
  have ho:Owns _ _ _ _ _ _ _:=h3 _ hm
  obtain ⟨g,cap,ev⟩:∃ g cap,a.tmps.getD t undef = .slice (some ⟨g,0,none⟩) rows.length cap:=by
    rcases ho.row.2 with ⟨e,e0⟩|⟨g,cap,cur,e,_⟩
    · exact absurd (List.length_eq_zero_iff.1 e0) hne
    · exact ⟨g,cap,e⟩
  have hrow:=ho.row
  rw [ev] at hrow
  obtain ⟨hB,ob,b1,b2⟩:=HP.own_of ok hrow
  have hng:¬ ok g:=ho.fr g (by rw [ev];rfl)
  have hbl:blk (a.tmps.getD t undef)=some g:=by rw [ev];rfl
  have hF:∀ f∈F1,f∈F∧f.box≠some t∧∀ l' g',f.lab=some (l',g')→l'≠l:=fun f hf=>by
    obtain ⟨h4,h5⟩:=pickB_mem hp f hf
    rw [Bool.or_eq_false_iff] at h5
    refine ⟨h4,fun e=>by rw [e] at h5;simp at h5,fun l' g' e=>?_⟩
    cases f<;>simp [Fact.lab] at e
    obtain ⟨rfl,rfl⟩:=e
    simpa using h5.2
  refine h g cap a W ⟨hS.hb,hS.h0,hS.hd,hS.hn,⟨ok,h1,h2,fun f hf=>?_⟩,fun f f' t1 t2 hf hf' e e'=>?_,fun f f' l1 g1 t1 hf hf' e e'=>?_,fun f f' l1 g1 l2 g2 hf hf' e e'=>?_⟩
  · rcases List.mem_cons.1 hf with rfl|hf
    · exact ev
    rcases List.mem_cons.1 hf with rfl|hf
    · exact ⟨ob,b1,hng,hB,b2⟩
    · exact h3 f (hF f hf).1
  · rcases List.mem_cons.1 hf with rfl|hf
    · cases e
    rcases List.mem_cons.1 hf with rfl|hf
    · cases e
    rcases List.mem_cons.1 hf' with rfl|hf'
    · cases e'
    rcases List.mem_cons.1 hf' with rfl|hf'
    · cases e'
    exact hS.far f f' t1 t2 (hF f hf).1 (hF f' hf').1 e e'
  · rcases List.mem_cons.1 hf' with rfl|hf'
    · cases e'
    rcases List.mem_cons.1 hf' with rfl|hf'
    · cases e'
    rcases List.mem_cons.1 hf with rfl|hf
    · cases e
    rcases List.mem_cons.1 hf with rfl|hf
    · cases e
      have hne':t≠t1:=fun e=>(hF f' hf').2.1 (e ▸ e')
      exact hS.far _ f' t t1 hm (hF f' hf').1 rfl e' hne' g hbl
    · exact hS.farh f f' l1 g1 t1 (hF f hf).1 (hF f' hf').1 e e'
  · rcases List.mem_cons.1 hf with rfl|hf
    · cases e
    rcases List.mem_cons.1 hf' with rfl|hf'
    · cases e'
    rcases List.mem_cons.1 hf with rfl|hf
    · cases e
      rcases List.mem_cons.1 hf' with rfl|hf'
      · cases e';exact fun hn=>absurd rfl hn
      · exact fun hn he=>hS.farh f' _ l2 g2 t (hF f' hf').1 hm e' rfl (hbl.trans (congrArg some he))
    · rcases List.mem_cons.1 hf' with rfl|hf'
      · cases e'
        exact fun hn he=>hS.farh f _ l1 g1 t (hF f hf).1 hm e rfl (hbl.trans (congrArg some he.symm))
      · exact hS.farl f f' l1 g1 l2 g2 (hF f hf).1 (hF f' hf').1 e e'
end
section
variable {P:Program} {w0:World} {ok0:Nat→Prop} {N:Nat} {R:Rg} {ops:Array Oper} {Q:Exit→Act→World→Prop} {i:Nat} {o:Oper}
theorem entr {d:Tmp} {x:Operand} {k e:TypeId} {lm l g g2 n cnt clock:Nat} {S:List (Int × Int)} {es:Array MapEntry} {left:Lit→Bool} {p:Int × Int} (hh:Pl R ops i o (some d) (.entry x) true) (hx:Vl R i x (.is (ptr g2 0))) (hm:R.Nd i (.h lm g (HP.pin P k e n S es clock))) (hb:R.Nd i (.h l g2 (HP.itr P k e g es clock left cnt (some p)))) :
    Does P w0 ok0 N R ops Q i o (some (.s d (.tup [.is (pcv p),SP.any]))) :=
  does_s hh fun ok a W hf hk K hK=>by
    obtain ⟨om,m1,_,_,m4⟩:=hf _ hm
    have hg:W.heap[g]?=some (.map es clock):=m1.trans (by rw [m4.1])
    obtain ⟨oi,i1,_,_,since,seen,c0,rfl,hcur,_⟩:=hf _ hb
    obtain ⟨stamp,e0,s1,s2,s3,s4⟩:=hcur p rfl
    have ex:a.eval x=ptr g2 0:=hx.H hf
    have er:(execOp a.eval o).run P W = .ok (.value (.tuple #[e0.key,e0.val])) W:=by
      unfold execOp
      simp only [hh.op,ex,Sem.run_bind,entry_of i1 hg s1 s2 s3,Result.andThen_ok]
      rfl
    unfold Oper.wp
    rw [er]
    exact hK _ W (Below.refl _ _) ⟨[e0.key,e0.val],rfl,s4,trivial,trivial⟩
theorem lkpo {d:Tmp} {x y:Operand} {T k e:TypeId} {l g n clock:Nat} {es:Array MapEntry} {S:List (Int × Int)} {a b:Int} {r:Bool} (hh:Pl R ops i o (some d) (.lookup T x y false) true) (hT:P.underlying T=some (.map k e)) (hK:KeyTy P k) (he:P.underlying e=some .bool) (hz:∀ W,(zeroValue e).run P W = .ok (.bool false) W)
    (hx:Vl R i x (.is (.map (some g)))) (hb:R.Nd i (.h l g (HP.pin P k e n S es clock))) (hy:Vl R i y (.is (.agg #[.int .i64 a,.int .i64 b]))) (wa:(Lit.int .i64 a).wf=true) (wb:(Lit.int .i64 b).wf=true) (hr:decide ((a,b)∈S)=r):Does P w0 ok0 N R ops Q i o (some (.s d (bb r))) :=
  pure_ hh fun ok a' W hf=>by
    obtain ⟨ob,h1,_,h3,hq⟩:=hf _ hb
    obtain ⟨D,hD,hat⟩:=pset_own hq.2 h1
    obtain ⟨kl,hkl⟩:=hK.hk a b wa wb
    obtain ⟨v,ps,hrun,hv⟩:=hD.lookup hK.K hT (hz W) (plainElem_bool he false) hkl
    have ex:a'.eval x = .map (some g):=hx.H hf
    have ey:a'.eval y = .agg #[.int .i64 a,.int .i64 b]:=hy.H hf
    rw [hat (a,b) kl hkl,show (if (a,b)∈S then DataW.lit (.bool true) else DataW.lit (.bool false))=(DataW.lit (.bool (decide ((a,b)∈S))):DataW Nat) by by_cases h:(a,b)∈S<;>simp [h]] at hv
    have ev:v = .bool r:=by
      unfold plainElem at hv
      rw [he] at hv
      cases v<;>simp at hv
      rw [← hr,← hv.1]
    unfold execOp
    simp only [hh.op,ex,ey,Sem.run_bind,hrun,Result.andThen_ok,ev]
    rfl
theorem skpnu {d t:Tmp} {op:Op} {ty:TypeId} {ps:String} {af:Array Edge} {j:Nat} {want:Bool} (hn:Vl R i (.tmp t) (.is undef)) (ht:(ops[j]?).bind (·.dst)=some t) :
    Does P w0 ok0 N R ops Q i ⟨some d,op,ty,ps,af,some (j,want)⟩ (some (.s d (.is undef))):=by
  intro l Φ a W hdN hnd hS hΦ
  obtain ⟨ok,h1,h2,h3⟩:=hS.ex
  have hf:∀ f,R.Nd i f→f.holds w0.heap.size ok a W:=fun f hf=>h3 f (hnd f hf)
  have hw:Region.wanted ⟨some d,op,ty,ps,af,some (j,want)⟩ (yielded ops a.tmps)=false:=by
    have:a.tmps.getD t undef=undef:=hn.H hf
    unfold Region.wanted
    simp only [yielded,ht,Option.bind_some]
    rw [Array.getD_eq_getD_getElem?] at this
    cases h:a.tmps[t]? with
    | none=>rfl
    | some v=>rw [h] at this;simp at this;rw [this];rfl
  rw [if_neg (by rw [hw];simp)]
  refine hS.put_s (hdN d rfl) (Below.refl _ _) h1 h2 h3 (p := .is undef) rfl (fun f hΦf=>?_)
  rcases hΦ f hΦf with h|⟨h,hu⟩
  · cases h;exact .inl rfl
  · exact .inr ⟨h,undoes_on rfl hu⟩
end
section
variable {P:Program} {w0:World} {ok0:Nat→Prop} {N:Nat} {F:List Fact} {fn:Func}
theorem end_nil (hr:fn.results=#[]):Nx w0 ok0 N F (fun a W=>bodyPost P fn (Ret w0 ok0 (.tup [])) .ret a W):=fun a W hS=>by
  obtain ⟨ok,h1,h2,h3⟩:=hS.ex
  refine ⟨hS.hd,.tuple #[],by simp [results,hr],⟨_,rfl,⟨[],rfl,trivial⟩,hS.hb⟩⟩
theorem end_nilN (hr:fn.results=#[]):Nx w0 ok0 N F (fun a W=>bodyPost P fn (Ret w0 ok0 (.tup [])) .normal a W):=end_nil hr
theorem end_wrR {W0:World} {g l n sz cap:Nat} {E:TypeId} {xs:List Value} (k j:Nat) (hr:fn.results=#[]) (hk:F[k]?=some (.h l g (HP.own E sz cap n xs))) (hj:F[j]?=some (.v [undef] [SP.same W0 g])) :
    Nx { W0 with heap:=#[] } (fun _=>True) N F (fun a W=>bodyPost P fn (Wrt W0 g E sz cap n xs) .ret a W):=end_wr k j hr hk hj
end
end Go.Proofs.YtkgagdjogedoiaaGreat.Fx

set_option linter.unusedVariables false
set_option linter.unusedSimpArgs false
namespace Go.Proofs.YtkgagdjogedoiaaGreat
open Go Go.RowKit Go.Proofs.YtkgagdjogedoiaaGreat.Fx Go.Proofs.YtkgagdjogedoiaaGreatW.PrintWords
theorem lits_int {d:Nat} {x:Value} {ls:List Lit} (h:Tryz.prog.keyLits (d+1) 3 [x]=some ls):∃ n:Int,x = .int .i64 n∧(Lit.int .i64 n).wf=true:=by
 unfold Program.keyLits at h
 simp only [Tryz.underlying3] at h
 cases x with
 | int q n =>
  simp only at h
  split at h
  ·rename_i hc
   obtain ⟨rfl,hw⟩:=hc
   exact ⟨n,rfl,hw⟩
  ·cases h
 | _=>cases h
theorem invS:KeyInv Tryz.prog 28:=⟨fun {v l} h=>by
 obtain ⟨m,hm⟩:=sizeT
 unfold keyOf at h
 simp only [Tryz.underlying28] at h
 split at h
 ·cases hk:Tryz.prog.keyLits (Tryz.prog.types.size+1) 28 v.cells.toList with
  | none=>rw [hk] at h;cases h
  | some ls =>
   rw [hm] at hk
   unfold Program.keyLits at hk
   simp only [Tryz.underlying28] at hk
   split at hk
   ·rename_i hc
    have hl:v.cells.toList.length=2:=by rw [hc.1,cellsS]
    obtain ⟨x,y,e⟩:∃ x y,v.cells.toList=[x,y]:=by
     match hv:v.cells.toList,hl with
     | [x,y],_=>exact ⟨x,y,rfl⟩
    rw [e] at hk
    simp [cellsI] at hk
    cases h1:Tryz.prog.keyLits (m+2) 3 [x] with
    | none=>rw [h1] at hk;cases hk
    | some l1 =>
     cases h2:Tryz.prog.keyLits (m+2) 3 [y] with
     | none=>rw [h1,h2] at hk;simp at hk
     | some l2 =>
      obtain ⟨a,rfl,wa⟩:=lits_int h1
      obtain ⟨b,rfl,wb⟩:=lits_int h2
      refine ⟨a,b,?_,wa,wb⟩
      cases v with
      | agg cs=>rw [show cs=#[.int .i64 a,.int .i64 b] from Array.toList_inj.1 e]
      | _=>cases e
   ·cases hk
 ·cases h⟩
end Go.Proofs.YtkgagdjogedoiaaGreat

set_option linter.unusedVariables false
set_option linter.unusedSimpArgs false
namespace Go.Proofs.YtkgagdjogedoiaaGreat.Fx
open Go Go.RowKit Go.Proofs.YtkgagdjogedoiaaGreatW.PrintWords
section
variable {P:Program} {w0:World} {ok0:Nat→Prop} {N:Nat} {R:Rg} {ops:Array Oper} {Q:Exit→Act→World→Prop} {i:Nat} {o:Oper}
theorem app_none {W:World} {S E:TypeId} {ty:TypeId} {ii:TypeInfo} (hT:P.underlying S=some (.slice E)) (hi:P.info? E=some ii) (A:Option Addr) (c:Nat):(Builtin.append_ #[S,S] ty #[.slice none 0 0,.slice A 0 c]).run P W = .ok (.slice none 0 0) W:=by
  unfold Builtin.append_
  cases A<;>simp [Sem.run_bind,run_underlying hT,Result.andThen_ok,sizeOf,typeInfo,program,Sem.run,hi,Builtin.lenOf,Builtin.firstCells,loadCells,loadCellsFrom,Result.andThen]
theorem apn {d:Tmp} {x y:Operand} {S E:TypeId} {sz bytes:Nat} {rs:List (List Value)} (hh:Pl R ops i o (some d) (.call { callee := .builtin .append,args:=#[x,y],argTypes:=#[S,S] }) true) (hT:AppTy P S E sz bytes)
    (hx:Vl R i x (.is (.slice none 0 0))) (hy:Vl R i y (.vec sz rs)) (h1c:(rs.all fun r=>r.length==sz && r.all (·.oneCell'))=true) (hb:bytes≤24) (hl:rs.length≤5000000):Does P w0 ok0 N R ops Q i o (some (.o d sz E rs)):=by
  intro l Φ a W hdN hnd hS hΦ
  obtain ⟨ok,h1,h2,h3⟩:=hS.ex
  have hfs:=fun f hf=>h3 f (hnd f hf)
  rw [if_pos (hh.wanted hfs)]
  obtain ⟨ii,z,hi,hz,hsize,hbytes,hzs⟩:=hT.i
  have ex:a.eval x = .slice none 0 0:=hx.H hfs
  obtain ⟨A,c,ey,hc,hfoot⟩:=hy.H hfs
  have hrs:∀ r∈rs,r.length=sz∧∀ u∈r,u.oneCell'=true:=fun r hr=>by
    have:=List.all_eq_true.1 h1c r hr
    rw [Bool.and_eq_true,beq_iff_eq,List.all_eq_true] at this
    exact this
  obtain ⟨v',w',hr,r1,r2,r3⟩:∃ v' w',(Builtin.append_ #[S,S] o.type #[.slice none 0 0,.slice A rs.length c]).run P W = .ok v' w'∧w'.ownsRow w0.heap.size E sz v' rs.length rs.flatten∧W.grownBy w' none∧∀ g,v'.ownBlock=some g→W.heap.size≤g:=by
    by_cases hne:0 < rs.length
    · obtain ⟨ad,rfl,hcells⟩:=hfoot W (fun _ _ _=>rfl) hne
      have hby:=Nat.mul_le_mul (show 0+rs.length≤5000000 by omega) hb
      obtain ⟨v',w',hr,r1,r2,r3⟩:=append_at (P:=P) W w0.heap.size S o.type E ii z sz bytes hT.u hi hz hsize hbytes hzs hT.pos (.slice none 0 0) 0 [] (World.ownsRow_nil W _ E sz) ad rs.length c rs.flatten (flat_len rs fun r hr=>(hrs r hr).1)
        (fun j u hj=>by
          obtain ⟨r,e1,e2⟩:=flat_at hT.pos rs (fun r hr=>(hrs r hr).1) j u hj
          have:=(hcells (j / sz) r e1).2 (j % sz) u e2
          rw [Nat.mul_comm,Nat.div_add_mod] at this
          exact this)
        (fun u hu=>by
          obtain ⟨r,hr,hu⟩:=List.mem_flatten.1 hu
          exact (hrs r hr).2 u hu) (by unfold maxLen;omega) (by omega) hS.hb.size
      refine ⟨v',w',hr,by simpa using r1,r2,fun g hg=>?_⟩
      rcases r3 g hg with e|e
      · cases e
      · exact e
    · obtain rfl:rs=[]:=List.length_eq_zero_iff.1 (by omega)
      exact ⟨_,W,app_none hT.u hi A c,World.ownsRow_nil W _ E sz,World.grownBy.refl W none,fun g h=>by cases h⟩
  have hlt:∀ g,v'.ownBlock=some g→g < w'.heap.size:=fun g hg=>(r1.lt g hg).2
  have hown':Owns w0.heap.size (fun k=>ok k∧v'.ownBlock≠some k) w' sz E rs v':=⟨r1,fun g hg hk=>hk.2 hg,fun r hr=>(hrs r hr).1⟩
  have key:St w0 ok0 N Φ (a.put (some d) v') w' :=
    hS.put_g (K:=fun f=>R.Av l f∧f.on d=false) (row:=none) (ok':=fun k=>ok k∧v'.ownBlock≠some k) (fn := .o d sz E rs) (hdN d hh.dst) r2 h3 (fun k e=>by cases e)
      (fun k hk=>h1 k hk.1) (fun k hk=>⟨h2 k (Nat.le_trans r2.size hk),fun e=>by have:=hlt k e;omega⟩)
      (fun k hk hlt'=>⟨⟨hk,fun e=>by have:=r3 k e;omega⟩,by simp⟩)
      (fun f hf=>⟨hf.1,hf.2,fun t' ht' g hg=>⟨by simp,fun hk=>(box_lt ht' (h3 f hf.1) g hg).2.2 hk.1⟩⟩)
      (fun f l g hf e=>⟨by simp,fun hk=>(lab_lt e (h3 f hf.1)).2.2 hk.1⟩)
      (by show Owns _ _ _ _ _ _ _;rw [getD_put_self (by rw [hS.hn];exact hdN d hh.dst)];exact hown')
      (fun t1 ht1=>⟨by simpa [Fact.box] using ht1.symm,fun f' t' hf' ht' g e hg=>by
        rw [hown'.blk] at e
        have e1:=r3 g e
        have:=(box_lt ht' (h3 f' hf'.1) g hg).2.1;omega⟩) rfl
      (.inr fun f l g hf e hg=>by
        rw [hown'.blk] at hg
        have e1:=r3 g hg
        have:=(lab_lt e (h3 f hf.1)).2.1;omega)
      (fun f hf=>by
        rcases hΦ f hf with h|⟨h,hu⟩
        · cases h;exact .inl rfl
        · exact .inr ⟨h,undoes_on hh.dst hu⟩)
  unfold Oper.wp execOp
  simp only [hh.op,resolve,invoke,builtin,Sem.run_bind,Sem.run_pure,Result.andThen_ok,List.map_toArray,List.map_cons,List.map_nil,ex,ey,hr]
  rw [← hh.dst] at key
  exact key
theorem fadh {d:Tmp} {x:Operand} {g off k:Nat} {T:TypeId} (hh:Pl R ops i o (some d) (.fieldAddr T x k) true) (hx:Vl R i x (.is (ptr g 0))) (hF:FieldTy P T k off):Does P w0 ok0 N R ops Q i o (some (.s d (.is (ptr g off)))) :=
  pure_ hh fun ok a W hf=>by
    obtain ⟨fs,fl,hT,hk',hp⟩:=hF.out
    have hev:a.eval x=ptr g 0:=hx.H hf
    unfold execOp
    simp only [hh.op,hev,Instr.fieldAt,Sem.run_bind,run_underlying hT W,Result.andThen_ok,hk',Instr.sureAddr,Sem.run_pure,hp g W]
end
section
variable {P:Program} {w0:World} {ok0:Nat→Prop} {N:Nat} {F:List Fact} {c:Code} {Q:Exit→Act→World→Prop}
theorem Tr.boxh {F1:List Fact} {t:Tmp} {v:Value} {T:TypeId} {n:Nat} (cs:List Value) (l k:Nat) (ks:List Nat) (hk:F[k]?=some (.b t (.is v) T n)) (hv:v = .agg cs.toArray) (hp:pickB F (fun f=>f.box==some t || (match f with | .h l' _ _=>l'==l|_=>false)) ks=some F1)
    (h:∀ g,Tr P w0 ok0 N (.s t (.is (ptr g 0)) :: .h l g (HP.own T n 1 1 cs) :: F1) c Q):Tr P w0 ok0 N F c Q:=fun a W hS=>by
  have hm:=List.mem_of_getElem? hk
  obtain ⟨ok,h1,h2,h3⟩:=hS.ex
  obtain ⟨g,cur,ev,hng,hB,hg,hsz,hq⟩:=h3 _ hm
  have hcur:cur=cs.toArray:=by
    have:Value.agg cur=v:=hq
    rw [hv] at this
    cases this;rfl
  have hbl:blk (a.tmps.getD t undef)=some g:=by rw [ev];rfl
  have hF:∀ f∈F1,f∈F∧f.box≠some t∧∀ l' g',f.lab=some (l',g')→l'≠l:=fun f hf=>by
    obtain ⟨h4,h5⟩:=pickB_mem hp f hf
    rw [Bool.or_eq_false_iff] at h5
    refine ⟨h4,fun e=>by rw [e] at h5;simp at h5,fun l' g' e=>?_⟩
    cases f<;>simp [Fact.lab] at e
    obtain ⟨rfl,rfl⟩:=e
    simpa using h5.2
  refine h g a W ⟨hS.hb,hS.h0,hS.hd,hS.hn,⟨ok,h1,h2,fun f hf=>?_⟩,fun f f' t1 t2 hf hf' e e'=>?_,fun f f' l1 g1 t1 hf hf' e e'=>?_,fun f f' l1 g1 l2 g2 hf hf' e e'=>?_⟩
  · rcases List.mem_cons.1 hf with rfl|hf
    · exact ev
    rcases List.mem_cons.1 hf with rfl|hf
    · refine ⟨_,hg,hng,hB,cur,rfl,Nat.le_refl _,by unfold maxLen;omega,by rw [hsz,Nat.one_mul],?_,?_⟩
      · rw [← hsz,hcur];simp
      · rw [← hsz,hcur];simp
    · exact h3 f (hF f hf).1
  · rcases List.mem_cons.1 hf with rfl|hf
    · cases e
    rcases List.mem_cons.1 hf with rfl|hf
    · cases e
    rcases List.mem_cons.1 hf' with rfl|hf'
    · cases e'
    rcases List.mem_cons.1 hf' with rfl|hf'
    · cases e'
    exact hS.far f f' t1 t2 (hF f hf).1 (hF f' hf').1 e e'
  · rcases List.mem_cons.1 hf' with rfl|hf'
    · cases e'
    rcases List.mem_cons.1 hf' with rfl|hf'
    · cases e'
    rcases List.mem_cons.1 hf with rfl|hf
    · cases e
    rcases List.mem_cons.1 hf with rfl|hf
    · cases e
      have hne':t≠t1:=fun e=>(hF f' hf').2.1 (e ▸ e')
      exact hS.far _ f' t t1 hm (hF f' hf').1 rfl e' hne' g hbl
    · exact hS.farh f f' l1 g1 t1 (hF f hf).1 (hF f' hf').1 e e'
  · rcases List.mem_cons.1 hf with rfl|hf
    · cases e
    rcases List.mem_cons.1 hf' with rfl|hf'
    · cases e'
    rcases List.mem_cons.1 hf with rfl|hf
    · cases e
      rcases List.mem_cons.1 hf' with rfl|hf'
      · cases e';exact fun hn=>absurd rfl hn
      · exact fun hn he=>hS.farh f' _ l2 g2 t (hF f' hf').1 hm e' rfl (hbl.trans (congrArg some he))
    · rcases List.mem_cons.1 hf' with rfl|hf'
      · cases e'
        exact fun hn he=>hS.farh f _ l1 g1 t (hF f hf).1 hm e rfl (hbl.trans (congrArg some he.symm))
      · exact hS.farl f f' l1 g1 l2 g2 (hF f hf).1 (hF f' hf').1 e e'
end
/-! ### The steps that change the words alone, whatever is to follow -/
section
variable {w0:World} {ok0:Nat→Prop} {N:Nat} {F:List Fact} {K:Act→World→Prop}
theorem Nx.more {f':Fact} (hb:f'.box=none) (hl:f'.lab=none) (h:∀ (ok:Nat→Prop) (a:Act) (W:World),(∀ f∈F,f.holds w0.heap.size ok a W)→f'.holds w0.heap.size ok a W) (t:Nx w0 ok0 N (f' :: F) K):Nx w0 ok0 N F K:=fun a W hS =>
  t a W (hS.ghost fun ok h3 f hf=>by
    rcases List.mem_cons.1 hf with rfl|hf
    · exact .inr ⟨hb,hl,h ok a W h3⟩
    · exact .inl hf)
theorem Nx.name {t:Tmp} {sz:Nat} {rows:List (List Value)} (k:Nat) (hk:F[k]?=some (.s t (.vec sz rows))) (h:∀ A cap,Nx w0 ok0 N (.s t (.is (.slice A rows.length cap)) :: .v [.slice A rows.length cap] [.vec sz rows] :: F) K):Nx w0 ok0 N F K:=fun a W hS=>by
  obtain ⟨ok,h1,h2,h3⟩:=hS.ex
  have hm:=h3 _ (List.mem_of_getElem? hk)
  obtain ⟨A,cap,e⟩:=SP.vec_val (show (SP.vec sz rows).H ok (a.tmps.getD t undef) W from hm)
  refine h A cap a W ?_
  have hm':(SP.vec sz rows).H ok (a.tmps.getD t undef) W:=hm
  rw [e] at hm'
  refine ⟨hS.hb,hS.h0,hS.hd,hS.hn,⟨ok,h1,h2,fun f hf=>?_⟩,fun f f' t t' hf hf' e e'=>?_,fun f f' l g t hf hf' e e'=>?_,fun f f' l g l' g' hf hf' e e'=>?_⟩
  · rcases List.mem_cons.1 hf with rfl|hf
    · exact e
    rcases List.mem_cons.1 hf with rfl|hf
    · exact ⟨hm',trivial⟩
    exact h3 f hf
  all_goals
    (rcases List.mem_cons.1 hf with rfl|hf
     · cases e
     rcases List.mem_cons.1 hf with rfl|hf
     · cases e
     rcases List.mem_cons.1 hf' with rfl|hf'
     · cases e'
     rcases List.mem_cons.1 hf' with rfl|hf'
     · cases e')
  · exact hS.far f f' _ _ hf hf' e e'
  · exact hS.farh f f' _ _ _ hf hf' e e'
  · exact hS.farl f f' _ _ _ _ hf hf' e e'
theorem Nx.frzo {F1:List Fact} {t:Tmp} {sz:Nat} {E:TypeId} {rows:List (List Value)} (k:Nat) (ks:List Nat) (hk:F[k]?=some (.o t sz E rows)) (hp:pickB F (fun f=>f.own==some t) ks=some F1)
    (h:Nx w0 ok0 N (.s t (.vec sz rows) :: F1) K):Nx w0 ok0 N F K:=fun a W hS=>by
  have hmk:=List.mem_of_getElem? hk
  obtain ⟨ok1,h1,h2,h31⟩:=hS.ex
  have hown:Owns w0.heap.size ok1 W sz E rows (a.tmps.getD t undef):=h31 _ hmk
  cases hb:(a.tmps.getD t undef).ownBlock with
  | none =>
    refine h a W (hS.ghost fun ok h3 f hf=>?_)
    rcases List.mem_cons.1 hf with rfl|hf
    · right
      refine ⟨rfl,rfl,?_⟩
      refine SP.mono _ (fun k hk=>?_) (owns_vec (ok:=ok) hown.row hown.sz)
      rcases hk with hk|hk
      · exact hk
      · rw [hb] at hk;cases hk
    · exact .inl (pickB_mem hp f hf).1
  | some g =>
    refine h a W (hS.freeze (g:=g) (hown.row.lt g hb).1 fun ok h3 f hf=>?_)
    rcases List.mem_cons.1 hf with rfl|hf
    · right
      refine ⟨rfl,rfl,?_⟩
      refine SP.mono _ (fun k hk=>?_) (owns_vec (ok:=ok) hown.row hown.sz)
      rcases hk with hk|hk
      · exact .inl hk
      · rw [hb] at hk;cases hk;exact .inr rfl
    · left
      obtain ⟨hF,hbf⟩:=pickB_mem hp f hf
      refine ⟨hF,fun t' ht' e=>?_,fun l g' hl' e=>?_⟩
      · by_cases ht:t=t'
        · subst ht
          have:=box_own ht' (h31 f hF) hown
          rw [this] at hbf;simp at hbf
        · exact hS.far _ f t t' hmk hF rfl ht' ht g (hown.blk.trans hb) e
      · subst e
        exact hS.farh f _ l _ t hF hmk hl' rfl (hown.blk.trans hb)
theorem Nx.ownh {F1:List Fact} {t:Tmp} {sz:Nat} {E:TypeId} {rows:List (List Value)} (l k:Nat) (ks:List Nat) (hk:F[k]?=some (.o t sz E rows)) (hne:rows≠[]) (hp:pickB F (fun f=>f.box==some t || (match f with | .h l' _ _=>l'==l|_=>false)) ks=some F1)
    (h:∀ g cap,Nx w0 ok0 N (.s t (.is (.slice (some ⟨g,0,none⟩) rows.length cap)) :: .h l g (HP.own E sz cap rows.length rows.flatten) :: F1) K):Nx w0 ok0 N F K:=fun a W hS=>by
  have hm:=List.mem_of_getElem? hk
  obtain ⟨ok,h1,h2,h3⟩:=hS.ex
  have ho:Owns _ _ _ _ _ _ _:=h3 _ hm
  obtain ⟨g,cap,ev⟩:∃ g cap,a.tmps.getD t undef = .slice (some ⟨g,0,none⟩) rows.length cap:=by
    rcases ho.row.2 with ⟨e,e0⟩|⟨g,cap,cur,e,_⟩
    · exact absurd (List.length_eq_zero_iff.1 e0) hne
    · exact ⟨g,cap,e⟩
  have hrow:=ho.row
  rw [ev] at hrow
  obtain ⟨hB,ob,b1,b2⟩:=HP.own_of ok hrow
  have hng:¬ ok g:=ho.fr g (by rw [ev];rfl)
  have hbl:blk (a.tmps.getD t undef)=some g:=by rw [ev];rfl
  have hF:∀ f∈F1,f∈F∧f.box≠some t∧∀ l' g',f.lab=some (l',g')→l'≠l:=fun f hf=>by
    obtain ⟨h4,h5⟩:=pickB_mem hp f hf
    rw [Bool.or_eq_false_iff] at h5
    refine ⟨h4,fun e=>by rw [e] at h5;simp at h5,fun l' g' e=>?_⟩
    cases f<;>simp [Fact.lab] at e
    obtain ⟨rfl,rfl⟩:=e
    simpa using h5.2
  refine h g cap a W ⟨hS.hb,hS.h0,hS.hd,hS.hn,⟨ok,h1,h2,fun f hf=>?_⟩,fun f f' t1 t2 hf hf' e e'=>?_,fun f f' l1 g1 t1 hf hf' e e'=>?_,fun f f' l1 g1 l2 g2 hf hf' e e'=>?_⟩
  · rcases List.mem_cons.1 hf with rfl|hf
    · exact ev
    rcases List.mem_cons.1 hf with rfl|hf
    · exact ⟨ob,b1,hng,hB,b2⟩
    · exact h3 f (hF f hf).1
  · rcases List.mem_cons.1 hf with rfl|hf
    · cases e
    rcases List.mem_cons.1 hf with rfl|hf
    · cases e
    rcases List.mem_cons.1 hf' with rfl|hf'
    · cases e'
    rcases List.mem_cons.1 hf' with rfl|hf'
    · cases e'
    exact hS.far f f' t1 t2 (hF f hf).1 (hF f' hf').1 e e'
  · rcases List.mem_cons.1 hf' with rfl|hf'
    · cases e'
    rcases List.mem_cons.1 hf' with rfl|hf'
    · cases e'
    rcases List.mem_cons.1 hf with rfl|hf
    · cases e
    rcases List.mem_cons.1 hf with rfl|hf
    · cases e
      have hne':t≠t1:=fun e=>(hF f' hf').2.1 (e ▸ e')
      exact hS.far _ f' t t1 hm (hF f' hf').1 rfl e' hne' g hbl
    · exact hS.farh f f' l1 g1 t1 (hF f hf).1 (hF f' hf').1 e e'
  · rcases List.mem_cons.1 hf with rfl|hf
    · cases e
    rcases List.mem_cons.1 hf' with rfl|hf'
    · cases e'
    rcases List.mem_cons.1 hf with rfl|hf
    · cases e
      rcases List.mem_cons.1 hf' with rfl|hf'
      · cases e';exact fun hn=>absurd rfl hn
      · exact fun hn he=>hS.farh f' _ l2 g2 t (hF f' hf').1 hm e' rfl (hbl.trans (congrArg some he))
    · rcases List.mem_cons.1 hf' with rfl|hf'
      · cases e'
        exact fun hn he=>hS.farh f _ l1 g1 t (hF f hf).1 hm e rfl (hbl.trans (congrArg some he.symm))
      · exact hS.farl f f' l1 g1 l2 g2 (hF f hf).1 (hF f' hf').1 e e'
end
/-! ### The steps that change the words alone, between two operations -/
section
variable {P:Program} {w0:World} {ok0:Nat→Prop} {N:Nat} {ops:Array Oper} {Q:Exit→Act→World→Prop} {F F1:List Fact} {i:Nat} {o:Oper} {r:List Oper}
theorem Go.ghost {α:Sort _} {F':α→List Fact} (h:∀ K,(∀ x,Nx w0 ok0 N (F' x) K)→Nx w0 ok0 N F K) (t:∀ x,Go P w0 ok0 N ops Q i r (F' x)):Go P w0 ok0 N ops Q i r F:=fun hr =>
  h (fun a W=>wpOps P ops Q (List.range' i r.length) a W) fun x=>t x hr
theorem Go.ownh {t:Tmp} {sz:Nat} {E:TypeId} {rows:List (List Value)} (l k:Nat) (ks:List Nat) (hk:F[k]?=some (.o t sz E rows)) (hne:rows≠[]) (hp:pickB F (fun f=>f.box==some t || (match f with | .h l' _ _=>l'==l|_=>false)) ks=some F1)
    (h:∀ g cap,Go P w0 ok0 N ops Q i r (.s t (.is (.slice (some ⟨g,0,none⟩) rows.length cap)) :: .h l g (HP.own E sz cap rows.length rows.flatten) :: F1)):Go P w0 ok0 N ops Q i r F :=
  Go.ghost (α:=Nat × Nat) (fun K hh=>Nx.ownh l k ks hk hne hp fun g cap=>hh (g,cap)) fun x=>h x.1 x.2
theorem Go.frzo {t:Tmp} {sz:Nat} {E:TypeId} {rows:List (List Value)} (k:Nat) (ks:List Nat) (hk:F[k]?=some (.o t sz E rows)) (hp:pickB F (fun f=>f.own==some t) ks=some F1)
    (h:Go P w0 ok0 N ops Q i r (.s t (.vec sz rows) :: F1)):Go P w0 ok0 N ops Q i r F :=
  Go.ghost (α:=Unit) (fun K hh=>Nx.frzo k ks hk hp (hh ())) fun _=>h
theorem Go.name {t:Tmp} {sz:Nat} {rows:List (List Value)} (k:Nat) (hk:F[k]?=some (.s t (.vec sz rows))) (h:∀ A cap,Go P w0 ok0 N ops Q i r (.s t (.is (.slice A rows.length cap)) :: .v [.slice A rows.length cap] [.vec sz rows] :: F)):Go P w0 ok0 N ops Q i r F :=
  Go.ghost (α:=Option Addr × Nat) (fun K hh=>Nx.name k hk fun A cap=>hh (A,cap)) fun x=>h x.1 x.2
end
/-! ### A mesh whose places are a row of the call's own -/
def SP.meshO (g cap n:Nat) (q1 q2:SP):SP :=
  ⟨fun ok v W=>∃ b c,v = .agg #[.slice (some ⟨g,0,none⟩) n cap,b,c]∧Args ok W [q1,q2] [b,c],fun hk ⟨b,c,e,h⟩=>⟨b,c,e,h.mono hk⟩,fun ⟨b,c,e,h⟩=>⟨b,c,e,h.bound⟩,fun ⟨b,c,e,h⟩ hm=>⟨b,c,e,h.step hm⟩⟩
section
variable {g cap n:Nat} {q1 q2:SP}
instance {sz1 sz2:Nat} {r1 r2:List (List Value)}:AggSP (SP.meshO g cap n (.vec sz1 r1) (.vec sz2 r2)) 3:=⟨fun ⟨b,c,e,h⟩=>by
  obtain ⟨A,m,e1⟩:=SP.vec_val h.1
  obtain ⟨A',m',e2⟩:=SP.vec_val h.2.1
  exact ⟨_,e,rfl,by simp [e1,e2,Value.oneCell']⟩⟩
instance : CellOf (SP.meshO g cap n q1 q2) 0 (.is (.slice (some ⟨g,0,none⟩) n cap)):=⟨fun ⟨b,c,e,h⟩=>⟨_,by cases e;rfl,rfl⟩⟩
instance : CellOf (SP.meshO g cap n q1 q2) 1 q1:=⟨fun ⟨b,c,e,h⟩=>⟨b,by cases e;rfl,h.1⟩⟩
instance : CellOf (SP.meshO g cap n q1 q2) 2 q2:=⟨fun ⟨b,c,e,h⟩=>⟨c,by cases e;rfl,h.2.1⟩⟩
end
section
variable {w0:World} {ok0:Nat→Prop} {N:Nat} {F:List Fact} {K:Act→World→Prop}
end
section
variable {P:Program} {w0:World} {ok0:Nat→Prop} {N:Nat} {ops:Array Oper} {Q:Exit→Act→World→Prop} {F F1:List Fact} {i:Nat} {r:List Oper}
end
end Go.Proofs.YtkgagdjogedoiaaGreat.Fx

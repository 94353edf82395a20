/- Maps gone through: their keys are pairs; rows of the call's own, named. -/
import Derived.Test.YtkgagdjogedoiaaGreatKx
import Derived.Maps.Range
set_option linter.unusedVariables false
set_option linter.unusedSimpArgs false
namespace Go.Proofs.YtkgagdjogedoiaaGreat.Fx
open Go Go.RowKit Go.Proofs.YtkgagdjogedoiaaGreatW.PrintWords
open Go.WideElems (Fit rg)
structure KeyInv (P:Program) (k:TypeId):Prop where
  inv:∀ {v:Value} {l:Lit},keyOf P k v=some l→∃ a b:Int,v = .agg #[.int .i64 a,.int .i64 b]∧(Lit.int .i64 a).wf=true∧(Lit.int .i64 b).wf=true
def HP.pin (P:Program) (k e:TypeId) (n:Nat) (S:List (Int × Int)) (es:Array MapEntry) (clock:Nat):HP :=
  ⟨fun ok ob W=>ob = .map es clock∧(HP.pset P k e n S).H ok ob W,fun _ h=>h,fun h=>h,fun h _=>h⟩
def HP.itr (P:Program) (k e:TypeId) (g:Nat) (es:Array MapEntry) (clock:Nat) (left:Lit→Bool) (cnt:Nat) (cur:Option (Int × Int)):HP :=
  ⟨fun _ ob _=>∃ since seen c0,ob = .mapIter (some g) since seen c0∧(∀ p,cur=some p→∃ stamp e,seen.back?=some stamp∧c0=clock∧es.find? (·.born==stamp)=some e∧e.key=pcv p)∧(∀ x∈es.toList,x.born < since)∧(leftOf es seen).size=cnt ∧
    (∀ x∈es.toList,left (rg P k (plainElem (H:=Nat) P e) x).1=!seen.contains x.born)∧(∀ kl,left kl=true→∃ x∈es.toList,(rg P k (plainElem (H:=Nat) P e) x).1=kl)∧since≤c0∧since≤clock,
   fun _ h=>h,fun h=>h,fun h _=>h⟩
section
variable {P:Program} {k e:TypeId} {W:World} {g r cnt n:Nat} {S:List (Int × Int)} {es:Array MapEntry} {clock:Nat} {left:Lit→Bool} {ok:Nat→Prop} {ob:Obj}
theorem ranges_of (hp:(HP.pin P k e n S es clock).H ok ob W) (hg:W.heap[g]?=some ob) {ob':Obj} (hr:W.heap[r]?=some ob') {cur:Option (Int × Int)} (h:(HP.itr P k e g es clock left cnt cur).H ok ob' W) :
    ∃ D,W.ranges P k (plainElem (H:=Nat) P e) g r n D left cnt∧∀ p l,keyOf P k (pcv p)=some l→∀ zd,D.atKey l zd=if p∈S then .lit (.bool true) else zd:=by
  obtain ⟨rfl,es',clock',e1,h1,h2,h3⟩:=hp
  cases e1
  obtain ⟨since,seen,c0,rfl,_,r1,r2,r3,r4,r5,r6⟩:=h
  exact ⟨_,⟨es,clock,since,seen,c0,hg,h1,h2,rfl,hr,r1,r2,r3,r4,r5,r6⟩,h3⟩
theorem entry_inv {since c0:Nat} {seen:Array Nat} {key v:Value} (hr:W.heap[r]?=some (.mapIter (some g) since seen c0)) (hg:W.heap[g]?=some (.map es clock)) (h:(Instr.entry (ptr r 0)).run P W = .ok (.tuple #[key,v]) W) :
    ∃ stamp e,seen.back?=some stamp∧c0=clock∧es.find? (·.born==stamp)=some e∧e.key=key:=by
  simp only [Instr.entry,ptr,getObj,Sem.run_bind,Sem.run,hr,Result.andThen] at h
  cases hb:seen.back? with
  | none=>rw [hb] at h;cases h
  | some stamp =>
    rw [hb] at h
    simp only [Sem.run_bind,getObj,Sem.run,hg,Result.andThen] at h
    by_cases hc:clock=c0
    · subst hc
      simp only [bne_self_eq_false,Bool.false_eq_true,if_false] at h
      cases hf:es.find? (·.born==stamp) with
      | none=>rw [hf] at h;cases h
      | some e0 =>
        rw [hf] at h
        refine ⟨stamp,e0,rfl,rfl,hf,?_⟩
        have h':Result.ok (Value.tuple #[e0.key,e0.val]) W = .ok (.tuple #[key,v]) W:=h
        simp at h'
        exact h'.1
    · rw [if_pos (by simpa using hc)] at h
      cases h
theorem entry_of {since c0:Nat} {seen:Array Nat} {stamp:Nat} {e0:MapEntry} (hr:W.heap[r]?=some (.mapIter (some g) since seen c0)) (hg:W.heap[g]?=some (.map es clock)) (h1:seen.back?=some stamp) (h2:c0=clock) (h3:es.find? (·.born==stamp)=some e0) :
    (Instr.entry (ptr r 0)).run P W = .ok (.tuple #[e0.key,e0.val]) W:=by
  subst h2
  simp only [Instr.entry,ptr,getObj,Sem.run_bind,Sem.run,hr,hg,h1,Result.andThen,bne_self_eq_false,Bool.false_eq_true,if_false,h3]
  rfl
theorem itr_of {R:Value→Option (DataW Nat × List MemPlace)} (hR:R=plainElem (H:=Nat) P e) {D:DataW Nat} (hg:W.heap[g]?=some (.map es clock)) (h:W.ranges P k R g r n D left cnt) (cur:Option (Int × Int)) (hc:∀ p,cur=some p→∃ v,(Instr.entry (ptr r 0)).run P W = .ok (.tuple #[pcv p,v]) W):∃ ob',W.heap[r]?=some ob'∧(HP.itr P k e g es clock left cnt cur).H ok ob' W:=by
  subst hR
  obtain ⟨es',clock',since,seen,c0,hb,_,_,_,hr,rest⟩:=h
  rw [hg] at hb
  cases hb
  exact ⟨_,hr,since,seen,c0,rfl,fun p hp=>by obtain ⟨v,hv⟩:=hc p hp;exact entry_inv hr hg hv,rest⟩
theorem has_in {D:DataW Nat} (hat:∀ p l,keyOf P k (pcv p)=some l→∀ zd,D.atKey l zd=if p∈S then .lit (.bool true) else zd) {p:Int × Int} {l:Lit} (hl:keyOf P k (pcv p)=some l) {y:DataW Nat} (h:∀ zd,D.atKey l zd=y):p∈S:=by
  by_cases hm:p∈S
  · exact hm
  · have h1:=(hat p l hl (.lit (.bool true))).symm.trans (h _)
    have h2:=(hat p l hl (.lit (.bool false))).symm.trans (h _)
    rw [if_neg hm] at h1 h2
    rw [← h1] at h2
    simp at h2
theorem in_has {D:DataW Nat} (hI:Go.Maps.IsMap D) (hat:∀ p l,keyOf P k (pcv p)=some l→∀ zd,D.atKey l zd=if p∈S then .lit (.bool true) else zd) {p:Int × Int} {l:Lit} (hl:keyOf P k (pcv p)=some l) (hm:p∈S):Go.Maps.has D l=true:=by
  obtain ⟨es,rfl⟩:=hI
  cases hh:Go.Maps.has (DataW.map es) l with
  | true=>rfl
  | false =>
    have h1:=hat p l hl (.lit (.bool false))
    rw [if_pos hm] at h1
    have:(DataW.map es).atKey l (.lit (.bool false)) = .lit (.bool false):=by
      unfold DataW.atKey
      have hf:es.find? (fun q=>q.1.sameKey l)=none:=by
        rw [List.find?_eq_none]
        intro q hq hc
        have:Go.Maps.has (DataW.map es) l=true:=List.any_eq_true.2 ⟨q,hq,hc⟩
        rw [hh] at this
        cases this
      simp [hf]
    rw [this] at h1
    simp at h1
end
section
variable {P:Program} {w0:World} {ok0:Nat→Prop} {N:Nat} {ops:Array Oper} {Q:Exit→Act→World→Prop} {F F1:List Fact} {i:Nat} {o:Oper} {r:List Oper}
theorem nd_of {a:Act} {W:World} {ok:Nat→Prop} (h3:∀ f∈F,f.holds w0.heap.size ok a W):∀ f,(Rg.of F).Nd i f→f.holds w0.heap.size ok a W:=fun f hf=>by
  cases hf with
  | g j hj=>simp [Rg.lookG,Rg.deps] at hj
  | b k hk =>
    unfold Rg.lookB at hk
    split at hk
    · rename_i f' e
      cases hk
      obtain ⟨f0,hf0,e0⟩:=List.mem_map.1 (List.mem_of_getElem? e)
      cases e0
      exact h3 f hf0
    · rename_i f' s e
      obtain ⟨_,_,e'⟩:=List.mem_map.1 (List.mem_of_getElem? e)
      cases e'
    · cases hk
theorem Go.turnv {α:Type} {C:α→Prop} {d:Tmp} {l g j0:Nat} {op:Op} {p:α→SP} {q:HP} {q':α→HP} (hh:Pl (Rg.of F) ops i o (some d) op true) (hb:F[j0]?=some (.h l g q)) (ks:List Nat) (hd:dstOk N o=true) (hp:pickL F o l ks=some F1)
    (hrun:∀ (ok:Nat→Prop) (a:Act) (W:World),(∀ f,(Rg.of F).Nd i f→f.holds w0.heap.size ok a W)→∀ ob,W.heap[g]?=some ob→q.H ok ob W→¬ ok g →
      ∃ (x:α) (v:Value) (W':World),C x∧(execOp a.eval o).run P W = .ok (.value v) W'∧W.grownBy W' (some g)∧(p x).H ok v W'∧∃ ob',W'.heap[g]?=some ob'∧(q' x).H ok ob' W')
    (t:∀ x,C x→Go P w0 ok0 N ops Q (i+1) r (.s d (p x) :: .h l g (q' x) :: F1)):Go P w0 ok0 N ops Q i (o :: r) F:=by
  intro hr a W hS
  have ho:ops[i]?=some o:=by have:=hr 0 o rfl;simpa using this
  rw [List.length_cons,List.range'_succ]
  simp only [wpOps,ho]
  obtain ⟨ok,h1,h2,h3⟩:=hS.ex
  have hnd:=nd_of (i:=i) h3
  have hbF:Fact.h l g q∈F:=List.mem_of_getElem? hb
  obtain ⟨ob,b1,b2,b3,b4⟩:=h3 _ hbF
  obtain ⟨x,v,W',hC,e1,e2,e5,ob',e3,e4⟩:=hrun ok a W hnd ob b1 b4 b2
  have hdN:d < N:=by unfold dstOk at hd;rw [hh.dst] at hd;exact Nat.blt_eq ▸ hd
  have key:St w0 ok0 N (·∈Fact.s d (p x) :: .h l g (q' x) :: F1) (a.put (some d) v) W' :=
    hS.put_h (d:=some d) (v:=v) (row:=some g) (ok:=ok) (ok':=ok) (K:=fun f=>f∈F∧f.on d=false∧∀ l' g',f.lab=some (l',g')→l'≠l) (Nw:=fun f=>f = .s d (p x)∨f = .h l g (q' x)) (fun t e=>by cases e;exact hdN) e2 h3 (fun k e=>by cases e;exact b3) h1
      (fun k hk=>h2 k (Nat.le_trans e2.size hk)) (fun k hk _=>⟨hk,fun e=>by cases e;exact b2 hk⟩)
      (fun f hf=>⟨hf.1,fun t e=>by cases e;exact hf.2.1,fun t ht g' hg=>⟨fun e=>by cases e;exact hS.farh _ f l g t hbF hf.1 rfl ht hg,(box_lt ht (h3 f hf.1) g' hg).2.2⟩,fun l' g' e=>⟨fun e'=>by cases e';exact hS.farl _ f l g l' g hbF hf.1 rfl e (Ne.symm (hf.2.2 l' g e)) rfl,(lab_lt e (h3 f hf.1)).2.2⟩⟩)
      (fun f hf=>by
        rcases hf with rfl|rfl
        · refine ⟨?_,rfl,fun l' g' e=>by cases e⟩
          show SP.H _ _ _ _
          rw [getD_put_self (by rw [hS.hn];exact hdN)];exact e5
        · refine ⟨⟨ob',e3,b2,b3,e4⟩,rfl,fun l' g' e=>?_⟩
          cases e
          refine ⟨fun f' hf' l2 g2 e=>?_,fun f' t' hf' ht'=>hS.farh _ f' l g t' hbF hf'.1 rfl ht',fun f' l2 g2 hf' e hne=>?_⟩
          · rcases hf' with rfl|rfl
            · cases e
            · cases e;rfl
          · exact fun e2=>hS.farl _ f' l g l2 g2 hbF hf'.1 rfl e (Ne.symm hne) e2.symm)
      (fun f hf=>by
        rcases List.mem_cons.1 hf with rfl|hf
        · exact .inl (.inl rfl)
        rcases List.mem_cons.1 hf with rfl|hf
        · exact .inl (.inr rfl)
        obtain ⟨r1,r2,r3⟩:=pickL_mem hp f hf
        exact .inr ⟨r1,undoes_on hh.dst r2,r3⟩)
  have hih:=t x hC (fun j o' hj=>by have:=hr (j+1) o' (by simpa using hj);rwa [show i+(j+1)=i+1+j by omega] at this)
  have hw:Region.wanted o (yielded ops a.tmps)=true:=hh.wanted hnd
  rw [if_pos hw]
  refine .inl ?_
  unfold Oper.wp
  rw [e1]
  rw [← hh.dst] at key
  exact hih _ _ key
theorem Go.range {d:Tmp} {x:Operand} {T k e:TypeId} {lm g n:Nat} {S:List (Int × Int)} {es:Array MapEntry} {clock:Nat} (l:Nat) (hh:Pl (Rg.of F) ops i o (some d) (.range T x) true) (hT:P.underlying T=some (.map k e)) (hK:KeyTy P k)
    (hx:Vl (Rg.of F) i x (.is (.map (some g)))) (hm:(Rg.of F).Nd i (.h lm g (HP.pin P k e n S es clock)))
    (ks:List Nat) (hd:dstOk N o=true) (hp:pickL F o l ks=some F1)
    (t:∀ g2 left cnt,(∀ p kl,keyOf P k (pcv p)=some kl→p∈S→left kl=true)→Go P w0 ok0 N ops Q (i+1) r (.s d (.is (ptr g2 0)) :: .h l g2 (HP.itr P k e g es clock left cnt none) :: F1)):Go P w0 ok0 N ops Q i (o :: r) F:=by
  refine Go.new (α:={ x:Nat × (Lit→Bool) × Nat // ∀ p kl,keyOf P k (pcv p)=some kl→p∈S→x.2.1 kl=true }) (p:=fun x => .is (ptr x.1.1 0)) (g:=fun x=>x.1.1) (q:=fun x=>HP.itr P k e g es clock x.1.2.1 x.1.2.2 none) hh ks hd hp (fun ok a W hf hB=>?_) (fun x=>t x.1.1 x.1.2.1 x.1.2.2 x.2)
  obtain ⟨ob,h1,_,_,hq⟩:=hf _ hm
  obtain ⟨rfl,hps⟩:=hq
  obtain ⟨D,hD,hat⟩:=pset_own hps h1
  have hI:Go.Maps.IsMap D:=by obtain ⟨es,clock,_,_,_,rfl⟩:=hD;exact ⟨_,rfl⟩
  obtain ⟨w',r1,r2,r3,r4⟩:=hD.range hK.K hT
  have ex:a.eval x = .map (some g):=hx.H hf
  have hg':w'.heap[g]?=some (.map es clock):=(r3.block g (Array.getElem?_eq_some_iff.1 h1).1 (by simp)).trans h1
  refine ⟨⟨(W.heap.size,Go.Maps.has D,Go.Maps.size D),fun p kl hk hS=>in_has hI hat hk hS⟩,_,w',?_,r3,Nat.le_refl _,by show W.heap.size < _;rw [r4];omega,rfl,itr_of rfl hg' r2 none (fun p e=>by cases e)⟩
  unfold execOp
  simp only [hh.op,ex,Sem.run_bind,r1,Result.andThen_ok]
  rfl
def SP.any:SP:=⟨fun _ _ _=>True,fun _ h=>h,fun h=>h,fun h _=>h⟩
theorem Go.next {d:Tmp} {x:Operand} {k e:TypeId} {lm l g g2 n cnt:Nat} {S:List (Int × Int)} {es:Array MapEntry} {clock:Nat} {left:Lit→Bool} {cur:Option (Int × Int)} (j:Nat) (hh:Pl (Rg.of F) ops i o (some d) (.next x false) true) (hK:KeyTy P k) (hV:KeyInv P k)
    (hx:Vl (Rg.of F) i x (.is (ptr g2 0))) (hm:(Rg.of F).Nd i (.h lm g (HP.pin P k e n S es clock))) (hb:F[j]?=some (.h l g2 (HP.itr P k e g es clock left cnt cur)))
    (ks:List Nat) (hd:dstOk N o=true) (hp:pickL F o l ks=some F1)
    (t0:(∀ kl,left kl=false)→Go P w0 ok0 N ops Q (i+1) r (.s d (.tup [bb false]) :: .h l g2 (HP.itr P k e g es clock left cnt cur) :: F1))
    (t1:∀ (p:Int × Int) kl cnt',keyOf P k (pcv p)=some kl→(Lit.int .i64 p.1).wf=true→(Lit.int .i64 p.2).wf=true→p∈S→cnt' < cnt→Go P w0 ok0 N ops Q (i+1) r (.s d (.tup [bb true,.is (pcv p),SP.any]) :: .h l g2 (HP.itr P k e g es clock (fun x=>left x && !x.sameKey kl) cnt' (some p)) :: F1)):Go P w0 ok0 N ops Q i (o :: r) F:=by
  refine Go.turnv (α:=Option ((Int × Int) × Lit × Nat)) (C:=fun x=>match x with|none=>∀ kl,left kl=false|some (p,kl,cnt')=>keyOf P k (pcv p)=some kl∧(Lit.int .i64 p.1).wf=true∧(Lit.int .i64 p.2).wf=true∧p∈S∧cnt' < cnt)
    (p:=fun x=>match x with|none => .tup [bb false]|some (p,kl,cnt') => .tup [bb true,.is (pcv p),SP.any])
    (q':=fun x=>match x with|none=>HP.itr P k e g es clock left cnt cur|some (p,kl,cnt')=>HP.itr P k e g es clock (fun x=>left x && !x.sameKey kl) cnt' (some p)) hh hb ks hd hp (fun ok a W hf ob hob hq _=>?_) (fun x=>?_)
  · obtain ⟨om,m1,_,_,m4⟩:=hf _ hm
    have hg:W.heap[g]?=some (.map es clock):=m1.trans (by rw [m4.1])
    obtain ⟨D,hR,hat⟩:=ranges_of m4 m1 hob hq
    have ex:a.eval x=ptr g2 0:=hx.H hf
    rcases hR.next hK.K o.type with ⟨c1,c2,c3⟩|⟨key,v,kl,y,w',cnt',c1,c2,c3,c4,c5,c6,c7,c8,c9,c10⟩
    · refine ⟨none,_,W,c2,?_,World.grownBy.refl W _,⟨[.bool false],rfl,rfl,trivial⟩,ob,hob,hq⟩
      unfold execOp
      simp only [hh.op,ex,Sem.run_bind,c3,Result.andThen_ok]
      rfl
    · obtain ⟨pa,pb,rfl,wa,wb⟩:=hV.inv c1
      have hne:g≠g2:=fun e=>hR.ne e.symm
      have hg':w'.heap[g]?=some (.map es clock):=(c8.block g (Array.getElem?_eq_some_iff.1 hg).1 (by simp;exact hne)).trans hg
      refine ⟨some ((pa,pb),kl,cnt'),_,w',⟨c1,wa,wb,has_in hat (p:=(pa,pb)) c1 c4,c7⟩,?_,c8,⟨[.bool true,pcv (pa,pb),v],rfl,rfl,rfl,trivial,trivial⟩,itr_of rfl hg' c6 (some (pa,pb)) (fun p e=>by cases e;exact ⟨_,c10⟩)⟩
      unfold execOp
      simp only [hh.op,ex,Sem.run_bind,c5,Result.andThen_ok]
      rfl
  · match x with
    | none=>exact fun h=>t0 h
    | some (p,kl,cnt')=>exact fun h=>t1 p kl cnt' h.1 h.2.1 h.2.2.1 h.2.2.2.1 h.2.2.2.2
end
section
variable {P:Program} {w0:World} {ok0:Nat→Prop} {N:Nat} {F:List Fact} {c:Code} {Q:Exit→Act→World→Prop}
theorem Tr.share0 {z:Code} {p:Prop} (F':List Fact) (h:p→Tr P w0 ok0 N F' z Q) (t:(p→Tr P w0 ok0 N F' z Q)→Tr P w0 ok0 N F c (Exit.then (z.wp P Q) Q)):Tr P w0 ok0 N F c (Exit.then (z.wp P Q) Q):=t h
theorem Tr.sub {F':List Fact} (hs:∀ f∈F',f∈F) (h:Tr P w0 ok0 N F' c Q):Tr P w0 ok0 N F c Q:=fun a W hS=>h a W (hS.mono hs)
theorem Tr.condF {x y:Code} (h:Tr P w0 ok0 N F y Q):Tr P w0 ok0 N F (.cond (.const (.bool false)) x y) Q:=fun a W hS=>wp_cond_false rfl (h a W hS)
theorem Tr.turn {α:Type} {C:α→Prop} {F1:List Fact} {l g:Nat} {q:HP} {q':α→HP} (k:Nat) (ks:List Nat) (hk:F[k]?=some (.h l g q)) (hp:pickM F l ks=some F1)
    (hq:∀ (ob:Obj) (ok:Nat→Prop) (W:World),q.H ok ob W→∃ x,C x∧∀ (ok:Nat→Prop),q.H ok ob W→(q' x).H ok ob W) (t:∀ x,C x→Tr P w0 ok0 N (.h l g (q' x) :: F1) c Q):Tr P w0 ok0 N F c Q:=fun a W hS=>by
  have hm:=List.mem_of_getElem? hk
  obtain ⟨ok,h1,h2,h3⟩:=hS.ex
  obtain ⟨ob,b1,b2,b3,b4⟩:=h3 _ hm
  obtain ⟨x,hC,hx⟩:=hq ob ok W b4
  have hF:∀ f∈Fact.h l g (q' x) :: F1,f = .h l g (q' x)∨f∈F:=fun f hf=>by
    rcases List.mem_cons.1 hf with rfl|hf
    · exact .inl rfl
    · exact .inr (pickM_mem hp f hf).1
  refine t x hC a W ⟨hS.hb,hS.h0,hS.hd,hS.hn,⟨ok,h1,h2,fun f hf=>?_⟩,fun f f' t t' hf hf' e e'=>?_,fun f f' l1 g1 t hf hf' e e'=>?_,fun f f' l1 g1 l2 g2 hf hf' e e'=>?_⟩
  · rcases hF f hf with rfl|hf
    · exact ⟨ob,b1,b2,b3,hx ok b4⟩
    · exact h3 f hf
  · rcases hF f hf with rfl|hf
    · cases e
    rcases hF f' hf' with rfl|hf'
    · cases e'
    exact hS.far f f' t t' hf hf' e e'
  · rcases hF f' hf' with rfl|hf'
    · cases e'
    rcases hF f hf with rfl|hf
    · cases e
      exact hS.farh _ f' l g t hm hf' rfl e'
    · exact hS.farh f f' l1 g1 t hf hf' e e'
  · rcases hF f hf with rfl|hf
    · cases e
      rcases hF f' hf' with rfl|hf'
      · cases e';exact hS.farl _ _ l g l g hm hm rfl rfl
      · exact hS.farl _ f' l g l2 g2 hm hf' rfl e'
    · rcases hF f' hf' with rfl|hf'
      · cases e';exact hS.farl f _ l1 g1 l g hf hm e rfl
      · exact hS.farl f f' l1 g1 l2 g2 hf hf' e e'
theorem Tr.pin {F1:List Fact} {l g n:Nat} {k e:TypeId} {S:List (Int × Int)} (k0:Nat) (ks:List Nat) (hk:F[k0]?=some (.h l g (HP.pset P k e n S))) (hp:pickM F l ks=some F1)
    (t:∀ es clock,Tr P w0 ok0 N (.h l g (HP.pin P k e n S es clock) :: F1) c Q):Tr P w0 ok0 N F c Q :=
  Tr.turn (α:=Array MapEntry × Nat) (C:=fun _=>True) (q':=fun x=>HP.pin P k e n S x.1 x.2) k0 ks hk hp (fun ob ok W h=>by
    have h0:=h
    obtain ⟨es,clock,e1,_⟩:=h0
    exact ⟨(es,clock),trivial,fun ok h=>⟨e1,h⟩⟩) (fun x _=>t x.1 x.2)
theorem Tr.ownh {F1:List Fact} {t:Tmp} {sz:Nat} {E:TypeId} {rows:List (List Value)} (l k:Nat) (ks:List Nat) (hk:F[k]?=some (.o t sz E rows)) (hne:rows≠[]) (hp:pickB F (fun f=>f.box==some t || (match f with | .h l' _ _=>l'==l|_=>false)) ks=some F1)
    (h:∀ g cap,Tr P w0 ok0 N (.s t (.is (.slice (some ⟨g,0,none⟩) rows.length cap)) :: .h l g (HP.own E sz cap rows.length rows.flatten) :: F1) c Q):Tr P w0 ok0 N F c Q:=fun a W hS=>by
  have hm:=List.mem_of_getElem? hk
  obtain ⟨ok,h1,h2,h3⟩:=hS.ex
  have ho:Owns _ _ _ _ _ _ _:=h3 _ hm
  obtain ⟨g,cap,ev⟩:∃ g cap,a.tmps.getD t undef = .slice (some ⟨g,0,none⟩) rows.length cap:=by
    rcases ho.row.2 with ⟨e,e0⟩|⟨g,cap,cur,e,_⟩
    · exact absurd (List.length_eq_zero_iff.1 e0) hne
    · exact ⟨g,cap,e⟩
  have hrow:=ho.row
  rw [ev] at hrow
  obtain ⟨hB,ob,b1,b2⟩:=HP.own_of ok hrow
  have hng:¬ ok g:=ho.fr g (by rw [ev];rfl)
  have hbl:blk (a.tmps.getD t undef)=some g:=by rw [ev];rfl
  have hF:∀ f∈F1,f∈F∧f.box≠some t∧∀ l' g',f.lab=some (l',g')→l'≠l:=fun f hf=>by
    obtain ⟨h4,h5⟩:=pickB_mem hp f hf
    rw [Bool.or_eq_false_iff] at h5
    refine ⟨h4,fun e=>by rw [e] at h5;simp at h5,fun l' g' e=>?_⟩
    cases f<;>simp [Fact.lab] at e
    obtain ⟨rfl,rfl⟩:=e
    simpa using h5.2
  refine h g cap a W ⟨hS.hb,hS.h0,hS.hd,hS.hn,⟨ok,h1,h2,fun f hf=>?_⟩,fun f f' t1 t2 hf hf' e e'=>?_,fun f f' l1 g1 t1 hf hf' e e'=>?_,fun f f' l1 g1 l2 g2 hf hf' e e'=>?_⟩
  · rcases List.mem_cons.1 hf with rfl|hf
    · exact ev
    rcases List.mem_cons.1 hf with rfl|hf
    · exact ⟨ob,b1,hng,hB,b2⟩
    · exact h3 f (hF f hf).1
  · rcases List.mem_cons.1 hf with rfl|hf
    · cases e
    rcases List.mem_cons.1 hf with rfl|hf
    · cases e
    rcases List.mem_cons.1 hf' with rfl|hf'
    · cases e'
    rcases List.mem_cons.1 hf' with rfl|hf'
    · cases e'
    exact hS.far f f' t1 t2 (hF f hf).1 (hF f' hf').1 e e'
  · rcases List.mem_cons.1 hf' with rfl|hf'
    · cases e'
    rcases List.mem_cons.1 hf' with rfl|hf'
    · cases e'
    rcases List.mem_cons.1 hf with rfl|hf
    · cases e
    rcases List.mem_cons.1 hf with rfl|hf
    · cases e
      have hne':t≠t1:=fun e=>(hF f' hf').2.1 (e ▸ e')
      exact hS.far _ f' t t1 hm (hF f' hf').1 rfl e' hne' g hbl
    · exact hS.farh f f' l1 g1 t1 (hF f hf).1 (hF f' hf').1 e e'
  · rcases List.mem_cons.1 hf with rfl|hf
    · cases e
    rcases List.mem_cons.1 hf' with rfl|hf'
    · cases e'
    rcases List.mem_cons.1 hf with rfl|hf
    · cases e
      rcases List.mem_cons.1 hf' with rfl|hf'
      · cases e';exact fun hn=>absurd rfl hn
      · exact fun hn he=>hS.farh f' _ l2 g2 t (hF f' hf').1 hm e' rfl (hbl.trans (congrArg some he))
    · rcases List.mem_cons.1 hf' with rfl|hf'
      · cases e'
        exact fun hn he=>hS.farh f _ l1 g1 t (hF f hf).1 hm e rfl (hbl.trans (congrArg some he.symm))
      · exact hS.farl f f' l1 g1 l2 g2 (hF f hf).1 (hF f' hf').1 e e'
end
section
variable {P:Program} {w0:World} {ok0:Nat→Prop} {N:Nat} {R:Rg} {ops:Array Oper} {Q:Exit→Act→World→Prop} {i:Nat} {o:Oper}
theorem entr {d:Tmp} {x:Operand} {k e:TypeId} {lm l g g2 n cnt clock:Nat} {S:List (Int × Int)} {es:Array MapEntry} {left:Lit→Bool} {p:Int × Int} (hh:Pl R ops i o (some d) (.entry x) true) (hx:Vl R i x (.is (ptr g2 0))) (hm:R.Nd i (.h lm g (HP.pin P k e n S es clock))) (hb:R.Nd i (.h l g2 (HP.itr P k e g es clock left cnt (some p)))) :
    Does P w0 ok0 N R ops Q i o (some (.s d (.tup [.is (pcv p),SP.any]))) :=
  does_s hh fun ok a W hf hk K hK=>by
    obtain ⟨om,m1,_,_,m4⟩:=hf _ hm
    have hg:W.heap[g]?=some (.map es clock):=m1.trans (by rw [m4.1])
    obtain ⟨oi,i1,_,_,since,seen,c0,rfl,hcur,_⟩:=hf _ hb
    obtain ⟨stamp,e0,s1,s2,s3,s4⟩:=hcur p rfl
    have ex:a.eval x=ptr g2 0:=hx.H hf
    have er:(execOp a.eval o).run P W = .ok (.value (.tuple #[e0.key,e0.val])) W:=by
      unfold execOp
      simp only [hh.op,ex,Sem.run_bind,entry_of i1 hg s1 s2 s3,Result.andThen_ok]
      rfl
    unfold Oper.wp
    rw [er]
    exact hK _ W (Below.refl _ _) ⟨[e0.key,e0.val],rfl,s4,trivial,trivial⟩
theorem lkpo {d:Tmp} {x y:Operand} {T k e:TypeId} {l g n clock:Nat} {es:Array MapEntry} {S:List (Int × Int)} {a b:Int} {r:Bool} (hh:Pl R ops i o (some d) (.lookup T x y false) true) (hT:P.underlying T=some (.map k e)) (hK:KeyTy P k) (he:P.underlying e=some .bool) (hz:∀ W,(zeroValue e).run P W = .ok (.bool false) W)
    (hx:Vl R i x (.is (.map (some g)))) (hb:R.Nd i (.h l g (HP.pin P k e n S es clock))) (hy:Vl R i y (.is (.agg #[.int .i64 a,.int .i64 b]))) (wa:(Lit.int .i64 a).wf=true) (wb:(Lit.int .i64 b).wf=true) (hr:decide ((a,b)∈S)=r):Does P w0 ok0 N R ops Q i o (some (.s d (bb r))) :=
  pure_ hh fun ok a' W hf=>by
    obtain ⟨ob,h1,_,h3,hq⟩:=hf _ hb
    obtain ⟨D,hD,hat⟩:=pset_own hq.2 h1
    obtain ⟨kl,hkl⟩:=hK.hk a b wa wb
    obtain ⟨v,ps,hrun,hv⟩:=hD.lookup hK.K hT (hz W) (plainElem_bool he false) hkl
    have ex:a'.eval x = .map (some g):=hx.H hf
    have ey:a'.eval y = .agg #[.int .i64 a,.int .i64 b]:=hy.H hf
    rw [hat (a,b) kl hkl,show (if (a,b)∈S then DataW.lit (.bool true) else DataW.lit (.bool false))=(DataW.lit (.bool (decide ((a,b)∈S))):DataW Nat) by by_cases h:(a,b)∈S<;>simp [h]] at hv
    have ev:v = .bool r:=by
      unfold plainElem at hv
      rw [he] at hv
      cases v<;>simp at hv
      rw [← hr,← hv.1]
    unfold execOp
    simp only [hh.op,ex,ey,Sem.run_bind,hrun,Result.andThen_ok,ev]
    rfl
theorem skpnu {d t:Tmp} {op:Op} {ty:TypeId} {ps:String} {af:Array Edge} {j:Nat} {want:Bool} (hn:Vl R i (.tmp t) (.is undef)) (ht:(ops[j]?).bind (·.dst)=some t) :
    Does P w0 ok0 N R ops Q i ⟨some d,op,ty,ps,af,some (j,want)⟩ (some (.s d (.is undef))):=by
  intro l Φ a W hdN hnd hS hΦ
  obtain ⟨ok,h1,h2,h3⟩:=hS.ex
  have hf:∀ f,R.Nd i f→f.holds w0.heap.size ok a W:=fun f hf=>h3 f (hnd f hf)
  have hw:Region.wanted ⟨some d,op,ty,ps,af,some (j,want)⟩ (yielded ops a.tmps)=false:=by
    have:a.tmps.getD t undef=undef:=hn.H hf
    unfold Region.wanted
    simp only [yielded,ht,Option.bind_some]
    rw [Array.getD_eq_getD_getElem?] at this
    cases h:a.tmps[t]? with
    | none=>rfl
    | some v=>rw [h] at this;simp at this;rw [this];rfl
  rw [if_neg (by rw [hw];simp)]
  refine hS.put_s (hdN d rfl) (Below.refl _ _) h1 h2 h3 (p := .is undef) rfl (fun f hΦf=>?_)
  rcases hΦ f hΦf with h|⟨h,hu⟩
  · cases h;exact .inl rfl
  · exact .inr ⟨h,undoes_on rfl hu⟩
end
section
variable {P:Program} {w0:World} {ok0:Nat→Prop} {N:Nat} {F:List Fact} {fn:Func}
theorem end_nil (hr:fn.results=#[]):Nx w0 ok0 N F (fun a W=>bodyPost P fn (Ret w0 ok0 (.tup [])) .ret a W):=fun a W hS=>by
  obtain ⟨ok,h1,h2,h3⟩:=hS.ex
  refine ⟨hS.hd,.tuple #[],by simp [results,hr],⟨_,rfl,⟨[],rfl,trivial⟩,hS.hb⟩⟩
theorem end_nilN (hr:fn.results=#[]):Nx w0 ok0 N F (fun a W=>bodyPost P fn (Ret w0 ok0 (.tup [])) .normal a W):=end_nil hr
theorem end_wrR {W0:World} {g l n sz cap:Nat} {E:TypeId} {xs:List Value} (k j:Nat) (hr:fn.results=#[]) (hk:F[k]?=some (.h l g (HP.own E sz cap n xs))) (hj:F[j]?=some (.v [undef] [SP.same W0 g])) :
    Nx { W0 with heap:=#[] } (fun _=>True) N F (fun a W=>bodyPost P fn (Wrt W0 g E sz cap n xs) .ret a W):=end_wr k j hr hk hj
end
end Go.Proofs.YtkgagdjogedoiaaGreat.Fx

/- Blocks of the call's own, by name: rows that are made, written and lengthened; regions walked operation by operation, what an operation brings anew being named. -/
import Derived.Test.YtkgagdjogedoiaaGreatGx
set_option linter.unusedVariables false
set_option linter.unusedSimpArgs false
namespace Go.Proofs.YtkgagdjogedoiaaGreat.Fx
open Go Go.RowKit Go.Proofs.YtkgagdjogedoiaaGreatW.PrintWords
section
variable {w0:World} {ok0:Nat→Prop} {N:Nat} {Φ Φ' K:Fact→Prop} {a a':Act} {W W':World}
theorem St.put_h (h:St w0 ok0 N Φ a W) {d:Option Tmp} (hd:∀ t,d=some t→t < N) {v:Value} {row:Option Nat} (hg:W.grownBy W' row) {ok ok':Nat→Prop}
  (h3:∀ f,Φ f→f.holds w0.heap.size ok a W) (hr:∀ k,row=some k→w0.heap.size≤k) (h1:∀ k,ok' k→ok0 k) (h2:∀ k,W'.heap.size≤k→ok' k)
  (hk:∀ k,ok k→k < W.heap.size→ok' k∧some k≠row)
  (hK:∀ f,K f→Φ f∧(∀ t,d=some t→f.on t=false)∧(∀ t,f.box=some t→∀ g,blk (a.tmps.getD t undef)=some g→some g≠row∧¬ ok' g)∧∀ l g,f.lab=some (l,g)→some g≠row∧¬ ok' g)
  {Nw:Fact→Prop} (hN:∀ f,Nw f→f.holds w0.heap.size ok' (a.put d v) W'∧f.box=none∧∀ l g,f.lab=some (l,g)→(∀ f',Nw f'→∀ l' g',f'.lab=some (l',g')→l'=l)∧(∀ f' t,K f'→f'.box=some t→blk (a.tmps.getD t undef)≠some g)∧∀ f' l' g',K f'→f'.lab=some (l',g')→l'≠l→g'≠g)
  (hf:∀ f,Φ' f→Nw f∨K f):St w0 ok0 N Φ' (a.put d v) W':=by
 have keep:∀ f:Fact,(∀ t,d=some t→f.on t=false)→∀ t,f.on t=true→(a.put d v).tmps.getD t undef=a.tmps.getD t undef:=fun f hd' t ht=>by
  cases d with
  | none=>rfl
  | some d=>exact getD_put (fun e=>by subst e;rw [hd' t rfl] at ht;cases ht)
 have hsp:∀ (p:SP) (x:Value),p.H ok x W→p.H ok' x W':=fun p x hx =>
  p.mono (fun k hk'=>hk'.1) (p.step (p.mono (ok':=fun k=>ok' k∧ok k∧k < W.heap.size) (fun k hk'=>⟨(hk k hk'.1 hk'.2).1,hk'⟩) (p.bound hx)) (fun k hk' _=>hg.block k hk'.2.2 (hk k hk'.2.1 hk'.2.2).2))
 refine ⟨h.hb.grown hg h.hb.size hr,h.h0,by rw [defers_put];exact h.hd,by rw [size_put];exact h.hn,⟨ok',h1,h2,fun f hΦ=>?_⟩,fun f f' t t' hΦ hΦ' e e' ne=>?_,fun f f' l g t hΦ hΦ' e e'=>?_,fun f f' l g l' g' hΦ hΦ' e e' ne=>?_⟩
 ·rcases hf f hΦ with hn|hKf
  ·exact (hN f hn).1
  ·obtain ⟨hΦf,hd',hfar,hL⟩:=hK f hKf
   have hh:=h3 f hΦf
   cases f with
   | s t p =>
    have et:=keep _ hd' t (by simp [Fact.on])
    simp only [Fact.holds] at hh ⊢
    rw [et];exact hsp p _ hh
   | b t q T n =>
    obtain ⟨g,cs,e1,e2,e3,e4,e5,e6⟩:=hh
    have hlt:=(Array.getElem?_eq_some_iff.1 e4).1
    obtain ⟨r1,r2⟩:=hfar t rfl g (by rw [e1];rfl)
    exact ⟨g,cs,(keep _ hd' t (by simp [Fact.on])).trans e1,r2,e3,(hg.block g hlt r1).trans e4,e5,hsp q _ e6⟩
   | a t T n =>
    obtain ⟨g,cs,e1,e2,e3,e4,e5⟩:=hh
    have hlt:=(Array.getElem?_eq_some_iff.1 e4).1
    obtain ⟨r1,r2⟩:=hfar t rfl g (by rw [e1];rfl)
    exact ⟨g,cs,(keep _ hd' t (by simp [Fact.on])).trans e1,r2,e3,(hg.block g hlt r1).trans e4,e5⟩
   | f t u off =>
    obtain ⟨g,e1,e2⟩:=hh
    exact ⟨g,by rw [keep _ hd' u (by simp [Fact.on])];exact e1,(keep _ hd' t (by simp [Fact.on])).trans e2⟩
   | al t u=>exact (keep _ hd' t (by simp [Fact.on])).trans ((show a.tmps.getD t undef=a.tmps.getD u undef from hh).trans (keep _ hd' u (by simp [Fact.on])).symm)
   | o t sz T rows =>
    have hh':Owns _ _ _ _ _ _ _:=hh
    have et:=keep _ hd' t (by simp [Fact.on])
    show Owns _ _ _ _ _ _ _
    rw [et]
    exact hh'.grown hg (fun g hg'=>(hfar t rfl g (hh'.blk.trans hg')).1) (fun g hg'=>(hfar t rfl g (hh'.blk.trans hg')).2)
   | v vs ps=>exact Args.mono (fun k hk'=>hk'.1) (Args.step (fun k hk' _=>hg.block k hk'.2.2 (hk k hk'.2.1 hk'.2.2).2) (Args.mono (ok':=fun k=>ok' k∧ok k∧k < W.heap.size) (fun k hk'=>⟨(hk k hk'.1 hk'.2).1,hk'⟩) (Args.bound hh)))
   | h l g q =>
    obtain ⟨ob,e1,e2,e3,e4⟩:=hh
    obtain ⟨r1,r2⟩:=hL l g rfl
    exact ⟨ob,(hg.block g (Array.getElem?_eq_some_iff.1 e1).1 r1).trans e1,r2,e3,q.mono (fun k hk'=>hk'.1) (q.step (q.mono (ok':=fun k=>ok' k∧ok k∧k < W.heap.size) (fun k hk'=>⟨(hk k hk'.1 hk'.2).1,hk'⟩) (q.bound e4)) (fun k hk' _=>hg.block k hk'.2.2 (hk k hk'.2.1 hk'.2.2).2))⟩
 ·rcases hf f hΦ with hn|hKf
  ·rw [(hN f hn).2.1] at e;cases e
  rcases hf f' hΦ' with hn'|hKf'
  ·rw [(hN f' hn').2.1] at e';cases e'
  rw [keep f (hK f hKf).2.1 t (box_on e),keep f' (hK f' hKf').2.1 t' (box_on e')]
  exact h.far f f' t t' (hK f hKf).1 (hK f' hKf').1 e e' ne
 ·rcases hf f' hΦ' with hn'|hKf'
  ·rw [(hN f' hn').2.1] at e';cases e'
  rw [keep f' (hK f' hKf').2.1 t (box_on e')]
  rcases hf f hΦ with hn|hKf
  ·exact ((hN f hn).2.2 l g e).2.1 f' t hKf' e'
  ·exact h.farh f f' l g t (hK f hKf).1 (hK f' hKf').1 e e'
 ·rcases hf f hΦ with hn|hKf<;>rcases hf f' hΦ' with hn'|hKf'
  ·exact absurd (((hN f hn).2.2 l g e).1 f' hn' l' g' e').symm ne
  ·exact fun e2=>((hN f hn).2.2 l g e).2.2 f' l' g' hKf' e' (Ne.symm ne) e2.symm
  ·exact ((hN f' hn').2.2 l' g' e').2.2 f l g hKf e ne
  ·exact h.farl f f' l g l' g' (hK f hKf).1 (hK f' hKf').1 e e' ne
end
/-! ### Regions operation by operation, in passing-on style -/
section
variable {P:Program} {w0:World} {ok0:Nat→Prop} {N:Nat} {ops:Array Oper} {Q:Exit→Act→World→Prop} {F:List Fact} {i:Nat} {o:Oper} {r:List Oper}
def Go (P:Program) (w0:World) (ok0:Nat→Prop) (N:Nat) (ops:Array Oper) (Q:Exit→Act→World→Prop) (i:Nat) (r:List Oper) (F:List Fact):Prop :=
 (∀ j o,r[j]?=some o→ops[i+j]?=some o)→∀ a W,St w0 ok0 N (·∈F) a W→wpOps P ops Q (List.range' i r.length) a W
theorem Go.end_ (hend:Nx w0 ok0 N F (Q .normal)):Go P w0 ok0 N ops Q i [] F:=fun _ a W hS=>by
 simp only [List.length_nil,List.range'_zero,wpOps]
 exact hend a W hS
theorem Go.k {g:Option Fact} {F1:List Fact} (h:Does P w0 ok0 N (Rg.of F) ops Q i o g) (ks:List Nat) (hd:dstOk N o=true) (hp:nxt F o g ks=some F1) (t:Go P w0 ok0 N ops Q (i+1) r F1):Go P w0 ok0 N ops Q i (o :: r) F:=by
 intro hr a W hS
 have ho:ops[i]?=some o:=by have:=hr 0 o rfl;simpa using this
 rw [List.length_cons,List.range'_succ]
 simp only [wpOps,ho]
 have hS':St w0 ok0 N ((Rg.of F).Av #[]) a W:=hS.mono fun f hf=>Rg.of_av.1 hf
 have hstep:=h #[] (·∈F1) a W (fun d e=>by unfold dstOk at hd;rw [e] at hd;exact Nat.blt_eq ▸ hd) (fun f hf=>by
  cases hf with
  | g j hj=>simp [Rg.lookG,Rg.deps] at hj
  | b k hk =>
   unfold Rg.lookB at hk
   split at hk
   ·rename_i f' e;cases hk;exact .inl ⟨none,List.mem_of_getElem? e,fun s e=>by cases e⟩
   ·rename_i f' s e
    have:=List.mem_of_getElem? e
    obtain ⟨_,_,e'⟩:=List.mem_map.1 this
    cases e'
   ·cases hk) hS' (fun f hf=>by
  rcases nxt_mem hp f hf with h|⟨h,hu⟩
  ·exact .inl h
  ·exact .inr ⟨Rg.of_av.2 h,hu⟩)
 have hih:=t (fun j o' hj=>by have:=hr (j+1) o' (by simpa using hj);rwa [show i+(j+1)=i+1+j by omega] at this)
 by_cases hw:Region.wanted o (yielded ops a.tmps)=true
 ·rw [if_pos hw] at hstep ⊢
  exact .inl (Oper.wp_mono (fun a' W' h=>hih a' W' h) hstep)
 ·rw [if_neg hw] at hstep ⊢
  exact hih _ W hstep
theorem Tr.go {id:Nat} (h:Go P w0 ok0 N ops Q 0 ops.toList F):Tr P w0 ok0 N F (.region id ops false) Q:=fun a W hS=>by
 refine wp_region ?_
 have:=h (fun j o hj=>by rw [Nat.zero_add];simpa using hj) a W hS
 rw [List.range_eq_range']
 simpa using this
theorem Tr.gos {id:Nat} {y:Code} (h:Go P w0 ok0 N ops (Exit.then (y.wp P Q) Q) 0 ops.toList F):Tr P w0 ok0 N F (.seq (.region id ops false) y) Q:=fun a W hS=>wp_seq (Tr.go h a W hS)
end
/-! ### Rows of the call's own, by their block's name -/
def HP.own (T:TypeId) (sz cap n:Nat) (xs:List Value):HP :=
 ⟨fun _ ob _=>∃ cur,ob = .cells cur T (0,0)∧n≤cap∧cap≤maxLen∧cur.size=cap * sz∧xs.length=n * sz∧cur.toList.take (n * sz)=xs,fun _ h=>h,fun h=>h,fun h _=>h⟩
theorem HP.own_row {T:TypeId} {sz cap n:Nat} {xs:List Value} {ok:Nat→Prop} {ob:Obj} {W:World} {g B:Nat} (h:(HP.own T sz cap n xs).H ok ob W) (hg:W.heap[g]?=some ob) (hB:B≤g):W.ownsRow B T sz (.slice (some ⟨g,0,none⟩) n cap) n xs:=by
 obtain ⟨cur,rfl,h1,h2,h3,h4,h5⟩:=h
 exact ⟨h4,.inr ⟨g,cap,cur,rfl,hB,hg,h1,h2,h3,h5⟩⟩
theorem HP.own_of {T:TypeId} {sz n cap:Nat} {xs:List Value} (ok:Nat→Prop) {W:World} {g B:Nat} (h:W.ownsRow B T sz (.slice (some ⟨g,0,none⟩) n cap) n xs):B≤g∧∃ ob,W.heap[g]?=some ob∧(HP.own T sz cap n xs).H ok ob W:=by
 obtain ⟨h0,h|⟨g',cap',cur,e,hB,hg,h1,h2,h3,h5⟩⟩:=h
 ·exact absurd h.1 (by simp)
 ·cases e
  exact ⟨hB,_,hg,cur,rfl,h1,h2,h3,h0,h5⟩
section
variable {P:Program} {w0:World} {ok0:Nat→Prop} {N:Nat} {ops:Array Oper} {Q:Exit→Act→World→Prop} {F F1:List Fact} {i:Nat} {o:Oper} {r:List Oper}
def pickL (F:List Fact) (o:Oper) (l:Nat):List Nat→Option (List Fact)
 | []=>some []
 | k :: ks=>match F[k]? with
  | some f=>match undoes none o f || (match f with | .h l' _ _=>l'==l|_=>false) with
   | true=>none
   | false=>match pickL F o l ks with
    | some r=>some (f :: r)
    | none=>none
  | none=>none
theorem pickL_mem {l:Nat}:∀ {ks:List Nat} {G:List Fact},pickL F o l ks=some G→∀ f∈G,f∈F∧undoes none o f=false∧∀ l' g,f.lab=some (l',g)→l'≠l
 | [],G,h=>by unfold pickL at h;cases h;intro f hf;cases hf
 | k :: ks,G,h=>by
  unfold pickL at h
  split at h
  ·rename_i f0 hk
   split at h
   ·cases h
   ·rename_i hu
    split at h
    ·rename_i r hr
     cases h
     intro f hf
     rcases List.mem_cons.1 hf with rfl|hf
     ·rw [Bool.or_eq_false_iff] at hu
      refine ⟨List.mem_of_getElem? hk,hu.1,fun l' g e=>?_⟩
      cases f<;>simp [Fact.lab] at e
      obtain ⟨rfl,rfl⟩:=e
      simpa using hu.2
     ·exact pickL_mem hr f hf
    ·cases h
  ·cases h
theorem Go.new {α:Type} {d:Tmp} {l:Nat} {op:Op} {p:α→SP} {g:α→Nat} {q:α→HP} (hh:Pl (Rg.of F) ops i o (some d) op true) (ks:List Nat) (hd:dstOk N o=true) (hp:pickL F o l ks=some F1)
  (hrun:∀ (ok:Nat→Prop) (a:Act) (W:World),(∀ f,(Rg.of F).Nd i f→f.holds w0.heap.size ok a W)→w0.heap.size≤W.heap.size →
   ∃ (x:α) (v:Value) (W':World),(execOp a.eval o).run P W = .ok (.value v) W'∧W.grownBy W' none∧W.heap.size≤g x∧g x < W'.heap.size∧(p x).H (fun k=>ok k∧k≠g x) v W'∧∃ ob,W'.heap[g x]?=some ob∧(q x).H (fun k=>ok k∧k≠g x) ob W')
  (t:∀ x,Go P w0 ok0 N ops Q (i+1) r (.s d (p x) :: .h l (g x) (q x) :: F1)):Go P w0 ok0 N ops Q i (o :: r) F:=by
 intro hr a W hS
 have ho:ops[i]?=some o:=by have:=hr 0 o rfl;simpa using this
 rw [List.length_cons,List.range'_succ]
 simp only [wpOps,ho]
 obtain ⟨ok,h1,h2,h3⟩:=hS.ex
 have hnd:∀ f,(Rg.of F).Nd i f→f.holds w0.heap.size ok a W:=fun f hf=>by
  cases hf with
  | g j hj=>simp [Rg.lookG,Rg.deps] at hj
  | b k hk =>
   unfold Rg.lookB at hk
   split at hk
   ·rename_i f' e
    cases hk
    obtain ⟨f0,hf0,e0⟩:=List.mem_map.1 (List.mem_of_getElem? e)
    cases e0
    exact h3 f hf0
   ·rename_i f' s e
    obtain ⟨_,_,e'⟩:=List.mem_map.1 (List.mem_of_getElem? e)
    cases e'
   ·cases hk
 obtain ⟨x,v,W',e1,e2,e3,e4,e5,ob,e6,e7⟩:=hrun ok a W hnd hS.hb.size
 have hdN:d < N:=by unfold dstOk at hd;rw [hh.dst] at hd;exact Nat.blt_eq ▸ hd
 have key:St w0 ok0 N (·∈Fact.s d (p x) :: .h l (g x) (q x) :: F1) (a.put (some d) v) W' :=
  hS.put_h (d:=some d) (v:=v) (row:=none) (ok:=ok) (ok':=fun k=>ok k∧k≠g x) (K:=fun f=>f∈F∧f.on d=false∧∀ l' g',f.lab=some (l',g')→l'≠l) (Nw:=fun f=>f = .s d (p x)∨f = .h l (g x) (q x)) (fun t e=>by cases e;exact hdN) e2 h3 (fun k e=>by cases e) (fun k hk=>h1 k hk.1)
   (fun k hk=>⟨h2 k (Nat.le_trans e2.size hk),by omega⟩) (fun k hk hlt=>⟨⟨hk,by omega⟩,by simp⟩)
   (fun f hf=>⟨hf.1,fun t e=>by cases e;exact hf.2.1,fun t ht g' hg=>⟨by simp,fun hk=>(box_lt ht (h3 f hf.1) g' hg).2.2 hk.1⟩,fun l' g' e=>⟨by simp,fun hk=>(lab_lt e (h3 f hf.1)).2.2 hk.1⟩⟩)
   (fun f hf=>by
    rcases hf with rfl|rfl
    ·refine ⟨?_,rfl,fun l' g' e=>by cases e⟩
     show SP.H _ _ _ _
     rw [getD_put_self (by rw [hS.hn];exact hdN)];exact e5
    ·refine ⟨⟨ob,e6,fun hk=>hk.2 rfl,Nat.le_trans hS.hb.size e3,e7⟩,rfl,fun l' g' e=>?_⟩
     cases e
     refine ⟨fun f' hf' l2 g2 e=>?_,fun f' t' hf' ht' hg=>?_,fun f' l2 g2 hf' e _=>?_⟩
     ·rcases hf' with rfl|rfl
      ·cases e
      ·cases e;rfl
     ·have:=(box_lt ht' (h3 f' hf'.1) _ hg).2.1;omega
     ·have:=(lab_lt e (h3 f' hf'.1)).2.1;omega)
   (fun f hf=>by
    rcases List.mem_cons.1 hf with rfl|hf
    ·exact .inl (.inl rfl)
    rcases List.mem_cons.1 hf with rfl|hf
    ·exact .inl (.inr rfl)
    obtain ⟨r1,r2,r3⟩:=pickL_mem hp f hf
    exact .inr ⟨r1,undoes_on hh.dst r2,r3⟩)
 have hih:=t x (fun j o' hj=>by have:=hr (j+1) o' (by simpa using hj);rwa [show i+(j+1)=i+1+j by omega] at this)
 have hw:Region.wanted o (yielded ops a.tmps)=true:=hh.wanted hnd
 rw [if_pos hw]
 refine .inl ?_
 unfold Oper.wp
 rw [e1]
 rw [← hh.dst] at key
 exact hih _ _ key
theorem made_all {z:Array Value} {c:Value} {sz:Nat} (hs:0 < sz) (hz:z=(List.replicate sz c).toArray) (m:Nat):(madeCells z m).toList=List.replicate m c:=by
 apply List.ext_getElem?
 intro j
 have hm:j % sz < sz:=Nat.mod_lt _ hs
 by_cases hj:j < m
 ·subst hz
  simp [madeCells,hj,hm]
 ·simp [madeCells,hj]
structure MkTy (P:Program) (S E:TypeId) (sz bytes:Nat) (c:Value):Prop where
 u:P.underlying S=some (.slice E)
 i:∃ ii z,P.info? E=some ii∧ii.zero=some z∧ii.size=sz∧ii.bytes=bytes∧z.cells=(List.replicate sz c).toArray
 pos:0 < sz
theorem Go.mk {d:Tmp} {x y:Operand} {S E:TypeId} {sz bytes n:Nat} {c:Value} {k1 k2:Int} (l:Nat) (hh:Pl (Rg.of F) ops i o (some d) (.makeSlice S x y) true) (hT:MkTy P S E sz bytes c) (hx:Vl (Rg.of F) i x (ii k1)) (hy:Vl (Rg.of F) i y (ii k2)) (h1:k1=n) (h2:k2=n) (hb:bytes * n≤281474976710656) (hm:n≤maxLen)
  (ks:List Nat) (hd:dstOk N o=true) (hp:pickL F o l ks=some F1) (t:∀ g,Go P w0 ok0 N ops Q (i+1) r (.s d (.is (.slice (some ⟨g,0,none⟩) n n)) :: .h l g (HP.own E sz n n (List.replicate (n * sz) c)) :: F1)):Go P w0 ok0 N ops Q i (o :: r) F:=by
 obtain ⟨ti,z,hi,hz,hsz,hby,hzc⟩:=hT.i
 refine Go.new (α:=Nat) (p:=fun g => .is (.slice (some ⟨g,0,none⟩) n n)) (g:=fun g=>g) (q:=fun g=>HP.own E sz n n (List.replicate (n * sz) c)) hh ks hd hp (fun ok a W hf hB=>?_) t
 obtain ⟨W',hr,r1,r2⟩:=run_make_full (P:=P) W W.heap.size S E ti z sz hT.u hi hz hsz .i64 .i64 n (by rw [hby];exact hb) hm (Nat.le_refl _)
 rw [made_all hT.pos hzc] at r1
 obtain ⟨_,ob,r3,r4⟩:=HP.own_of ok r1
 have e1:a.eval x = .int .i64 (n:Int):=h1 ▸ hx.H hf
 have e2:a.eval y = .int .i64 (n:Int):=h2 ▸ hy.H hf
 refine ⟨W.heap.size,_,W',?_,r2,Nat.le_refl _,(Array.getElem?_eq_some_iff.1 r3).1,rfl,ob,r3,r4⟩
 unfold execOp
 simp only [hh.op,e1,e2,Sem.run_bind,hr,Result.andThen_ok]
 rfl
end
section
variable {P:Program} {w0:World} {ok0:Nat→Prop} {N:Nat} {R:Rg} {ops:Array Oper} {Q:Exit→Act→World→Prop} {i:Nat} {o:Oper}
theorem idxn {d:Tmp} {x y:Operand} {sz k n cap g off:Nat} {kk:Int} {T E:TypeId} (hh:Pl R ops i o (some d) (.indexAddr T x y) true)
  (hR:RowTy P T E sz) (hx:Vl R i x (.is (.slice (some ⟨g,0,none⟩) n cap))) (hy:Vl R i y (ii kk)) (hk:kk=k) (hlt:k < n) (ho:k * sz=off):Does P w0 ok0 N R ops Q i o (some (.s d (.is (ptr g off)))) :=
 pure_ hh fun ok a W hf=>by
  have hT:=hR.u
  have hs:=hR.i
  have e:a.eval x = .slice (some ⟨g,0,none⟩) n cap:=hx.H hf
  have e2:a.eval y = .int .i64 k:=by rw [← hk];exact hy.H hf
  obtain ⟨ie,hie,his⟩:∃ ie,P.info? E=some ie∧ie.size=sz:=by
   cases h:P.info? E with
   | none=>rw [h] at hs;cases hs
   | some ie=>rw [h] at hs;exact ⟨ie,rfl,by simpa using hs⟩
  have hadd:(⟨g,0,none⟩:Addr).add (k * sz)=⟨g,k * sz,none⟩:=by unfold Addr.add;split<;>simp_all
  have er:(execOp a.eval o).run P W = .ok (.value (.pointer (some ((⟨g,0,none⟩:Addr).add (k * sz))))) W:=by
   unfold execOp
   simp only [hh.op,e,e2,Instr.indexAt,asIntOf,Sem.run_bind,Sem.run_pure,Result.andThen_ok,run_underlying hT W,sizeOf,typeInfo,program,Sem.run,hie,his]
   have h1:(0:Int)≤(k:Int)∧(k:Int) < (n:Nat):=⟨by omega,by omega⟩
   simp only [if_pos h1,Sem.run_bind,Sem.run,Result.andThen_ok,hie,his]
   simp [his]
  rw [er,hadd,ho]
theorem ldn {d:Tmp} {x:Operand} {T E:TypeId} {l g off sz cap n:Nat} {xs:List Value} {v:Value} (hh:Pl R ops i o (some d) (.load T x) true) (hx:Vl R i x (.is (ptr g off))) (hb:R.Nd i (.h l g (HP.own E sz cap n xs))) (hT:ScalTy P T) (hv:xs[off]?=some v):Does P w0 ok0 N R ops Q i o (some (.s d (.is v))) :=
 pure_ hh fun ok a W hf=>by
  obtain ⟨ob,h1,_,h3,cur,rfl,h4,h5,h6,h7,h8⟩:=hf _ hb
  obtain ⟨dd,hu,hdd⟩:=hT.u
  have hev:a.eval x=ptr g off:=hx.H hf
  have hagg:(isAgg T).run P W = .ok false W:=by
   unfold isAgg
   rw [Sem.run_bind,run_underlying hu W]
   cases dd<;>simp_all
  have hcell:W.cell? ⟨g,off,none⟩=some v:=by
   rw [cell_of_row W g off cur E (0,0) h1]
   rw [← h8,List.getElem?_take] at hv
   split at hv
   ·simpa using hv
   ·cases hv
  unfold execOp
  simp only [hh.op,hev,Instr.loadAt,Instr.sureAddr,Sem.run_bind,Sem.run_pure,Result.andThen_ok,loadVar,hagg,Bool.false_eq_true,if_false,run_load,hcell]
end
section
variable {P:Program} {w0:World} {ok0:Nat→Prop} {N:Nat} {ops:Array Oper} {Q:Exit→Act→World→Prop} {F F1:List Fact} {i:Nat} {o:Oper} {r:List Oper}
def pickM (F:List Fact) (l:Nat):List Nat→Option (List Fact)
 | []=>some []
 | k :: ks=>match F[k]? with
  | some f=>match (match f with | .h l' _ _=>l'==l|_=>false) with
   | true=>none
   | false=>match pickM F l ks with
    | some r=>some (f :: r)
    | none=>none
  | none=>none
theorem pickM_mem {l:Nat}:∀ {ks:List Nat} {G:List Fact},pickM F l ks=some G→∀ f∈G,f∈F∧∀ l' g,f.lab=some (l',g)→l'≠l
 | [],G,h=>by unfold pickM at h;cases h;intro f hf;cases hf
 | k :: ks,G,h=>by
  unfold pickM at h
  split at h
  ·rename_i f0 hk
   split at h
   ·cases h
   ·rename_i hu
    split at h
    ·rename_i r hr
     cases h
     intro f hf
     rcases List.mem_cons.1 hf with rfl|hf
     ·refine ⟨List.mem_of_getElem? hk,fun l' g e=>?_⟩
      cases f<;>simp [Fact.lab] at e
      obtain ⟨rfl,rfl⟩:=e
      simpa using hu
     ·exact pickM_mem hr f hf
    ·cases h
  ·cases h
theorem Go.turn {l g j0:Nat} {op:Op} {q q':HP} (hh:Pl (Rg.of F) ops i o none op true) (hb:F[j0]?=some (.h l g q)) (ks:List Nat) (hp:pickM F l ks=some F1)
  (hrun:∀ (ok:Nat→Prop) (a:Act) (W:World),(∀ f,(Rg.of F).Nd i f→f.holds w0.heap.size ok a W)→∀ ob,W.heap[g]?=some ob→q.H ok ob W→¬ ok g →
   ∃ W',(execOp a.eval o).run P W = .ok .skip W'∧W.grownBy W' (some g)∧∃ ob',W'.heap[g]?=some ob'∧q'.H ok ob' W')
  (t:Go P w0 ok0 N ops Q (i+1) r (.h l g q' :: F1)):Go P w0 ok0 N ops Q i (o :: r) F:=by
 intro hr a W hS
 have ho:ops[i]?=some o:=by have:=hr 0 o rfl;simpa using this
 rw [List.length_cons,List.range'_succ]
 simp only [wpOps,ho]
 obtain ⟨ok,h1,h2,h3⟩:=hS.ex
 have hnd:∀ f,(Rg.of F).Nd i f→f.holds w0.heap.size ok a W:=fun f hf=>by
  cases hf with
  | g j hj=>simp [Rg.lookG,Rg.deps] at hj
  | b k hk =>
   unfold Rg.lookB at hk
   split at hk
   ·rename_i f' e
    cases hk
    obtain ⟨f0,hf0,e0⟩:=List.mem_map.1 (List.mem_of_getElem? e)
    cases e0
    exact h3 f hf0
   ·rename_i f' s e
    obtain ⟨_,_,e'⟩:=List.mem_map.1 (List.mem_of_getElem? e)
    cases e'
   ·cases hk
 have hbF:Fact.h l g q∈F:=List.mem_of_getElem? hb
 obtain ⟨ob,b1,b2,b3,b4⟩:=h3 _ hbF
 obtain ⟨W',e1,e2,ob',e3,e4⟩:=hrun ok a W hnd ob b1 b4 b2
 have key:St w0 ok0 N (·∈Fact.h l g q' :: F1) (a.put none undef) W' :=
  hS.put_h (d:=none) (v:=undef) (row:=some g) (ok:=ok) (ok':=ok) (K:=fun f=>f∈F∧∀ l' g',f.lab=some (l',g')→l'≠l) (Nw:=fun f=>f = .h l g q') (fun t e=>by cases e) e2 h3 (fun k e=>by cases e;exact b3) h1
   (fun k hk=>h2 k (Nat.le_trans e2.size hk)) (fun k hk _=>⟨hk,fun e=>by cases e;exact b2 hk⟩)
   (fun f hf=>⟨hf.1,fun t e=>(by cases e),fun t ht g' hg=>⟨fun e=>by cases e;exact hS.farh _ f l g t hbF hf.1 rfl ht hg,(box_lt ht (h3 f hf.1) g' hg).2.2⟩,fun l' g' e=>⟨fun e'=>by cases e';exact hS.farl _ f l g l' g hbF hf.1 rfl e (Ne.symm (hf.2 l' g e)) rfl,(lab_lt e (h3 f hf.1)).2.2⟩⟩)
   (fun f hf=>by
    subst hf
    refine ⟨⟨ob',e3,b2,b3,e4⟩,rfl,fun l' g' e=>?_⟩
    cases e
    refine ⟨fun f' hf' l2 g2 e=>?_,fun f' t' hf' ht'=>hS.farh _ f' l g t' hbF hf'.1 rfl ht',fun f' l2 g2 hf' e hne=>?_⟩
    ·subst hf';cases e;rfl
    ·exact fun e2=>hS.farl _ f' l g l2 g2 hbF hf'.1 rfl e (Ne.symm hne) e2.symm)
   (fun f hf=>by
    rcases List.mem_cons.1 hf with rfl|hf
    ·exact .inl rfl
    exact .inr (pickM_mem hp f hf))
 have hih:=t (fun j o' hj=>by have:=hr (j+1) o' (by simpa using hj);rwa [show i+(j+1)=i+1+j by omega] at this)
 have hw:Region.wanted o (yielded ops a.tmps)=true:=hh.wanted hnd
 rw [if_pos hw]
 refine .inl ?_
 unfold Oper.wp
 rw [e1]
 rw [← hh.dst] at key
 exact hih _ _ key
end
end Go.Proofs.YtkgagdjogedoiaaGreat.Fx

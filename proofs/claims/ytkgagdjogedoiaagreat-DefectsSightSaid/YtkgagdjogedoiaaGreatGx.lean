/- Facts of a frame's slots and of the call's own boxes, and the walk of a text by them, in whichever order a region draws. -/
import Derived.Test.YtkgagdjogedoiaaGreatV
import Derived.Orders
import Derived.Laws.Rows
import Derived.Laws.Alloc2
import Derived.Below
import Derived.IntWalk
import Derived.KernelRfl
import Derived.Laws.Entries
import Derived.OwnWalk
import Derived.Deep.LoopGhost
import Derived.Laws.StructEq
import Derived.WalkSpells
import Derived.WalkLawsBesides
import Derived.ChangeKeysEq
import Derived.ArgAppend
set_option linter.unusedVariables false
set_option linter.unusedSimpArgs false
namespace Go.Proofs.YtkgagdjogedoiaaGreat.Fx
open Go Go.RowKit Go.Proofs.YtkgagdjogedoiaaGreatW.PrintWords
structure SP where
  H:(Nat→Prop)→Value→World→Prop
  mono:∀ {ok ok':Nat→Prop} {v:Value} {W:World},(∀ k,ok k→ok' k)→H ok v W→H ok' v W
  bound:∀ {ok:Nat→Prop} {v:Value} {W:World},H ok v W→H (fun k=>ok k∧k < W.heap.size) v W
  step:∀ {ok:Nat→Prop} {v:Value} {W W1:World},H ok v W→(∀ k,ok k→k < W.heap.size→W1.heap[k]?=W.heap[k]?)→H ok v W1
def SP.is (x:Value):SP:=⟨fun _ v _=>v=x,fun _ h=>h,fun h=>h,fun h _=>h⟩
def SP.row {α:Type} (d:Kd α) (xs:List α):SP :=
  ⟨fun ok v W=>Kd.V d 0 W 0 ok v xs,fun hk h=>Kd.V_mono h hk,fun h=>Kd.V_map h (fun _ hf=>Kd.F_bound hf),fun h hm=>Kd.V_map h (fun _ hf=>Kd.F_step hf hm)⟩
def Args (ok:Nat→Prop) (W:World):List SP→List Value→Prop
  | [],[]=>True
  | p :: ps,v :: vs=>p.H ok v W∧Args ok W ps vs
  | _,_=>False
theorem Args.mono {ok ok':Nat→Prop} {W:World} (hk:∀ k,ok k→ok' k):∀ {ps:List SP} {vs:List Value},Args ok W ps vs→Args ok' W ps vs
  | [],[],_=>trivial
  | p :: _,_ :: _,h=>⟨p.mono hk h.1,Args.mono hk h.2⟩
theorem Args.bound {ok:Nat→Prop} {W:World}:∀ {ps:List SP} {vs:List Value},Args ok W ps vs→Args (fun k=>ok k∧k < W.heap.size) W ps vs
  | [],[],_=>trivial
  | p :: _,_ :: _,h=>⟨p.bound h.1,Args.bound h.2⟩
theorem Args.step {ok:Nat→Prop} {W W1:World} (hm:∀ k,ok k→k < W.heap.size→W1.heap[k]?=W.heap[k]?):∀ {ps:List SP} {vs:List Value},Args ok W ps vs→Args ok W1 ps vs
  | [],[],_=>trivial
  | p :: _,_ :: _,h=>⟨p.step h.1 hm,Args.step hm h.2⟩
def SP.tup (ps:List SP):SP :=
  ⟨fun ok v W=>∃ vs:List Value,v = .tuple vs.toArray∧Args ok W ps vs,fun hk ⟨vs,e,h⟩=>⟨vs,e,h.mono hk⟩,fun ⟨vs,e,h⟩=>⟨vs,e,h.bound⟩,fun ⟨vs,e,h⟩ hm=>⟨vs,e,h.step hm⟩⟩
def SP.agg (ps:List SP):SP :=
  ⟨fun ok v W=>∃ vs:List Value,v = .agg vs.toArray∧Args ok W ps vs,fun hk ⟨vs,e,h⟩=>⟨vs,e,h.mono hk⟩,fun ⟨vs,e,h⟩=>⟨vs,e,h.bound⟩,fun ⟨vs,e,h⟩ hm=>⟨vs,e,h.step hm⟩⟩
structure HP where
  H:(Nat→Prop)→Obj→World→Prop
  mono:∀ {ok ok':Nat→Prop} {v:Obj} {W:World},(∀ k,ok k→ok' k)→H ok v W→H ok' v W
  bound:∀ {ok:Nat→Prop} {v:Obj} {W:World},H ok v W→H (fun k=>ok k∧k < W.heap.size) v W
  step:∀ {ok:Nat→Prop} {v:Obj} {W W1:World},H ok v W→(∀ k,ok k→k < W.heap.size→W1.heap[k]?=W.heap[k]?)→H ok v W1
inductive Fact where
  | s (t:Tmp) (p:SP)
  | b (t:Tmp) (q:SP) (T:TypeId) (n:Nat)
  | a (t:Tmp) (T:TypeId) (n:Nat)
  | f (t u:Tmp) (off:Nat)
  | o (t:Tmp) (sz:Nat) (T:TypeId) (rows:List (List Value))
  | h (l g:Nat) (q:HP)
  | v (vs:List Value) (ps:List SP)
  | al (t u:Tmp)
def Fact.on:Fact→Tmp→Bool
  | .s t _,d | .b t _ _ _,d | .a t _ _,d | .o t _ _ _,d=>t==d
  | .h _ _ _,_=>false
  | .v _ _,_=>false
  | .al t u,d=>t==d || u==d
  | .f t u _,d=>t==d || u==d
def Fact.box:Fact→Option Tmp
  | .b t _ _ _ | .a t _ _ | .o t _ _ _=>some t
  | _=>none
def Fact.own:Fact→Option Tmp
  | .o t _ _ _=>some t
  | _=>none
def Fact.lab:Fact→Option (Nat × Nat)
  | .h l g _=>some (l,g)
  | _=>none
def blk:Value→Option Nat
  | .pointer (some a)=>some a.block
  | v=>v.ownBlock
def Fact.boxed:Fact→Option Tmp
  | .b t _ _ _=>some t
  | _=>none
abbrev ptr (g k:Nat):Value := .pointer (some ⟨g,k,none⟩)
structure Owns (B:Nat) (ok:Nat→Prop) (W:World) (sz:Nat) (T:TypeId) (rows:List (List Value)) (v:Value):Prop where
  row:W.ownsRow B T sz v rows.length rows.flatten
  fr:∀ g,v.ownBlock=some g→¬ ok g
  sz:∀ r∈rows,r.length=sz
theorem Owns.blk {B:Nat} {ok:Nat→Prop} {W:World} {sz:Nat} {T:TypeId} {rows:List (List Value)} {v:Value} (h:Owns B ok W sz T rows v):blk v=v.ownBlock:=by
  rcases h.row.2 with ⟨e,_⟩|⟨g,cap,cur,e,_⟩<;>rw [e]<;>rfl
theorem Owns.ne {B:Nat} {ok:Nat→Prop} {W:World} {sz:Nat} {T:TypeId} {rows:List (List Value)} {v:Value} (h:Owns B ok W sz T rows v) {g k:Nat} (e:v=ptr g k):False:=by
  rcases h.row.2 with ⟨e',_⟩|⟨g',cap,cur,e',_⟩<;>rw [e'] at e<;>cases e
theorem Owns.lt {B:Nat} {ok:Nat→Prop} {W:World} {sz:Nat} {T:TypeId} {rows:List (List Value)} {v:Value} (h:Owns B ok W sz T rows v) {g:Nat} (e:Fx.blk v=some g):B≤g∧g < W.heap.size:=h.row.lt g (h.blk ▸ e)
theorem Owns.grown {B:Nat} {ok ok':Nat→Prop} {W W':World} {sz:Nat} {T:TypeId} {rows:List (List Value)} {v:Value} (h:Owns B ok W sz T rows v) {row:Option Nat} (hg:W.grownBy W' row) (hr:∀ g,v.ownBlock=some g→some g≠row) (hn:∀ g,v.ownBlock=some g→¬ ok' g):Owns B ok' W' sz T rows v :=
  ⟨h.row.kept hg (by cases e:v.ownBlock with|none=>exact .inl rfl|some g=>exact .inr (hr g e)),hn,h.sz⟩
def Fact.holds (B:Nat) (ok:Nat→Prop) (a:Act) (W:World):Fact→Prop
  | .s t p=>p.H ok (a.tmps.getD t undef) W
  | .b t q T n=>∃ g cs,a.tmps.getD t undef=ptr g 0∧¬ ok g∧B≤g∧W.heap[g]?=some (.cells cs T (0,0))∧cs.size=n∧q.H ok (.agg cs) W
  | .a t T n=>∃ g cs,a.tmps.getD t undef=ptr g 0∧¬ ok g∧B≤g∧W.heap[g]?=some (.cells cs T (0,0))∧cs.size=n
  | .f t u off=>∃ g,blk (a.tmps.getD u undef)=some g∧a.tmps.getD t undef=ptr g off
  | .o t sz T rows=>Owns B ok W sz T rows (a.tmps.getD t undef)
  | .h _ g q=>∃ ob,W.heap[g]?=some ob∧¬ ok g∧B≤g∧q.H ok ob W
  | .v vs ps=>Args ok W ps vs
  | .al t u=>a.tmps.getD t undef=a.tmps.getD u undef
theorem Fact.holds.later {B:Nat} {ok ok':Nat→Prop} {a a':Act} {W W':World} {f:Fact} (h:f.holds B ok a W) (hb:Below W.heap.size W W')
    (hk:∀ k,ok k→k < W.heap.size→ok' k) (hn:∀ k,¬ ok k→k < W.heap.size→¬ ok' k) (ht:∀ t,f.on t=true→a'.tmps.getD t undef=a.tmps.getD t undef):f.holds B ok' a' W':=by
  have hp:∀ (p:SP) (v:Value),p.H ok v W→p.H ok' v W':=fun p v hv=>p.step (p.mono (fun k hk'=>hk k hk'.1 hk'.2) (p.bound hv)) (fun k _ hlt=>hb.block k hlt)
  cases f with
  | s t p =>
    have e:=ht t (by simp [Fact.on])
    simp only [Fact.holds] at h ⊢
    rw [e];exact hp _ _ h
  | b t q T n =>
    obtain ⟨g,cs,h1,h2,h3,h4,h5,h6⟩:=h
    have hlt:=(Array.getElem?_eq_some_iff.1 h4).1
    exact ⟨g,cs,(ht t (by simp [Fact.on])).trans h1,hn g h2 hlt,h3,(hb.block g hlt).trans h4,h5,hp _ _ h6⟩
  | a t T n =>
    obtain ⟨g,cs,h1,h2,h3,h4,h5⟩:=h
    have hlt:=(Array.getElem?_eq_some_iff.1 h4).1
    exact ⟨g,cs,(ht t (by simp [Fact.on])).trans h1,hn g h2 hlt,h3,(hb.block g hlt).trans h4,h5⟩
  | f t u off =>
    obtain ⟨g,h1,h2⟩:=h
    exact ⟨g,by rw [ht u (by simp [Fact.on])];exact h1,(ht t (by simp [Fact.on])).trans h2⟩
  | al t u=>exact (ht t (by simp [Fact.on])).trans ((show a.tmps.getD t undef=a.tmps.getD u undef from h).trans (ht u (by simp [Fact.on])).symm)
  | o t sz T rows =>
    have e:=ht t (by simp [Fact.on])
    simp only [Fact.holds] at h ⊢
    rw [e]
    exact h.grown (row:=none) ⟨hb.os,hb.tape,hb.output,hb.size,fun k hk _=>hb.block k hk⟩ (fun g _=>by simp) (fun g hg=>hn g (h.fr g hg) (h.row.lt g hg).2)
  | h l g q =>
    obtain ⟨ob,h1,h2,h3,h4⟩:=h
    have hlt:=(Array.getElem?_eq_some_iff.1 h1).1
    exact ⟨ob,(hb.block g hlt).trans h1,hn g h2 hlt,h3,q.step (q.mono (fun k hk'=>hk k hk'.1 hk'.2) (q.bound h4)) (fun k _ hlt=>hb.block k hlt)⟩
  | v vs ps=>exact Args.step (fun k _ hlt=>hb.block k hlt) (Args.mono (fun k hk'=>hk k hk'.1 hk'.2) (Args.bound h))
theorem lab_lt {B:Nat} {ok:Nat→Prop} {a:Act} {W:World} {f:Fact} {l g:Nat} (h:f.lab=some (l,g)) (hh:f.holds B ok a W):B≤g∧g < W.heap.size∧¬ ok g:=by
  cases f<;>simp [Fact.lab] at h
  obtain ⟨rfl,rfl⟩:=h
  obtain ⟨ob,h1,h2,h3,_⟩:=hh
  exact ⟨h3,(Array.getElem?_eq_some_iff.1 h1).1,h2⟩
structure St (w0:World) (ok0:Nat→Prop) (N:Nat) (Φ:Fact→Prop) (a:Act) (W:World):Prop where
  hb:Below w0.heap.size w0 W
  h0:∀ k,w0.heap.size≤k→ok0 k
  hd:a.defers=[]
  hn:a.tmps.size=N
  ex:∃ ok:Nat→Prop,(∀ k,ok k→ok0 k)∧(∀ k,W.heap.size≤k→ok k)∧∀ f,Φ f→f.holds w0.heap.size ok a W
  far:∀ f f' t t',Φ f→Φ f'→f.box=some t→f'.box=some t'→t≠t'→∀ g,blk (a.tmps.getD t undef)=some g→blk (a.tmps.getD t' undef)≠some g
  farh:∀ f f' l g t,Φ f→Φ f'→f.lab=some (l,g)→f'.box=some t→blk (a.tmps.getD t undef)≠some g
  farl:∀ f f' l g l' g',Φ f→Φ f'→f.lab=some (l,g)→f'.lab=some (l',g')→l≠l'→g≠g'
section
variable {w0:World} {ok0:Nat→Prop} {N:Nat} {Φ Φ':Fact→Prop} {a:Act} {W W':World}
theorem St.mono (h:St w0 ok0 N Φ a W) (hf:∀ f,Φ' f→Φ f):St w0 ok0 N Φ' a W :=
  ⟨h.hb,h.h0,h.hd,h.hn,let ⟨ok,h1,h2,h3⟩:=h.ex;⟨ok,h1,h2,fun f hΦ=>h3 f (hf f hΦ)⟩,fun f f' t t' hΦ hΦ'=>h.far f f' t t' (hf f hΦ) (hf f' hΦ'),fun f f' l g t hΦ hΦ'=>h.farh f f' l g t (hf f hΦ) (hf f' hΦ'),fun f f' l g l' g' hΦ hΦ'=>h.farl f f' l g l' g' (hf f hΦ) (hf f' hΦ')⟩
theorem getD_put {a:Act} {d t:Tmp} {v:Value} (h:t≠d):(a.put (some d) v).tmps.getD t undef=a.tmps.getD t undef:=by
  simp [Act.put,Array.getD_eq_getD_getElem?,Array.getElem?_setIfInBounds,Ne.symm h]
theorem getD_put_self {a:Act} {d:Tmp} {v:Value} (h:d < a.tmps.size):(a.put (some d) v).tmps.getD d undef=v:=by
  simp [Act.put,Array.getD_eq_getD_getElem?,Array.getElem?_setIfInBounds,h]
theorem size_put {a:Act} {d:Option Tmp} {v:Value}:(a.put d v).tmps.size=a.tmps.size:=by cases d<;>simp [Act.put]
theorem defers_put {a:Act} {d:Option Tmp} {v:Value}:(a.put d v).defers=a.defers:=by cases d<;>rfl
theorem box_on {f:Fact} {t:Tmp} (h:f.box=some t):f.on t=true:=by cases f<;>simp [Fact.box] at h<;>simp [Fact.on,h]
theorem box_lt {B:Nat} {ok:Nat→Prop} {f:Fact} {t:Tmp} (h:f.box=some t) (hh:f.holds B ok a W):∀ g,blk (a.tmps.getD t undef)=some g→B≤g∧g < W.heap.size∧¬ ok g:=by
  intro g' hg'
  cases f<;>simp [Fact.box] at h
  · subst h;obtain ⟨g,cs,h1,h2,h3,h4,_⟩:=hh;rw [h1] at hg';simp [blk] at hg';subst hg';exact ⟨h3,(Array.getElem?_eq_some_iff.1 h4).1,h2⟩
  · subst h;obtain ⟨g,cs,h1,h2,h3,h4,_⟩:=hh;rw [h1] at hg';simp [blk] at hg';subst hg';exact ⟨h3,(Array.getElem?_eq_some_iff.1 h4).1,h2⟩
  · subst h
    have hh':Owns _ _ _ _ _ _ _:=hh
    exact ⟨(hh'.lt hg').1,(hh'.lt hg').2,hh'.fr g' (hh'.blk ▸ hg')⟩
theorem St.put_s (h:St w0 ok0 N Φ a W) {d:Tmp} (hd:d < N) {v:Value} (hb:Below W.heap.size W W') {p:SP}
    {ok:Nat→Prop} (h1:∀ k,ok k→ok0 k) (h2:∀ k,W.heap.size≤k→ok k) (h3:∀ f,Φ f→f.holds w0.heap.size ok a W) (hp:p.H ok v W')
    (hf:∀ f,Φ' f→f = .s d p∨(Φ f∧f.on d=false)):St w0 ok0 N Φ' (a.put (some d) v) W':=by
  have keep:∀ f,Φ f→f.on d=false→∀ t,f.on t=true→(a.put (some d) v).tmps.getD t undef=a.tmps.getD t undef:=fun f _ hd' t ht=>getD_put (fun e=>by subst e;rw [ht] at hd';cases hd')
  refine ⟨h.hb.trans (hb.mono h.hb.size),h.h0,by rw [defers_put];exact h.hd,by rw [size_put];exact h.hn,⟨ok,h1,fun k hk=>h2 k (Nat.le_trans hb.size hk),fun f hΦ=>?_⟩,fun f f' t t' hΦ hΦ' e e' ne=>?_,fun f f' l g t hΦ hΦ' e e'=>?_,fun f f' l g l' g' hΦ hΦ' e e' ne=>?_⟩
  · rcases hf f hΦ with rfl|⟨hΦ,hd'⟩
    · show p.H ok _ W'
      rw [getD_put_self (by rw [h.hn];exact hd)];exact hp
    · exact (h3 f hΦ).later hb (fun k hk _=>hk) (fun k hk _=>hk) (keep f hΦ hd')
  · rcases hf f hΦ with rfl|⟨hΦ,hd1⟩
    · cases e
    rcases hf f' hΦ' with rfl|⟨hΦ',hd2⟩
    · cases e'
    rw [keep f hΦ hd1 t (box_on e),keep f' hΦ' hd2 t' (box_on e')]
    exact h.far f f' t t' hΦ hΦ' e e' ne
  · rcases hf f hΦ with rfl|⟨hΦ,hd1⟩
    · cases e
    rcases hf f' hΦ' with rfl|⟨hΦ',hd2⟩
    · cases e'
    rw [keep f' hΦ' hd2 t (box_on e')]
    exact h.farh f f' l g t hΦ hΦ' e e'
  · rcases hf f hΦ with rfl|⟨hΦ,hd1⟩
    · cases e
    rcases hf f' hΦ' with rfl|⟨hΦ',hd2⟩
    · cases e'
    exact h.farl f f' l g l' g' hΦ hΦ' e e' ne
theorem St.put_b (h:St w0 ok0 N Φ a W) {d:Tmp} (hd:d < N) {cs:Array Value} {T:TypeId} {n:Nat} {q:SP}
    {ok:Nat→Prop} (h1:∀ k,ok k→ok0 k) (h2:∀ k,W.heap.size≤k→ok k) (h3:∀ f,Φ f→f.holds w0.heap.size ok a W) (hq:q.H ok (.agg cs) W) (hn:cs.size=n)
    (hf:∀ f,Φ' f→f = .b d q T n∨f = .a d T n∨(Φ f∧f.on d=false)):St w0 ok0 N Φ' (a.put (some d) (ptr W.heap.size 0)) (W.alloc (.cells cs T)):=by
  have keep:∀ f,Φ f→f.on d=false→∀ t,f.on t=true→(a.put (some d) (ptr W.heap.size 0)).tmps.getD t undef=a.tmps.getD t undef:=fun f _ hd' t ht=>getD_put (fun e=>by subst e;rw [ht] at hd';cases hd')
  have hb:Below W.heap.size W (W.alloc (.cells cs T)):=(Below.refl _ _).alloc (Nat.le_refl _) _
  have hself:(a.put (some d) (ptr W.heap.size 0)).tmps.getD d undef=ptr W.heap.size 0:=getD_put_self (by rw [h.hn];exact hd)
  have hq':q.H (fun k=>ok k∧k≠W.heap.size) (.agg cs) (W.alloc (.cells cs T)) :=
    q.step (q.mono (fun k hk=>⟨hk.1,by have:=hk.2;omega⟩) (q.bound hq)) (fun k hk hlt=>hb.block k hlt)
  have hnew:(W.alloc (.cells cs T)).heap[W.heap.size]?=some (.cells cs T (0,0)):=heap_alloc_new W _
  have hsz:(W.alloc (.cells cs T)).heap.size=W.heap.size+1:=by simp
  refine ⟨h.hb.trans (hb.mono h.hb.size),h.h0,by rw [defers_put];exact h.hd,by rw [size_put];exact h.hn,
    ⟨fun k=>ok k∧k≠W.heap.size,fun k hk=>h1 k hk.1,fun k hk=>⟨h2 k (by omega),by omega⟩,fun f hΦ=>?_⟩,?_,fun f f' l g t hΦ hΦ' e e'=>?_,fun f f' l g l' g' hΦ hΦ' e e' ne=>?_⟩
  · rcases hf f hΦ with rfl|rfl|⟨hΦ,hd'⟩
    · exact ⟨W.heap.size,cs,hself,fun hk=>hk.2 rfl,h.hb.size,hnew,hn,hq'⟩
    · exact ⟨W.heap.size,cs,hself,fun hk=>hk.2 rfl,h.hb.size,hnew,hn⟩
    · exact (h3 f hΦ).later hb (fun k hk hlt=>⟨hk,by omega⟩) (fun k hk hlt hk'=>hk hk'.1) (keep f hΦ hd')
  · have old:∀ f t,Φ f→f.on d=false→f.box=some t→∀ g,blk ((a.put (some d) (ptr W.heap.size 0)).tmps.getD t undef)=some g→g≠W.heap.size:=fun f t hΦ hd' e g e2=>by
      rw [keep f hΦ hd' t (box_on e)] at e2
      have:=(box_lt e (h3 f hΦ) g e2).2.1
      omega
    have new:∀ (f:Fact) (t:Tmp),(f = .b d q T n∨f = .a d T n)→f.box=some t→t=d:=fun f t hf e=>by rcases hf with rfl|rfl<;>simp [Fact.box] at e<;>exact e.symm
    intro f f' t t' hΦ hΦ' e e' ne
    have c1:(f = .b d q T n∨f = .a d T n)∨(Φ f∧f.on d=false):=by rcases hf f hΦ with h|h|h<;>simp [h]
    have c2:(f' = .b d q T n∨f' = .a d T n)∨(Φ f'∧f'.on d=false):=by rcases hf f' hΦ' with h|h|h<;>simp [h]
    rcases c1 with c1|⟨hΦ1,hd1⟩<;>rcases c2 with c2|⟨hΦ2,hd2⟩
    · exact absurd ((new f t c1 e).trans (new f' t' c2 e').symm) ne
    · rw [new f t c1 e,hself];intro g hg hg';simp [blk] at hg;exact old f' t' hΦ2 hd2 e' g hg' hg.symm
    · rw [new f' t' c2 e',hself];intro g hg hg';simp [blk] at hg';exact old f t hΦ1 hd1 e g hg hg'.symm
    · rw [keep f hΦ1 hd1 t (box_on e),keep f' hΦ2 hd2 t' (box_on e')]
      exact h.far f f' t t' hΦ1 hΦ2 e e' ne
  · rcases hf f hΦ with rfl|rfl|⟨hΦ1,_⟩
    · cases e
    · cases e
    have hlt:=(lab_lt e (h3 f hΦ1)).2.1
    rcases hf f' hΦ' with rfl|rfl|⟨hΦ2,hd2⟩
    · simp [Fact.box] at e';subst e';rw [hself];simp [blk];omega
    · simp [Fact.box] at e';subst e';rw [hself];simp [blk];omega
    · rw [keep f' hΦ2 hd2 t (box_on e')]
      exact h.farh f f' l g t hΦ1 hΦ2 e e'
  · rcases hf f hΦ with rfl|rfl|⟨hΦ1,_⟩
    · cases e
    · cases e
    rcases hf f' hΦ' with rfl|rfl|⟨hΦ2,_⟩
    · cases e'
    · cases e'
    exact h.farl f f' l g l' g' hΦ1 hΦ2 e e' ne
end
theorem St.store {w0:World} {ok0:Nat→Prop} {N:Nat} {Φ Φ':Fact→Prop} {a:Act} {W:World} (h:St w0 ok0 N Φ a W) {t:Tmp} {T:TypeId} {n:Nat} {q:SP} {cs:Array Value} {g:Nat}
    {ok:Nat→Prop} (h1:∀ k,ok k→ok0 k) (h2:∀ k,W.heap.size≤k→ok k) (h3:∀ f,Φ f→f.holds w0.heap.size ok a W)
    (ht:a.tmps.getD t undef=ptr g 0) (hg:¬ ok g) (hB:w0.heap.size≤g) {old:Array Value} (hold:W.heap[g]?=some (.cells old T (0,0))) (hso:old.size=n) (hsc:cs.size=n)
    (hin:∃ f,Φ f∧f.box=some t) (hq:q.H ok (.agg cs) W) (hf:∀ f,Φ' f→f = .b t q T n∨(Φ f∧f.boxed≠some t)):St w0 ok0 N Φ' (a.put none undef) (W.setRow g cs):=by
  have hrow:(W.setRow g cs).heap[g]?=some (.cells cs T (0,0)):=setRow_heap W g old cs T (0,0) hold
  have hother:∀ k,k≠g→(W.setRow g cs).heap[k]?=W.heap[k]?:=fun k hk=>setRow_other W g k cs (by omega)
  have hsp:∀ (p:SP) v,p.H ok v W→p.H ok v (W.setRow g cs):=fun p v hv=>p.step hv (fun k hk _=>hother k (fun e=>hg (e ▸ hk)))
  refine ⟨h.hb.trans ⟨rfl,rfl,rfl,by simp,fun k hk=>hother k (by omega)⟩,h.h0,h.hd,h.hn,⟨ok,h1,fun k hk=>h2 k (by simpa using hk),fun f hΦ=>?_⟩,fun f f' t1 t1' hΦ hΦ' e e' ne=>?_,fun f f' l g' t1 hΦ hΦ' e e'=>?_,fun f f' l g1 l' g1' hΦ hΦ' e e' ne=>?_⟩
  · rcases hf f hΦ with rfl|⟨hΦ1,hne⟩
    · exact ⟨g,cs,ht,hg,hB,hrow,hsc,hsp q _ hq⟩
    · have hh:=h3 f hΦ1
      cases f with
      | s u p=>exact hsp p _ hh
      | f u u' off=>exact hh
      | al u u'=>exact hh
      | b u p T' n' =>
        obtain ⟨g',cs',e1,e2,e3,e4,e5,e6⟩:=hh
        have hu:u≠t:=fun e=>hne (by rw [e];rfl)
        obtain ⟨f0,hf0,hb0⟩:=hin
        have:=h.far _ f0 u t hΦ1 hf0 rfl hb0 hu g' (by rw [e1];rfl)
        have hgg:g'≠g:=fun e=>this (by rw [ht,e];rfl)
        exact ⟨g',cs',e1,e2,e3,(hother g' hgg).trans e4,e5,hsp p _ e6⟩
      | a u T' n' =>
        obtain ⟨g',cs',e1,e2,e3,e4,e5⟩:=hh
        by_cases hgg:g'=g
        · subst hgg
          rw [hold] at e4
          simp only [Option.some.injEq,Obj.cells.injEq] at e4
          obtain ⟨e4,rfl,_⟩:=e4
          exact ⟨g',cs,e1,e2,e3,hrow,by rw [hsc,← hso,e4,e5]⟩
        · exact ⟨g',cs',e1,e2,e3,(hother g' hgg).trans e4,e5⟩
      | o u sz T' rows =>
        have hh':Owns _ _ _ _ _ _ _:=hh
        have hu:u≠t:=fun e=>hh'.ne (e ▸ ht)
        obtain ⟨f0,hf0,hb0⟩:=hin
        refine hh'.grown (row:=some g) ⟨rfl,rfl,rfl,by simp,fun k _ hk=>hother k (fun e=>hk (by rw [e]))⟩ (fun g' hg' e=>?_) hh'.fr
        cases e
        exact h.far _ f0 u t hΦ1 hf0 rfl hb0 hu g (hh'.blk.trans hg') (by rw [ht];rfl)
      | h l g' q' =>
        obtain ⟨ob,e1,e2,e3,e4⟩:=hh
        obtain ⟨f0,hf0,hb0⟩:=hin
        have hgg:g'≠g:=fun e=>h.farh _ f0 l g' t hΦ1 hf0 rfl hb0 (by rw [ht,e];rfl)
        exact ⟨ob,(hother g' hgg).trans e1,e2,e3,q'.step e4 (fun k hk _=>hother k (fun e=>hg (e ▸ hk)))⟩
      | v vs ps=>exact Args.step (fun k hk _=>hother k (fun e=>hg (e ▸ hk))) hh
  · have c:∀ f t1,Φ' f→f.box=some t1→∃ f',Φ f'∧f'.box=some t1:=fun f t1 hΦ e=>by
      rcases hf f hΦ with rfl|⟨hΦ1,_⟩
      · simp [Fact.box] at e;subst e;exact hin
      · exact ⟨f,hΦ1,e⟩
    obtain ⟨x,hx,ex⟩:=c f t1 hΦ e
    obtain ⟨y,hy,ey⟩:=c f' t1' hΦ' e'
    exact h.far x y t1 t1' hx hy ex ey ne
  · rcases hf f hΦ with rfl|⟨hΦ1,_⟩
    · cases e
    rcases hf f' hΦ' with rfl|⟨hΦ2,_⟩
    · simp [Fact.box] at e';subst e'
      obtain ⟨f0,hf0,hb0⟩:=hin
      exact h.farh f f0 l g' t hΦ1 hf0 e hb0
    · exact h.farh f f' l g' t1 hΦ1 hΦ2 e e'
  · rcases hf f hΦ with rfl|⟨hΦ1,_⟩
    · cases e
    rcases hf f' hΦ' with rfl|⟨hΦ2,_⟩
    · cases e'
    exact h.farl f f' l g1 l' g1' hΦ1 hΦ2 e e' ne
theorem box_own {B:Nat} {ok:Nat→Prop} {a:Act} {W:World} {f:Fact} {t:Tmp} {sz:Nat} {T:TypeId} {rows:List (List Value)} (h:f.box=some t) (hh:f.holds B ok a W) (ho:Owns B ok W sz T rows (a.tmps.getD t undef)):f.own=some t:=by
  cases f<;>simp [Fact.box] at h
  · subst h;obtain ⟨g,cs,h1,_⟩:=hh;exact (ho.ne h1).elim
  · subst h;obtain ⟨g,cs,h1,_⟩:=hh;exact (ho.ne h1).elim
  · subst h;rfl
theorem St.put_g {w0:World} {ok0:Nat→Prop} {N:Nat} {Φ Φ' K:Fact→Prop} {a:Act} {W W':World} (h:St w0 ok0 N Φ a W) {d:Tmp} (hd:d < N) {v:Value} {row:Option Nat} (hg:W.grownBy W' row) {ok ok':Nat→Prop}
    (h3:∀ f,Φ f→f.holds w0.heap.size ok a W) (hr:∀ k,row=some k→w0.heap.size≤k) (h1:∀ k,ok' k→ok0 k) (h2:∀ k,W'.heap.size≤k→ok' k)
    (hk:∀ k,ok k→k < W.heap.size→ok' k∧some k≠row)
    (hK:∀ f,K f→Φ f∧f.on d=false∧∀ t,f.box=some t→∀ g,blk (a.tmps.getD t undef)=some g→some g≠row∧¬ ok' g)
    (hL:∀ f l g,K f→f.lab=some (l,g)→some g≠row∧¬ ok' g)
    {fn:Fact} (hfn:fn.holds w0.heap.size ok' (a.put (some d) v) W') (hfb:∀ t,fn.box=some t→t=d∧∀ f' t',K f'→f'.box=some t'→∀ g,blk v=some g→blk (a.tmps.getD t' undef)≠some g) (hfl:fn.lab=none) (hfv:fn.box=none∨∀ f l g,K f→f.lab=some (l,g)→blk v≠some g)
    (hf:∀ f,Φ' f→f=fn∨K f):St w0 ok0 N Φ' (a.put (some d) v) W':=by
  have keep:∀ f:Fact,f.on d=false→∀ t,f.on t=true→(a.put (some d) v).tmps.getD t undef=a.tmps.getD t undef:=fun f hd' t ht=>getD_put (fun e=>by subst e;rw [ht] at hd';cases hd')
  have hself:(a.put (some d) v).tmps.getD d undef=v:=getD_put_self (by rw [h.hn];exact hd)
  have hsp:∀ (p:SP) (x:Value),p.H ok x W→p.H ok' x W':=fun p x hx =>
    p.mono (fun k hk'=>hk'.1) (p.step (p.mono (ok':=fun k=>ok' k∧ok k∧k < W.heap.size) (fun k hk'=>⟨(hk k hk'.1 hk'.2).1,hk'⟩) (p.bound hx)) (fun k hk' _=>hg.block k hk'.2.2 (hk k hk'.2.1 hk'.2.2).2))
  refine ⟨h.hb.grown hg h.hb.size hr,h.h0,by rw [defers_put];exact h.hd,by rw [size_put];exact h.hn,⟨ok',h1,h2,fun f hΦ=>?_⟩,fun f f' t t' hΦ hΦ' e e' ne=>?_,fun f f' l g t hΦ hΦ' e e'=>?_,fun f f' l g l' g' hΦ hΦ' e e' ne=>?_⟩
  · rcases hf f hΦ with rfl|hKf
    · exact hfn
    · obtain ⟨hΦf,hd',hfar⟩:=hK f hKf
      have hh:=h3 f hΦf
      cases f with
      | s t p =>
        have et:=keep _ hd' t (by simp [Fact.on])
        simp only [Fact.holds] at hh ⊢
        rw [et];exact hsp p _ hh
      | b t q T n =>
        obtain ⟨g,cs,e1,e2,e3,e4,e5,e6⟩:=hh
        have hlt:=(Array.getElem?_eq_some_iff.1 e4).1
        obtain ⟨r1,r2⟩:=hfar t rfl g (by rw [e1];rfl)
        exact ⟨g,cs,(keep _ hd' t (by simp [Fact.on])).trans e1,r2,e3,(hg.block g hlt r1).trans e4,e5,hsp q _ e6⟩
      | a t T n =>
        obtain ⟨g,cs,e1,e2,e3,e4,e5⟩:=hh
        have hlt:=(Array.getElem?_eq_some_iff.1 e4).1
        obtain ⟨r1,r2⟩:=hfar t rfl g (by rw [e1];rfl)
        exact ⟨g,cs,(keep _ hd' t (by simp [Fact.on])).trans e1,r2,e3,(hg.block g hlt r1).trans e4,e5⟩
      | f t u off =>
        obtain ⟨g,e1,e2⟩:=hh
        exact ⟨g,by rw [keep _ hd' u (by simp [Fact.on])];exact e1,(keep _ hd' t (by simp [Fact.on])).trans e2⟩
      | al t u=>exact (keep _ hd' t (by simp [Fact.on])).trans ((show a.tmps.getD t undef=a.tmps.getD u undef from hh).trans (keep _ hd' u (by simp [Fact.on])).symm)
      | o t sz T rows =>
        have hh':Owns _ _ _ _ _ _ _:=hh
        have et:=keep _ hd' t (by simp [Fact.on])
        show Owns _ _ _ _ _ _ _
        rw [et]
        exact hh'.grown hg (fun g hg'=>(hfar t rfl g (hh'.blk.trans hg')).1) (fun g hg'=>(hfar t rfl g (hh'.blk.trans hg')).2)
      | v vs ps=>exact Args.mono (fun k hk'=>hk'.1) (Args.step (fun k hk' _=>hg.block k hk'.2.2 (hk k hk'.2.1 hk'.2.2).2) (Args.mono (ok':=fun k=>ok' k∧ok k∧k < W.heap.size) (fun k hk'=>⟨(hk k hk'.1 hk'.2).1,hk'⟩) (Args.bound hh)))
      | h l g q =>
        obtain ⟨ob,e1,e2,e3,e4⟩:=hh
        obtain ⟨r1,r2⟩:=hL _ l g hKf rfl
        exact ⟨ob,(hg.block g (Array.getElem?_eq_some_iff.1 e1).1 r1).trans e1,r2,e3,q.mono (fun k hk'=>hk'.1) (q.step (q.mono (ok':=fun k=>ok' k∧ok k∧k < W.heap.size) (fun k hk'=>⟨(hk k hk'.1 hk'.2).1,hk'⟩) (q.bound e4)) (fun k hk' _=>hg.block k hk'.2.2 (hk k hk'.2.1 hk'.2.2).2))⟩
  · rcases hf f hΦ with rfl|hKf<;>rcases hf f' hΦ' with rfl|hKf'
    · exact absurd ((hfb t e).1.trans (hfb t' e').1.symm) ne
    · obtain ⟨r1,r2⟩:=hfb t e
      rw [r1,hself,keep f' (hK f' hKf').2.1 t' (box_on e')]
      exact r2 f' t' hKf' e'
    · obtain ⟨r1,r2⟩:=hfb t' e'
      rw [r1,hself,keep f (hK f hKf).2.1 t (box_on e)]
      intro g hg1 hg2
      exact r2 f t hKf e g hg2 hg1
    · rw [keep f (hK f hKf).2.1 t (box_on e),keep f' (hK f' hKf').2.1 t' (box_on e')]
      exact h.far f f' t t' (hK f hKf).1 (hK f' hKf').1 e e' ne
  · rcases hf f hΦ with rfl|hKf
    · rw [hfl] at e;cases e
    rcases hf f' hΦ' with rfl|hKf'
    · rcases hfv with h0|h0
      · rw [h0] at e';cases e'
      · rw [(hfb t e').1,hself];exact h0 f l g hKf e
    · rw [keep f' (hK f' hKf').2.1 t (box_on e')]
      exact h.farh f f' l g t (hK f hKf).1 (hK f' hKf').1 e e'
  · rcases hf f hΦ with rfl|hKf
    · rw [hfl] at e;cases e
    rcases hf f' hΦ' with rfl|hKf'
    · rw [hfl] at e';cases e'
    exact h.farl f f' l g l' g' (hK f hKf).1 (hK f' hKf').1 e e' ne
def kill (n:Nat):List (Nat × Nat)→Option Nat
  | []=>none
  | (k,s) :: r=>if k==n then some s else kill n r
structure Rg where
  D:List (List Nat)
  base:List (Fact × Option Nat)
  G:List (Option Fact)
  K:List (Nat × Nat)
def Rg.deps (R:Rg) (i:Nat):List Nat:=R.D.getD i []
def Rg.giv (R:Rg) (i:Nat):Option Fact:=R.G.getD i none
def Rg.gk (R:Rg) (j:Nat):Option Nat:=kill (1000+j) R.K
def Rg.Av (R:Rg) (l:Array Bool) (f:Fact):Prop :=
  (∃ k,(f,k)∈R.base∧∀ s,k=some s→l.getD s false=false)∨(∃ j,(l.getD j false=true∧∀ s,R.gk j=some s→l.getD s false=false)∧R.giv j=some f)
structure Rg.Rdy (R:Rg) (l:Array Bool) (i:Nat):Prop where
  here:l.getD i false=false
  deps:∀ j∈R.deps i,l.getD j false=true
  closed:∀ s,l.getD s false=true→∀ j∈R.deps s,l.getD j false=true
  size:l.size=R.D.length
  lt:i < R.D.length
def Rg.okG (R:Rg) (i j:Nat):Bool:=match R.gk j with|some s=>s==i || (R.deps s).contains i|none=>true
def Rg.lookG (R:Rg) (i j:Nat):Option Fact:=if (R.deps i).contains j && R.okG i j then R.giv j else none
def Rg.lookB (R:Rg) (i k:Nat):Option Fact :=
  match R.base[k]? with
  | some (f,none)=>some f
  | some (f,some s)=>if s==i || (R.deps s).contains i then some f else none
  | none=>none
inductive Rg.Nd (R:Rg) (i:Nat) (f:Fact):Prop
  | g (j:Nat) (h:R.lookG i j=some f)
  | b (k:Nat) (h:R.lookB i k=some f)
theorem Rg.Nd.av {R:Rg} {i:Nat} {f:Fact} {l:Array Bool} (h:R.Nd i f) (hr:R.Rdy l i):R.Av l f:=by
  cases h with
  | g j h =>
    unfold Rg.lookG at h
    split at h
    · rename_i hj
      rw [Bool.and_eq_true] at hj
      refine .inr ⟨j,⟨hr.deps j (by simpa using hj.1),fun s e=>?_⟩,h⟩
      have hs:=hj.2
      unfold Rg.okG at hs
      rw [e] at hs
      simp only [Bool.or_eq_true,beq_iff_eq,List.contains_iff_mem] at hs
      rcases hs with rfl|hs
      · exact hr.here
      · cases hl:l.getD s false with
        | false=>rfl
        | true=>exact (by simpa [hr.here] using hr.closed s hl i hs)
    · cases h
  | b k h =>
    unfold Rg.lookB at h
    split at h
    · rename_i f' hf;cases h;exact .inl ⟨none,List.mem_of_getElem? hf,fun s e=>by cases e⟩
    · rename_i f' s hf
      split at h
      · rename_i hs
        cases h
        refine .inl ⟨some s,List.mem_of_getElem? hf,fun s' e=>?_⟩
        cases e
        simp only [Bool.or_eq_true,beq_iff_eq,List.contains_iff_mem] at hs
        rcases hs with rfl|hs
        · exact hr.here
        · cases hl:l.getD s false with
          | false=>rfl
          | true=>exact (by simpa [hr.here] using hr.closed s hl i hs)
      · cases h
    · cases h
def Rg.sv (R:Rg) (i:Nat) (bad:Fact→Bool):Bool :=
  (R.base.all fun p=>!bad p.1 || p.2==some i || (match p.2 with|some s=>(R.deps i).contains s|none=>false)) &&
    (List.range R.D.length).all fun j=>j==i || (R.deps j).contains i || (match R.giv j with|some f=>!bad f|none=>true) || (match R.gk j with|some s=>s==i || (R.deps i).contains s|none=>false)
theorem getD_set {l:Array Bool} {i j:Nat} (hi:i < l.size):(l.setIfInBounds i true).getD j false=(if i=j then true else l.getD j false):=by
  simp only [Array.getD_eq_getD_getElem?,Array.getElem?_setIfInBounds]
  by_cases h:i=j
  · subst h;simp [hi]
  · simp [h]
theorem Rg.sv_spec {R:Rg} {i:Nat} {bad:Fact→Bool} (hs:R.sv i bad=true) {l:Array Bool} (hr:R.Rdy l i) {f:Fact} (h:R.Av (l.setIfInBounds i true) f) :
    R.giv i=some f∨(R.Av l f∧bad f=false):=by
  simp only [Rg.sv,Bool.and_eq_true,List.all_eq_true,List.mem_range,Bool.or_eq_true,beq_iff_eq,List.contains_iff_mem,Bool.not_eq_true'] at hs
  obtain ⟨hs1,hs2⟩:=hs
  have hi:i < l.size:=by rw [hr.size];exact hr.lt
  rcases h with ⟨k,hk,hl⟩|⟨j,hj,hf⟩
  · right
    refine ⟨.inl ⟨k,hk,fun s e=>?_⟩,?_⟩
    · have:=hl s e
      rw [getD_set hi] at this
      split at this
      · cases this
      · exact this
    · rcases hs1 _ hk with (h|h)|h
      · exact h
      · have:=hl i h
        rw [getD_set hi,if_pos rfl] at this
        cases this
      · split at h
        · rename_i s e
          have:=hl s e
          rw [getD_set hi] at this
          split at this
          · cases this
          · rw [hr.deps s (by simpa using h)] at this;cases this
        · cases h
  · obtain ⟨hj,hkj⟩:=hj
    rw [getD_set hi] at hj
    split at hj
    · rename_i e;subst e;exact .inl hf
    · rename_i ne
      right
      refine ⟨.inr ⟨j,⟨hj,fun s e=>?_⟩,hf⟩,?_⟩
      · have:=hkj s e
        rw [getD_set hi] at this
        split at this
        · cases this
        · exact this
      have hjl:j < R.D.length:=by
        rw [← hr.size]
        rcases Nat.lt_or_ge j l.size with h|h
        · exact h
        · simp [Array.getD_eq_getD_getElem?,Array.getElem?_eq_none h] at hj
      rcases hs2 j hjl with ((h|h)|h)|h
      · exact absurd h.symm ne
      · have:=hr.closed j hj i h
        rw [hr.here] at this;cases this
      · rw [hf] at h;simpa using h
      · split at h
        · rename_i s e
          have:=hkj s e
          rw [getD_set hi] at this
          simp only [Bool.or_eq_true,beq_iff_eq,List.contains_iff_mem] at h
          rcases h with rfl|h
          · rw [if_pos rfl] at this;cases this
          · split at this
            · cases this
            · rw [hr.deps s h] at this;cases this
        · cases h
section
variable (P:Program) (w0:World) (ok0:Nat→Prop) (N:Nat)
def StepAt (R:Rg) (ops:Array Oper) (Q:Exit→Act→World→Prop) (i:Nat) (o:Oper):Prop :=
  ∀ (l:Array Bool) (a:Act) (W:World),R.Rdy l i→St w0 ok0 N (R.Av l) a W →
    if Region.wanted o (yielded ops a.tmps)=true then o.wp P a W (fun a' W'=>St w0 ok0 N (R.Av (l.setIfInBounds i true)) a' W') Q
    else St w0 ok0 N (R.Av (l.setIfInBounds i true)) (a.put o.dst undef) W
inductive Steps (R:Rg) (ops:Array Oper) (Q:Exit→Act→World→Prop):Nat→List Oper→Prop
  | nil {i:Nat}:Steps R ops Q i []
  | cons {i:Nat} {o:Oper} {r:List Oper} (h:StepAt P w0 ok0 N R ops Q i o) (t:Steps R ops Q (i+1) r):Steps R ops Q i (o :: r)
end
section
variable {P:Program} {w0:World} {ok0:Nat→Prop} {N:Nat} {R:Rg} {ops:Array Oper} {Q:Exit→Act→World→Prop}
theorem Steps.at_ {i:Nat} {r:List Oper} (h:Steps P w0 ok0 N R ops Q i r):∀ j o,r[j]?=some o→StepAt P w0 ok0 N R ops Q (i+j) o:=by
  induction h with
  | nil=>intro j o h;simp at h
  | cons h t ih =>
    intro j o ho
    cases j with
    | zero=>simp at ho;subst ho;exact h
    | succ j=>simp at ho;have:=ih j o ho;rwa [Nat.add_assoc,Nat.add_comm 1 j] at this
theorem St.drew {Φ:Fact→Prop} {a:Act} {W:World} (h:St w0 ok0 N Φ a W):St w0 ok0 N Φ a { W with drawn:=W.drawn+1 }:=by
  refine ⟨⟨h.hb.os,h.hb.tape,h.hb.output,h.hb.size,h.hb.block⟩,h.h0,h.hd,h.hn,?_,h.far,h.farh,h.farl⟩
  obtain ⟨ok,h1,h2,h3⟩:=h.ex
  exact ⟨ok,h1,h2,fun f hf=>(h3 f hf).later ⟨rfl,rfl,rfl,Nat.le_refl _,fun _ _=>rfl⟩ (fun k hk _=>hk) (fun k hk _=>hk) (fun _ _=>rfl)⟩
def edgesOf (ops:Array Oper):List (List Nat):=ops.toList.map fun o=>(o.after.toList.filter fun e=>Region.binds .any e).map (·.on)
def backward (D:List (List Nat)):Bool:=(List.range D.length).all fun i=>(D.getD i []).all fun j=>decide (j < i)
theorem edges_mem {i:Nat} {o:Oper} (ho:ops[i]?=some o) {j:Nat}:j∈(edgesOf ops).getD i []↔∃ e∈o.after,Region.binds .any e=true∧e.on=j:=by
  have ho':ops.toList[i]?=some o:=by simpa using ho
  have:(edgesOf ops)[i]?=some ((o.after.toList.filter fun e=>Region.binds .any e).map (·.on)):=by simp [edgesOf,ho']
  rw [List.getD_eq_getElem?_getD,this]
  simp [and_assoc]
def cnt (l:Array Bool):Nat:=l.toList.countP id
theorem cnt_set {l:Array Bool} {i:Nat} (hi:i < l.size) (h:l.getD i false=false):cnt (l.setIfInBounds i true)=cnt l+1:=by
  unfold cnt
  rw [Array.toList_setIfInBounds]
  have hi':i < l.toList.length:=by simpa using hi
  rw [List.countP_set hi']
  have e:l.toList[i]=false:=by simpa [Array.getD_eq_getD_getElem?,hi] using h
  simp [e]
theorem all_of_cnt {l:Array Bool} (h:cnt l=l.size) (j:Nat) (hj:j < l.size):l.getD j false=true:=by
  have:l.toList.countP id=l.toList.length:=by simpa [cnt] using h
  have:=List.countP_eq_length.1 this (l[j]) (by simp)
  simpa [Array.getD_eq_getD_getElem?,hj] using this
theorem noneListed (n j:Nat):(Array.replicate n false).getD j false=false:=by
  simp only [Array.getD_eq_getD_getElem?,Array.getElem?_replicate]
  split<;>rfl
def AllAv (R:Rg) (f:Fact):Prop:=(f,none)∈R.base∨∃ j,R.gk j=none∧R.giv j=some f
theorem region_draw {id:Nat} {a:Act} {W:World} (hm:P.follows .mixedOrders=true) (hD:edgesOf ops=R.D) (hbk:backward R.D=true) (hG:R.G.length≤R.D.length)
    (hst:St w0 ok0 N (fun f=>∃ k,(f,k)∈R.base) a W) (hs:Steps P w0 ok0 N R ops Q 0 ops.toList)
    (hk:∀ s f,(f,some s)∈R.base→s < R.D.length)
    (hend:∀ a W,St w0 ok0 N (AllAv R) a W→Q .normal a W):(Code.region id ops true).wp P Q a W:=by
  refine wp_region_any hm ?_
  have hn:R.D.length=ops.size:=by rw [← hD];simp [edgesOf]
  have key:∀ (fuel:Nat) (l:Array Bool) (a:Act) (W:World),cnt l+fuel=ops.size→l.size=ops.size →
      (∀ s,l.getD s false=true→∀ j∈R.deps s,l.getD j false=true)→St w0 ok0 N (R.Av l) a W→wpAny P .any ops Q fuel l a W:=by
    intro fuel
    induction fuel with
    | zero =>
      intro l a W hc hl hcl hS
      have hall:=all_of_cnt (l:=l) (by omega)
      constructor
      · unfold Region.ready
        rw [List.filter_eq_nil_iff]
        intro i hi
        have hi':i < l.size:=by rw [hl];simpa using hi
        have:l.getD i true=true:=by
          have:=hall i hi'
          simpa [Array.getD_eq_getD_getElem?,hi'] using this
        simp [this]
      · refine hend a W (hS.mono fun f hf=>?_)
        rcases hf with hf|⟨j,hg,hf⟩
        · exact .inl ⟨none,hf,fun s e=>by cases e⟩
        · refine .inr ⟨j,⟨hall j ?_,fun s e=>by rw [hg] at e;cases e⟩,hf⟩
          rw [hl,← hn]
          rcases Nat.lt_or_ge j R.D.length with h|h
          · exact h
          · unfold Rg.giv at hf
            rw [List.getD_eq_getElem?_getD,List.getElem?_eq_none (by omega)] at hf
            cases hf
    | succ fuel ih =>
      intro l a W hc hl hcl hS
      constructor
      · intro hr
        -- the least that is not listed is ready
        exfalso
        have hex:∃ i,i < l.size∧l.getD i false=false:=by
          rcases Classical.em (∃ i,i < l.size∧l.getD i false=false) with h|h
          · exact h
          · exfalso
            have hall:∀ i,i < l.size→l.getD i false=true:=fun i hi=>by
              cases e:l.getD i false with
              | true=>rfl
              | false=>exact absurd ⟨i,hi,e⟩ h
            have:cnt l=l.size:=by
              unfold cnt
              have:l.toList.countP _root_.id=l.toList.length:=List.countP_eq_length.2 (fun b hb=>by
                obtain ⟨i,hi,e⟩:=List.getElem_of_mem hb
                have:=hall i (by simpa using hi)
                simp [Array.getD_eq_getD_getElem?,show i < l.size by simpa using hi] at this
                simp at e
                rw [e] at this
                exact this)
              simpa using this
            omega
        obtain ⟨i0,hi0⟩:=hex
        have hleast:∃ i,(i < l.size∧l.getD i false=false)∧∀ j,j < i→¬ (j < l.size∧l.getD j false=false):=by
          have:∀ n,(∃ i,i≤n∧i < l.size∧l.getD i false=false)→∃ i,(i < l.size∧l.getD i false=false)∧∀ j,j < i→¬ (j < l.size∧l.getD j false=false):=by
            intro n
            induction n with
            | zero=>rintro ⟨i,h1,h2⟩;exact ⟨i,h2,fun j hj=>by omega⟩
            | succ n ihn =>
              rintro ⟨i,h1,h2⟩
              rcases Classical.em (∃ i,i≤n∧i < l.size∧l.getD i false=false) with h|h
              · exact ihn h
              · exact ⟨i,h2,fun j hj hjj=>h ⟨j,by omega,hjj⟩⟩
          exact this i0 ⟨i0,Nat.le_refl _,hi0⟩
        obtain ⟨i,⟨hi,hf⟩,hmin⟩:=hleast
        have hio:i < ops.size:=by rw [← hl];exact hi
        obtain ⟨o,ho⟩:∃ o,ops[i]?=some o:=⟨ops[i],by simp [hio]⟩
        have hmem:i∈Region.ready .any ops l:=by
          unfold Region.ready
          rw [List.mem_filter]
          refine ⟨by simpa using hio,?_⟩
          have h1:l.getD i true=false:=by simpa [Array.getD_eq_getD_getElem?,hi] using hf
          simp only [h1,ho,Option.map_some,Option.getD_some,Bool.not_false,Bool.true_and]
          rw [Array.all_eq_true']
          intro e he
          simp only [Bool.or_eq_true,Bool.not_eq_true']
          cases hb:Region.binds .any e with
          | false=>exact .inl rfl
          | true =>
            right
            have hj:e.on∈(edgesOf ops).getD i []:=(edges_mem ho).2 ⟨e,he,hb,rfl⟩
            rw [hD] at hj
            simp only [backward,List.all_eq_true,List.mem_range,decide_eq_true_eq] at hbk
            have hlt:=hbk i (by omega) _ hj
            cases hv:l.getD e.on false with
            | true=>rfl
            | false=>exact absurd ⟨by omega,hv⟩ (hmin _ hlt)
        rw [hr] at hmem
        cases hmem
      · intro i hi
        unfold Region.ready at hi
        rw [List.mem_filter] at hi
        obtain ⟨hi1,hi2⟩:=hi
        have hio:i < ops.size:=by simpa using hi1
        obtain ⟨o,ho⟩:∃ o,ops[i]?=some o:=⟨ops[i],by simp [hio]⟩
        simp only [ho,Option.map_some,Option.getD_some,Bool.and_eq_true,Bool.not_eq_true'] at hi2
        obtain ⟨hh,hdep⟩:=hi2
        have hil:i < l.size:=by omega
        have hhere:l.getD i false=false:=by simpa [Array.getD_eq_getD_getElem?,hil] using hh
        have hdeps:∀ j∈R.deps i,l.getD j false=true:=fun j hj=>by
          have hj':j∈(edgesOf ops).getD i []:=by rw [hD];exact hj
          obtain ⟨e,he,hb,rfl⟩:=(edges_mem ho).1 hj'
          rw [Array.all_eq_true'] at hdep
          have:=hdep e he
          simpa [hb] using this
        have hrdy:R.Rdy l i:=⟨hhere,hdeps,hcl,by omega,by omega⟩
        have hstep:=hs.at_ i o (by simpa using ho) l a W (by simpa using hrdy) hS
        simp only [Nat.zero_add] at hstep
        have hnext:∀ a' W',St w0 ok0 N (R.Av (l.setIfInBounds i true)) a' W'→wpAny P .any ops Q fuel (l.setIfInBounds i true) a' W':=fun a' W' hS'=>by
          refine ih _ a' W' (by rw [cnt_set hil hhere];omega) (by simpa using hl) (fun s hs' j hj=>?_) hS'
          rw [getD_set hil] at hs' ⊢
          split
          · rfl
          · split at hs'
            · rename_i e;subst e;exact hdeps j hj
            · exact hcl s hs' j hj
        unfold wpOp
        rw [ho]
        simp only
        split
        · rename_i hw
          rw [if_pos hw] at hstep
          exact .inl (Oper.wp_mono hnext hstep)
        · rename_i hw
          rw [if_neg (by simpa using hw)] at hstep
          exact hnext _ _ hstep
  refine key ops.size _ a _ ?_ (by simp) (fun s hs'=>?_) ((hst.mono fun f hf=>?_).drew)
  · simp [cnt,Array.toList_replicate,List.countP_replicate]
  · rw [noneListed] at hs'
    cases hs'
  · rcases hf with ⟨k,hk',_⟩|⟨j,⟨hj,_⟩,_⟩
    · exact ⟨k,hk'⟩
    · rw [noneListed] at hj
      cases hj
end
def FnC (P:Program) (f:FuncId) (ps:List SP) (q:SP):Prop :=
  ∀ (ok:Nat→Prop) (vs:List Value) (W:World),Args ok W ps vs→(∀ k,W.heap.size≤k→ok k) →
    Calls P f vs.toArray W fun e W'=>∃ r,e = .returned r∧q.H ok r W'∧Below W.heap.size W W'
section
variable {P:Program} {w0:World} {ok0:Nat→Prop} {N:Nat} {R:Rg} {ops:Array Oper} {Q:Exit→Act→World→Prop}
inductive Vl (R:Rg) (i:Nat):Operand→SP→Prop
  | g {t:Tmp} {p:SP} (j:Nat) (h:R.lookG i j=some (.s t p)):Vl R i (.tmp t) p
  | b {t:Tmp} {p:SP} (k:Nat) (h:R.lookB i k=some (.s t p)):Vl R i (.tmp t) p
  | c {v:Value}:Vl R i (.const v) (.is v)
  | fn {f:FuncId}:Vl R i (.func f) (.is (.func (.func f) #[] #[]))
inductive Vls (R:Rg) (i:Nat):List Operand→List SP→Prop
  | n:Vls R i [] []
  | k {x:Operand} {p:SP} {xs:List Operand} {ps:List SP} (h:Vl R i x p) (t:Vls R i xs ps):Vls R i (x :: xs) (p :: ps)
inductive Vis (R:Rg) (i:Nat):List Operand→List Value→Prop
  | n:Vis R i [] []
  | k {x:Operand} {v:Value} {xs:List Operand} {vs:List Value} (h:Vl R i x (.is v)) (t:Vis R i xs vs):Vis R i (x :: xs) (v :: vs)
theorem Vl.H {B:Nat} {i:Nat} {x:Operand} {p:SP} {ok:Nat→Prop} {a:Act} {W:World} (h:Vl R i x p) (hf:∀ f,R.Nd i f→f.holds B ok a W):p.H ok (a.eval x) W:=by
  cases h with
  | g j h=>exact hf _ (.g j h)
  | b k h=>exact hf _ (.b k h)
  | c=>rfl
  | fn=>rfl
theorem Vls.H {B:Nat} {i:Nat} {xs:List Operand} {ps:List SP} {ok:Nat→Prop} {a:Act} {W:World} (h:Vls R i xs ps) (hf:∀ f,R.Nd i f→f.holds B ok a W):Args ok W ps (xs.map a.eval):=by
  induction h with
  | n=>trivial
  | k h t ih=>exact ⟨h.H hf,ih⟩
theorem Vis.H {B:Nat} {i:Nat} {xs:List Operand} {vs:List Value} {ok:Nat→Prop} {a:Act} {W:World} (h:Vis R i xs vs) (hf:∀ f,R.Nd i f→f.holds B ok a W):xs.map a.eval=vs:=by
  induction h with
  | n=>rfl
  | k h t ih=>rw [List.map_cons,ih,show a.eval _=_ from h.H hf]
inductive Pl (R:Rg) (ops:Array Oper) (i:Nat):Oper→Option Tmp→Op→Bool→Prop
  | k {d:Option Tmp} {op:Op} {ty:TypeId} {ps:String} {af:Array Edge}:Pl R ops i ⟨d,op,ty,ps,af,none⟩ d op true
  | on {d:Option Tmp} {op:Op} {ty:TypeId} {ps:String} {af:Array Edge} {j:Nat} {want:Bool} {t:Tmp} {b:Bool} {y:Bool} (hn:R.Nd i (.s t (.is (.bool b)))) (ht:(ops[j]?).bind (·.dst)=some t) (hy:(b==want)=y) :
    Pl R ops i ⟨d,op,ty,ps,af,some (j,want)⟩ d op y
theorem Pl.o {i:Nat} {d:Option Tmp} {op:Op} {ty:TypeId} {ps:String} {af:Array Edge} {j:Nat} {want:Bool} {t:Tmp} {b:Bool} {y:Bool} (m:Nat) (h:R.lookG i m=some (.s t (.is (.bool b)))) (ht:(ops[j]?).bind (·.dst)=some t) (hy:(b==want)=y):Pl R ops i ⟨d,op,ty,ps,af,some (j,want)⟩ d op y := .on (.g m h) ht hy
theorem Pl.op {i:Nat} {o:Oper} {d:Option Tmp} {op:Op} {y:Bool} (h:Pl R ops i o d op y):o.op=op:=by cases h<;>rfl
theorem Pl.dst {i:Nat} {o:Oper} {d:Option Tmp} {op:Op} {y:Bool} (h:Pl R ops i o d op y):o.dst=d:=by cases h<;>rfl
theorem Pl.wanted {B:Nat} {i:Nat} {o:Oper} {d:Option Tmp} {op:Op} {y:Bool} {ok:Nat→Prop} {a:Act} {W:World} (h:Pl R ops i o d op y) (hf:∀ f,R.Nd i f→f.holds B ok a W):Region.wanted o (yielded ops a.tmps)=y:=by
  cases h with
  | k=>simp [Region.wanted]
  | @on _ _ _ _ _ j want t b _ hn ht hy =>
    have:a.tmps.getD t undef = .bool b:=hf _ hn
    have e:a.tmps[t]?=some (.bool b):=by
      rw [Array.getD_eq_getD_getElem?] at this
      cases h:a.tmps[t]? with
      | none=>rw [h] at this;simp [undef] at this
      | some v=>rw [h] at this;simp at this;rw [this]
    unfold Region.wanted
    simp only [yielded,ht,Option.bind_some,e]
    rw [← hy]
    rfl
def taken (u:Tmp):Operand→Bool
  | .tmp t=>t==u
  | _=>false
def takes (u:Tmp):Op→Bool
  | .move x=>taken u x
  | .assign x=>taken u x
  | .call c=>c.args.toList.any (taken u)
  | _=>false
def isAl:Option Fact→Bool
  | some (.al _ _)=>true
  | some (.v _ _)=>true
  | _=>false
def undoes (g:Option Fact) (o:Oper) (f:Fact):Bool :=
  (match g.bind Fact.lab,f.lab with|some a,some b=>a.1==b.1|_,_=>false) || ((match f.own with|some u=>takes u o.op && !isAl g|none=>false) ||
  match o.dst with
  | some d=>f.on d
  | none=>match o.op with
    | .store _ (.tmp t) _=>f.boxed==some t
    | .mapUpdate _ _ _ _=>false
    | _=>true)
theorem undoes_on {g:Option Fact} {o:Oper} {f:Fact} {d:Tmp} (hd:o.dst=some d) (h:undoes g o f=false):f.on d=false:=by
  unfold undoes at h
  rw [Bool.or_eq_false_iff,Bool.or_eq_false_iff,hd] at h
  exact h.2.2
theorem undoes_own {g:Option Fact} {o:Oper} {f:Fact} {u:Tmp} (hg:isAl g=false) (hu:f.own=some u) (h:undoes g o f=false):takes u o.op=false:=by
  unfold undoes at h
  rw [Bool.or_eq_false_iff,Bool.or_eq_false_iff,hu] at h
  have:=h.2.1
  rw [hg] at this
  simpa using this
theorem undoes_lab {g f:Fact} {o:Oper} {l l' b b':Nat} (hg:g.lab=some (l,b)) (hf:f.lab=some (l',b')) (h:undoes (some g) o f=false):l'≠l:=by
  unfold undoes at h
  rw [Bool.or_eq_false_iff] at h
  have h1:=h.1
  rw [show (some g).bind Fact.lab=g.lab from rfl,hg,hf] at h1
  intro e
  subst e
  simp at h1
def Does (P:Program) (w0:World) (ok0:Nat→Prop) (N:Nat) (R:Rg) (ops:Array Oper) (Q:Exit→Act→World→Prop) (i:Nat) (o:Oper) (g:Option Fact):Prop :=
  ∀ (l:Array Bool) (Φ:Fact→Prop) (a:Act) (W:World),(∀ d,o.dst=some d→d < N)→(∀ f,R.Nd i f→R.Av l f)→St w0 ok0 N (R.Av l) a W→(∀ f,Φ f→g=some f∨(R.Av l f∧undoes g o f=false)) →
    if Region.wanted o (yielded ops a.tmps)=true then o.wp P a W (fun a' W'=>St w0 ok0 N Φ a' W') Q else St w0 ok0 N Φ (a.put o.dst undef) W
inductive Run (P:Program) (w0:World) (ok0:Nat→Prop) (N:Nat) (R:Rg) (ops:Array Oper) (Q:Exit→Act→World→Prop):Nat→List Oper→List (Option Fact)→Prop
  | n {i:Nat}:Run P w0 ok0 N R ops Q i [] []
  | k {i:Nat} {o:Oper} {r:List Oper} {g:Option Fact} {G:List (Option Fact)} (h:Does P w0 ok0 N R ops Q i o g) (t:Run P w0 ok0 N R ops Q (i+1) r G):Run P w0 ok0 N R ops Q i (o :: r) (g :: G)
def clean (N:Nat) (R:Rg):Nat→List Oper→Bool
  | _,[]=>true
  | i,o :: r=>(match o.dst with|some d=>Nat.blt d N|none=>true) && R.sv i (undoes (R.giv i) o) && clean N R (i+1) r
theorem Run.len {i:Nat} {r:List Oper} {G:List (Option Fact)} (h:Run P w0 ok0 N R ops Q i r G):G.length=r.length:=by
  induction h with
  | n=>rfl
  | k h t ih=>simp [ih]
theorem Run.steps {i:Nat} {r:List Oper} {G:List (Option Fact)} (h:Run P w0 ok0 N R ops Q i r G) (hG:∀ j,G.getD j none=R.giv (i+j)) (hc:clean N R i r=true):Steps P w0 ok0 N R ops Q i r:=by
  induction h with
  | n=>exact .nil
  | @k i o r g G h t ih =>
    simp only [clean,Bool.and_eq_true] at hc
    refine .cons (fun l a W hr hS=>h l _ a W (fun d hd=>?_) (fun f hf=>hf.av hr) hS (fun f hf=>?_)) (ih (fun j=>?_) hc.2)
    · have:=hc.1.1;rw [hd] at this;exact Nat.blt_eq ▸ this
    · have:=hG 0
      simp only [List.getD_cons_zero,Nat.add_zero] at this
      rw [this]
      exact R.sv_spec hc.1.2 hr hf
    · have:=hG (j+1)
      simp only [List.getD_cons_succ] at this
      rw [this]
      congr 1;omega
section
variable {i:Nat} {o:Oper}
theorem does_s {d:Tmp} {op:Op} {p:SP} (hh:Pl R ops i o (some d) op true)
    (h:∀ (ok:Nat→Prop) (a:Act) (W:World),(∀ f,R.Nd i f→f.holds w0.heap.size ok a W)→(∀ k,W.heap.size≤k→ok k)→∀ K:Act→World→Prop,
      (∀ v W',Below W.heap.size W W'→p.H ok v W'→K (a.put o.dst v) W')→o.wp P a W K Q):Does P w0 ok0 N R ops Q i o (some (.s d p)):=by
  intro l Φ a W hdN hnd hS hΦ
  obtain ⟨ok,h1,h2,h3⟩:=hS.ex
  have hf:∀ f,R.Nd i f→f.holds w0.heap.size ok a W:=fun f hf=>h3 f (hnd f hf)
  rw [if_pos (hh.wanted hf)]
  refine h ok a W hf h2 _ (fun v W' hb hp=>?_)
  rw [hh.dst]
  refine hS.put_s (hdN d hh.dst) hb h1 h2 h3 hp (fun f hΦf=>?_)
  rcases hΦ f hΦf with h|⟨h,hu⟩
  · cases h;exact .inl rfl
  · exact .inr ⟨h,undoes_on hh.dst hu⟩
theorem skp {d:Tmp} {op:Op} (hh:Pl R ops i o (some d) op false):Does P w0 ok0 N R ops Q i o none:=by
  intro l Φ a W hdN hnd hS hΦ
  obtain ⟨ok,h1,h2,h3⟩:=hS.ex
  have hf:∀ f,R.Nd i f→f.holds w0.heap.size ok a W:=fun f hf=>h3 f (hnd f hf)
  rw [if_neg (by rw [hh.wanted hf];simp),hh.dst]
  refine hS.put_s (hdN d hh.dst) (Below.refl _ _) h1 h2 h3 (p := .is undef) rfl (fun f hΦf=>?_)
  rcases hΦ f hΦf with h|⟨h,hu⟩
  · cases h
  · exact .inr ⟨h,undoes_on hh.dst hu⟩
theorem pure_ {d:Tmp} {op:Op} {v:Value} (hh:Pl R ops i o (some d) op true)
    (h:∀ (ok:Nat→Prop) (a:Act) (W:World),(∀ f,R.Nd i f→f.holds w0.heap.size ok a W)→(execOp a.eval o).run P W = .ok (.value v) W):Does P w0 ok0 N R ops Q i o (some (.s d (.is v))) :=
  does_s hh fun ok a W hf hk K hK=>by
    unfold Oper.wp
    rw [h ok a W hf]
    exact hK v W (Below.refl _ _) rfl
theorem mov {d:Tmp} {op:Op} {p:SP} {x:Operand} (hh:Pl R ops i o (some d) op true) (ho:op = .move x∨op = .assign x) (hx:Vl R i x p):Does P w0 ok0 N R ops Q i o (some (.s d p)) :=
  does_s hh fun ok a W hf hk K hK=>by
    unfold Oper.wp execOp
    rw [hh.op]
    rcases ho with ho|ho<;>rw [ho]<;>exact hK _ W (Below.refl _ _) (hx.H hf)
theorem cal {d:Tmp} {f:FuncId} {fn:Func} {xs:List Operand} {ts:Array TypeId} {ps:List SP} {q:SP} (hh:Pl R ops i o (some d) (.call { callee := .value (.func f),args:=xs.toArray,argTypes:=ts }) true) (hfn:P.funcs[f]?=some fn) (hbody:(fn.name == "runtime.NumGoroutine" || fn.body.isNone)=false)
    (hc:FnC P f ps q) (hx:Vls R i xs ps):Does P w0 ok0 N R ops Q i o (some (.s d q)) :=
  does_s hh fun ok a W hf hk K hK=>by
    have e:(execOp a.eval o).run P W = .ok (.enter f (xs.map a.eval).toArray) W:=by
      have e1:execOp a.eval o=callFunc f (xs.map a.eval).toArray:=by
        unfold execOp
        simp only [hh.op]
        show callFunc f (#[]++xs.toArray.map a.eval++#[])=_
        simp
      rw [e1]
      unfold callFunc
      have hp:program.run P W = .ok P W:=rfl
      rw [Sem.run_bind,hp,Result.andThen_ok,hfn]
      have hb1:(fn.name == "runtime.NumGoroutine")=false:=by revert hbody;cases (fn.name == "runtime.NumGoroutine")<;>simp
      have hb2:fn.body.isNone=false:=by revert hbody;cases fn.body.isNone<;>simp
      simp only [hb1,hb2,Bool.false_eq_true,if_false]
      rfl
    unfold Oper.wp
    rw [e,Oper.upon_enter]
    refine (hc ok _ W (hx.H hf) hk).mono ?_
    rintro e W' ⟨r,rfl,hr,hb⟩
    exact hK r W' hb hr
structure AggTy (P:Program) (T:TypeId) (n:Nat):Prop where
  u:∃ d,P.underlying T=some d∧(match d with | .struct _ | .array _ _=>true|_=>false)=true
  i:(P.info? T).map (·.size)=some n
structure ScalTy (P:Program) (T:TypeId):Prop where
  u:∃ d,P.underlying T=some d∧(match d with | .struct _ | .array _ _=>true|_=>false)=false
class AggSP (q:SP) (n:outParam Nat):Prop where
  out:∀ {ok:Nat→Prop} {v:Value} {W:World},q.H ok v W→∃ cs:Array Value,v = .agg cs∧cs.size=n∧cs.all (·.oneCell')=true
class CellOf (q:SP) (off:Nat) (p:outParam SP):Prop where
  out:∀ {ok:Nat→Prop} {cs:Array Value} {W:World},q.H ok (.agg cs) W→∃ v,cs[off]?=some v∧p.H ok v W
theorem ld {d t:Tmp} {q:SP} {T:TypeId} {n:Nat} (hh:Pl R ops i o (some d) (.load T (.tmp t)) true) (hb:R.Nd i (.b t q T n)) (hT:AggTy P T n):Does P w0 ok0 N R ops Q i o (some (.s d q)) :=
  does_s hh fun ok a W hf hk K hK=>by
    obtain ⟨g,cs,h1,_,_,h4,h5,h6⟩:=hf _ hb
    obtain ⟨dd,hu,hdd⟩:=hT.u
    exact wp_load_row T (.tmp t) hh.op g h1 T cs (0,0) dd h4 hu (by cases dd<;>first|exact hdd|cases hdd) (by rw [hT.i,h5]) (hK _ W (Below.refl _ _) h6)
theorem ldc {d t u:Tmp} {off:Nat} {q p:SP} {T T':TypeId} {n:Nat} (hh:Pl R ops i o (some d) (.load T (.tmp t)) true) (hfa:R.Nd i (.f t u off)) (hb:R.Nd i (.b u q T' n))
    (hT:ScalTy P T) [hc:CellOf q off p]:Does P w0 ok0 N R ops Q i o (some (.s d p)) :=
  does_s hh fun ok a W hf hk K hK=>by
    obtain ⟨g,cs,h1,_,_,h4,h5,h6⟩:=hf _ hb
    obtain ⟨g',h1',h2'⟩:=hf _ hfa
    obtain ⟨dd,hu,hdd⟩:=hT.u
    rw [h1] at h1'
    simp only [blk,ptr,Option.some.injEq] at h1'
    subst h1'
    obtain ⟨v,hv,hp⟩:=hc.out h6
    have hagg:(isAgg T).run P W = .ok false W:=by
      unfold isAgg
      rw [Sem.run_bind,run_underlying hu W]
      cases dd<;>simp_all
    have hcell:W.cell? ⟨g,off,none⟩=some v:=by rw [cell_of_row W g off cs T' (0,0) h4];exact hv
    have e:(execOp a.eval o).run P W = .ok (.value v) W:=by
      unfold execOp
      have hev:a.eval (.tmp t)=ptr g off:=h2'
      simp only [hh.op,hev,Instr.loadAt,Instr.sureAddr,Sem.run_bind,Sem.run_pure,Result.andThen_ok,loadVar,hagg,Bool.false_eq_true,if_false,run_load,hcell]
    unfold Oper.wp
    rw [e]
    exact hK v W (Below.refl _ _) hp
structure FieldTy (P:Program) (T:TypeId) (k off:Nat):Prop where
  out:∃ fs fl,P.underlying T=some (.struct fs)∧fs[k]?=some fl∧∀ g W,(fieldPlace ⟨g,0,none⟩ fl).run P W = .ok ⟨g,off,none⟩ W
theorem faddr {d u:Tmp} {q:SP} {T:TypeId} {n k off:Nat} (hh:Pl R ops i o (some d) (.fieldAddr T (.tmp u) k) true) (hb:R.Nd i (.b u q T n)) (hne:(u==d)=false)
    (hF:FieldTy P T k off):Does P w0 ok0 N R ops Q i o (some (.f d u off)):=by
  obtain ⟨fs,fl,hT,hk,hp⟩:=hF.out
  intro l Φ a W hdN hnd hS hΦ
  obtain ⟨ok,h1,h2,h3⟩:=hS.ex
  have hf:∀ f,R.Nd i f→f.holds w0.heap.size ok a W:=fun f hf=>h3 f (hnd f hf)
  rw [if_pos (hh.wanted hf)]
  obtain ⟨g,cs,e1,_,_,e4,_,_⟩:=hf _ hb
  have e:(execOp a.eval o).run P W = .ok (.value (ptr g off)) W:=by
    unfold execOp
    have hev:a.eval (.tmp u)=ptr g 0:=e1
    simp only [hh.op,hev,Instr.fieldAt,Sem.run_bind,run_underlying hT W,Result.andThen_ok,hk,Instr.sureAddr,Sem.run_pure,hp g W]
  unfold Oper.wp
  rw [e]
  show St w0 ok0 N Φ (a.put o.dst (ptr g off)) W
  rw [hh.dst]
  have hne':u≠d:=by simpa using hne
  have keep:∀ f:Fact,f.on d=false→∀ t,f.on t=true→(a.put (some d) (ptr g off)).tmps.getD t undef=a.tmps.getD t undef:=fun f hd' t ht=>getD_put (fun e=>by subst e;rw [ht] at hd';cases hd')
  have old:∀ f,Φ f→f = .f d u off∨(R.Av l f∧f.on d=false):=fun f hf=>by
    rcases hΦ f hf with h|⟨h,hu⟩
    · cases h;exact .inl rfl
    · exact .inr ⟨h,undoes_on hh.dst hu⟩
  refine ⟨hS.hb,hS.h0,by rw [defers_put];exact hS.hd,by rw [size_put];exact hS.hn,⟨ok,h1,h2,fun f hΦf=>?_⟩,fun f f' t t' hΦf hΦf' ee ee' ne=>?_,fun f f' l g t hΦf hΦf' ee ee'=>?_,fun f f' l g l' g' hΦf hΦf' ee ee' ne=>?_⟩
  · rcases old f hΦf with rfl|⟨hA,hd'⟩
    · exact ⟨g,by rw [getD_put hne',e1];rfl,getD_put_self (by rw [hS.hn];exact hdN d hh.dst)⟩
    · exact (h3 f hA).later (Below.refl _ _) (fun k hk _=>hk) (fun k hk _=>hk) (keep f hd')
  · rcases old f hΦf with rfl|⟨hA,hd1⟩
    · cases ee
    rcases old f' hΦf' with rfl|⟨hA',hd2⟩
    · cases ee'
    rw [keep f hd1 t (box_on ee),keep f' hd2 t' (box_on ee')]
    exact hS.far f f' t t' hA hA' ee ee' ne
  · rcases old f hΦf with rfl|⟨hA,hd1⟩
    · cases ee
    rcases old f' hΦf' with rfl|⟨hA',hd2⟩
    · cases ee'
    rw [keep f' hd2 t (box_on ee')]
    exact hS.farh f f' l g t hA hA' ee ee'
  · rcases old f hΦf with rfl|⟨hA,hd1⟩
    · cases ee
    rcases old f' hΦf' with rfl|⟨hA',hd2⟩
    · cases ee'
    exact hS.farl f f' l g l' g' hA hA' ee ee' ne
theorem does_b {d:Tmp} {op:Op} {q:SP} {T:TypeId} {n:Nat} {g:Fact} (hh:Pl R ops i o (some d) op true) (hg:g = .b d q T n∨g = .a d T n)
    (h:∀ (ok:Nat→Prop) (a:Act) (W:World),(∀ f,R.Nd i f→f.holds w0.heap.size ok a W)→∃ cs:Array Value,(execOp a.eval o).run P W = .ok (.value (ptr W.heap.size 0)) (W.alloc (.cells cs T))∧cs.size=n∧q.H ok (.agg cs) W) :
    Does P w0 ok0 N R ops Q i o (some g):=by
  intro l Φ a W hdN hnd hS hΦ
  obtain ⟨ok,h1,h2,h3⟩:=hS.ex
  have hf:∀ f,R.Nd i f→f.holds w0.heap.size ok a W:=fun f hf=>h3 f (hnd f hf)
  rw [if_pos (hh.wanted hf)]
  obtain ⟨cs,hrun,hn,hq⟩:=h ok a W hf
  unfold Oper.wp
  rw [hrun]
  show St w0 ok0 N Φ (a.put o.dst _) _
  rw [hh.dst]
  refine hS.put_b (hdN d hh.dst) h1 h2 h3 hq hn (fun f hΦf=>?_)
  rcases hΦ f hΦf with h|⟨h,hu⟩
  · cases h
    rcases hg with hg|hg
    · exact .inl hg
    · exact .inr (.inl hg)
  · exact .inr (.inr ⟨h,undoes_on hh.dst hu⟩)
theorem bxx {d:Tmp} {x:Operand} {q:SP} {T:TypeId} {n:Nat} (hh:Pl R ops i o (some d) (.box T x) true) (hx:Vl R i x q) [ha:AggSP q n]:Does P w0 ok0 N R ops Q i o (some (.b d q T n)) :=
  does_b hh (.inl rfl) fun ok a W hf=>by
    have hq:=hx.H hf
    obtain ⟨cs,e,hn,_⟩:=ha.out hq
    rw [e] at hq
    refine ⟨cs,?_,hn,hq⟩
    unfold execOp
    simp only [hh.op,e]
    rfl
theorem alc_run {d:Tmp} {T:TypeId} {n:Nat} {z:Value} {g:Fact} (hh:Pl R ops i o (some d) (.alloc T) true) (hz:∀ W,(zeroValue T).run P W = .ok z W) [ha:AggSP (.is z) n] (hg:g = .b d (.is z) T n∨g = .a d T n):Does P w0 ok0 N R ops Q i o (some g) :=
  does_b (q := .is z) hh hg fun ok a W hf=>by
    obtain ⟨cs,e,hn,_⟩:=ha.out (ok:=ok) (v:=z) (W:=W) rfl
    refine ⟨cs,?_,hn,e.symm⟩
    unfold execOp
    simp only [hh.op,Instr.alloc,Sem.run_bind,hz W,Result.andThen_ok]
    rw [e]
    rfl
theorem alc {d:Tmp} {T:TypeId} {n:Nat} {z:Value} (hh:Pl R ops i o (some d) (.alloc T) true) (hz:∀ W,(zeroValue T).run P W = .ok z W) [ha:AggSP (.is z) n]:Does P w0 ok0 N R ops Q i o (some (.b d (.is z) T n)):=alc_run hh hz (.inl rfl)
theorem ala {d:Tmp} {T:TypeId} {n:Nat} {z:Value} (hh:Pl R ops i o (some d) (.alloc T) true) (hz:∀ W,(zeroValue T).run P W = .ok z W) [ha:AggSP (.is z) n]:Does P w0 ok0 N R ops Q i o (some (.a d T n)):=alc_run hh hz (.inr rfl)
theorem sto_run {t:Tmp} {y:Operand} {q:SP} {T:TypeId} {n:Nat} (hh:Pl R ops i o none (.store T (.tmp t) y) true) (hb:R.Nd i (.a t T n)∨∃ q',R.Nd i (.b t q' T n)) (hy:Vl R i y q) (ha:AggSP q n) (hT:AggTy P T n) :
    Does P w0 ok0 N R ops Q i o (some (.b t q T n)):=by
  intro l Φ a W hdN hnd hS hΦ
  obtain ⟨ok,h1,h2,h3⟩:=hS.ex
  have hf:∀ f,R.Nd i f→f.holds w0.heap.size ok a W:=fun f hf=>h3 f (hnd f hf)
  rw [if_pos (hh.wanted hf)]
  have hq:=hy.H hf
  obtain ⟨cs,e,hn,h1c⟩:=ha.out hq
  rw [e] at hq
  have hbox:∃ g old,a.tmps.getD t undef=ptr g 0∧¬ ok g∧w0.heap.size≤g∧W.heap[g]?=some (.cells old T (0,0))∧old.size=n∧∃ f,R.Av l f∧f.box=some t:=by
    rcases hb with hb|⟨q',hb⟩
    · obtain ⟨g,old,e1,e2,e3,e4,e5⟩:=hf _ hb;exact ⟨g,old,e1,e2,e3,e4,e5,_,hnd _ hb,rfl⟩
    · obtain ⟨g,old,e1,e2,e3,e4,e5,_⟩:=hf _ hb;exact ⟨g,old,e1,e2,e3,e4,e5,_,hnd _ hb,rfl⟩
  obtain ⟨g,old,e1,e2,e3,e4,e5,hin⟩:=hbox
  refine wp_store_row T (.tmp t) y hh.op g cs e1 e T old e4 (by rw [hT.i,hn]) (by omega) h1c ?_
  rw [hh.dst]
  refine hS.store h1 h2 h3 e1 e2 e3 e4 e5 hn hin hq (fun f hΦf=>?_)
  rcases hΦ f hΦf with h|⟨h,hu⟩
  · cases h;exact .inl rfl
  · exact .inr ⟨h,by have:=hu;unfold undoes at this;rw [Bool.or_eq_false_iff,Bool.or_eq_false_iff,hh.dst,hh.op] at this;simpa using this.2.2⟩
theorem sto {t:Tmp} {y:Operand} {q q':SP} {T:TypeId} {n:Nat} (hh:Pl R ops i o none (.store T (.tmp t) y) true) (hb:R.Nd i (.b t q' T n)) (hy:Vl R i y q) (hT:AggTy P T n) [ha:AggSP q n]:Does P w0 ok0 N R ops Q i o (some (.b t q T n)):=sto_run hh (.inr ⟨_,hb⟩) hy ha hT
theorem sta {t:Tmp} {y:Operand} {q:SP} {T:TypeId} {n:Nat} (hh:Pl R ops i o none (.store T (.tmp t) y) true) (hb:R.Nd i (.a t T n)) (hy:Vl R i y q) (hT:AggTy P T n) [ha:AggSP q n]:Does P w0 ok0 N R ops Q i o (some (.b t q T n)):=sto_run hh (.inl hb) hy ha hT
structure RowTy (P:Program) (T E:TypeId) (sz:Nat):Prop where
  u:P.underlying T=some (.slice E)
  i:(P.info? E).map (·.size)=some sz
def SP.vec (sz:Nat) (xs:List (List Value)):SP :=
  ⟨fun ok v W=>∃ A c,v = .slice A xs.length c∧xs.length≤c∧Foot (fun W=>0 < xs.length→∃ ad,A=some ad∧∀ (j:Nat) (c:List Value),xs[j]?=some c→c.length=sz∧∀ (i:Nat) (u:Value),c[i]?=some u→W.cell? (ad.add (j * sz+i))=some u) W ok,
   fun hk ⟨A,c,e,h,f⟩=>⟨A,c,e,h,f.mono hk⟩,fun ⟨A,c,e,h,f⟩=>⟨A,c,e,h,f.bound⟩,fun ⟨A,c,e,h,f⟩ hm=>⟨A,c,e,h,f.step hm⟩⟩
theorem flat_get {sz:Nat}:∀ (xs:List (List Value)) (hs:∀ c∈xs,c.length=sz) (j:Nat) (c:List Value),xs[j]?=some c→∀ (i:Nat) (u:Value),c[i]?=some u→xs.flatten[j * sz+i]?=some u
  | [],_,j,c,h=>by simp at h
  | x :: xs,hs,0,c,h=>fun i u hu=>by
    simp at h;subst h
    have hlt:i < x.length:=(List.getElem?_eq_some_iff.1 hu).1
    simp only [Nat.zero_mul,Nat.zero_add,List.flatten_cons]
    rw [List.getElem?_append_left hlt];exact hu
  | x :: xs,hs,j+1,c,h=>fun i u hu=>by
    have hx:=hs x List.mem_cons_self
    have:=flat_get xs (fun c hc=>hs c (List.mem_cons_of_mem _ hc)) j c (by simpa using h) i u hu
    simp only [List.flatten_cons]
    rw [List.getElem?_append_right (by rw [hx,Nat.add_mul];omega),hx,show (j+1) * sz+i - sz=j * sz+i by rw [Nat.add_mul];omega]
    exact this
def filled (P:Program) (E:TypeId) (len:Nat) (vs:List Value):Option (Array Value) :=
  match P.info? E with
  | some i=>match i.zero with
    | some z=>if len * i.size > 2 ^ 24∨len * i.size=0 then none else Instr.fill (fun k=>some (k * i.size,i.size)) ((Array.range (len * i.size)).map (z.cells[· % z.cells.size]!)) ((List.range vs.length).zip vs)
    | none=>none
  | none=>none
theorem args_is {ok:Nat→Prop} {W:World}:∀ {vs ws:List Value},Args ok W (vs.map SP.is) ws→ws=vs
  | [],[],_=>rfl
  | [],_ :: _,h=>h.elim
  | _ :: _,[],h=>h.elim
  | v :: vs,w :: ws,h=>by rw [show w=v from h.1,args_is h.2]
theorem parts_any (f:Operand→Value) (parts:List (Nat × Operand)) {vs:List Value} (h2:(parts.map (·.2)).map f=vs) :
    (parts.toArray.map (fun p:Nat × Operand=>(p.1,f p.2))).toList=(parts.map (·.1)).zip vs:=by
  have e:∀ ps:List (Nat × Operand),ps.map (fun p=>(p.1,f p.2))=(ps.map (·.1)).zip ((ps.map (·.2)).map f):=fun ps=>by
    induction ps with
    | nil=>rfl
    | cons p ps ih=>simp [ih]
  rw [List.map_toArray,e,h2]
theorem parts_eval (f:Operand→Value) (parts:List (Nat × Operand)) {vs:List Value} (h1:parts.map (·.1)=List.range vs.length) (h2:(parts.map (·.2)).map f=vs) :
    (parts.toArray.map (fun p:Nat × Operand=>(p.1,f p.2))).toList=(List.range vs.length).zip vs:=by
  have e:∀ ps:List (Nat × Operand),ps.map (fun p=>(p.1,f p.2))=(ps.map (·.1)).zip ((ps.map (·.2)).map f):=fun ps=>by
    induction ps with
    | nil=>rfl
    | cons p ps ih=>simp [ih]
  rw [List.map_toArray,e,h1,h2]
theorem mkrow {d:Tmp} {T E:TypeId} {len sz:Nat} {parts:List (Nat × Operand)} {vs:List Value} (hh:Pl R ops i o (some d) (.buildSlice T len parts.toArray) true)
    (hR:RowTy P T E sz) (hx:Vis R i (parts.map (·.2)) vs) (hl:(len==vs.length && parts.map (·.1)==List.range vs.length)=true) (hs:(vs.all fun v=>v.cells.toList.length==sz)=true)
    (hfill:filled P E len vs=some (vs.map (fun v=>v.cells.toList)).flatten.toArray):Does P w0 ok0 N R ops Q i o (some (.s d (.vec sz (vs.map (fun v=>v.cells.toList))))) :=
  does_s hh fun ok a W hf hk K hK=>by
    have hT:=hR.u
    have hz:=hR.i
    have hv:=hx.H hf
    simp only [Bool.and_eq_true,beq_iff_eq] at hl
    obtain ⟨hl,hidx⟩:=hl
    have hs:∀ c∈vs.map (fun v=>v.cells.toList),c.length=sz:=by
      intro c hc
      obtain ⟨v,hv',rfl⟩:=List.mem_map.1 hc
      simpa using List.all_eq_true.1 hs v hv'
    obtain ⟨ii,hi,his⟩:∃ ii,P.info? E=some ii∧ii.size=sz:=by
      cases h:P.info? E with
      | none=>rw [h] at hz;cases hz
      | some ii=>rw [h] at hz;exact ⟨ii,rfl,by simpa using hz⟩
    unfold filled at hfill
    rw [hi] at hfill
    simp only at hfill
    cases hzz:ii.zero with
    | none=>rw [hzz] at hfill;cases hfill
    | some z =>
      rw [hzz] at hfill
      simp only at hfill
      split at hfill
      · cases hfill
      rename_i hsmall
      have hs1:¬ len * ii.size > 2 ^ 24:=fun h=>hsmall (.inl h)
      have hs2:¬ len * ii.size=0:=fun h=>hsmall (.inr h)
      have e:(execOp a.eval o).run P W = .ok (.value (.slice (some ⟨W.heap.size,0,none⟩) len len)) (W.alloc (.cells (vs.map (fun v=>v.cells.toList)).flatten.toArray E)):=by
        have hpar:=parts_eval a.eval parts hidx hv
        unfold execOp
        simp only [hh.op]
        show ((Instr.buildSlice T len (parts.toArray.map (fun p:Nat × Operand=>(p.1,a.eval p.2)))) >>= fun v=>pure (Next.value v)).run P W=_
        unfold Instr.buildSlice
        rw [hpar]
        simp only [Sem.run_bind,run_underlying hT W,Result.andThen_ok,sizeOf,typeInfo,hi,Sem.run_pure,if_neg hs1,if_neg hs2,zeroValue,hzz,hfill,newRow,run_newObj_alloc,program,Sem.run]
      unfold Oper.wp
      rw [e]
      refine hK _ _ ((Below.refl _ _).alloc (Nat.le_refl _) _) ⟨some ⟨W.heap.size,0,none⟩,len,by simp [hl],by simp [hl],?_⟩
      intro W' hW' hn
      have hnew:=heap_alloc_new W (.cells (vs.map (fun v=>v.cells.toList)).flatten.toArray E)
      have h':=(hW' W.heap.size (hk _ (Nat.le_refl _)) (by simp)).trans hnew
      refine ⟨_,rfl,fun j c hj=>⟨hs c (List.mem_of_getElem? hj),fun k u hu=>?_⟩⟩
      rw [add_plain,cell_of_row W' W.heap.size _ _ E (0,0) h']
      simpa using flat_get _ hs j c hj k u hu
theorem Args.nth {ok:Nat→Prop} {W:World}:∀ {ps:List SP} {vs:List Value},Args ok W ps vs→∀ {k:Nat} {p:SP},ps[k]?=some p→∃ v,vs[k]?=some v∧p.H ok v W
  | [],[],_,k,p,h=>by simp at h
  | p' :: ps,v :: vs,hA,0,p,h=>by simp at h;subst h;exact ⟨v,by simp,hA.1⟩
  | p' :: ps,v :: vs,hA,k+1,p,h=>by
    obtain ⟨u,hu,hp⟩:=Args.nth hA.2 (k:=k) (by simpa using h)
    exact ⟨u,by simpa using hu,hp⟩
  | [],_ :: _,h,_,_,_=>h.elim
  | _ :: _,[],h,_,_,_=>h.elim
theorem exx {d t k:Tmp} {ps:List SP} {p:SP} (hh:Pl R ops i o (some d) (.extract (.tmp t) k) true) (ht:R.Nd i (.s t (.tup ps))) (hp:ps[k]?=some p):Does P w0 ok0 N R ops Q i o (some (.s d p)) :=
  does_s hh fun ok a W hf hk K hK=>by
    obtain ⟨vs,e,hA⟩:=hf _ ht
    obtain ⟨v,hv,hpv⟩:=hA.nth hp
    have hev:a.eval (.tmp t) = .tuple vs.toArray:=e
    have er:(execOp a.eval o).run P W = .ok (.value v) W:=by
      unfold execOp
      simp only [hh.op,hev,Instr.extract,List.getElem?_toArray,hv]
      rfl
    unfold Oper.wp
    rw [er]
    exact hK v W (Below.refl _ _) hpv
theorem bin {d:Tmp} {x y:Operand} {u v r:Value} {b:BinOp} {T T':TypeId} (hh:Pl R ops i o (some d) (.binOp b T x y T') true) (hx:Vl R i x (.is u)) (hy:Vl R i y (.is v))
    (hr:∀ W,(do eqGuard b T x y u v;binOp b T u v).run P W = .ok r W):Does P w0 ok0 N R ops Q i o (some (.s d (.is r))) :=
  pure_ hh fun ok a W hf=>by
    have e1:a.eval x=u:=hx.H hf
    have e2:a.eval y=v:=hy.H hf
    unfold execOp
    simp only [hh.op,e1,e2]
    have:=hr W
    rw [Sem.run_bind,this]
    rfl
theorem not_ {d:Tmp} {x:Operand} {b:Bool} {T:TypeId} (hh:Pl R ops i o (some d) (.unOp .not T x) true) (hx:Vl R i x (.is (.bool b))):Does P w0 ok0 N R ops Q i o (some (.s d (.is (.bool !b)))) :=
  pure_ hh fun ok a W hf=>by
    have e1:a.eval x = .bool b:=hx.H hf
    unfold execOp
    simp only [hh.op,e1]
    rfl
theorem neg_ {d:Tmp} {x:Operand} {k:IntKind} {n:Int} {T:TypeId} (hh:Pl R ops i o (some d) (.unOp .neg T x) true) (hx:Vl R i x (.is (.int k n))):Does P w0 ok0 N R ops Q i o (some (.s d (.is (.int k (k.wrap (0 - n)))))) :=
  pure_ hh fun ok a W hf=>by
    have e1:a.eval x = .int k n:=hx.H hf
    unfold execOp
    simp only [hh.op,e1]
    rfl
theorem pickT {d:Tmp} {c x y:Operand} {p:SP} (hh:Pl R ops i o (some d) (.pick c x y) true) (hc:Vl R i c (.is (.bool true))) (hx:Vl R i x p):Does P w0 ok0 N R ops Q i o (some (.s d p)) :=
  does_s hh fun ok a W hf hk K hK=>by
    have e1:a.eval c = .bool true:=hc.H hf
    unfold Oper.wp execOp
    simp only [hh.op,e1]
    exact hK _ W (Below.refl _ _) (hx.H hf)
theorem pickF {d:Tmp} {c x y:Operand} {p:SP} (hh:Pl R ops i o (some d) (.pick c x y) true) (hc:Vl R i c (.is (.bool false))) (hy:Vl R i y p):Does P w0 ok0 N R ops Q i o (some (.s d p)) :=
  does_s hh fun ok a W hf hk K hK=>by
    have e1:a.eval c = .bool false:=hc.H hf
    unfold Oper.wp execOp
    simp only [hh.op,e1]
    exact hK _ W (Below.refl _ _) (hy.H hf)
theorem bld {d:Tmp} {T:TypeId} {parts:List (Nat × Operand)} {vs:List Value} {cs:Array Value} (hh:Pl R ops i o (some d) (.build T parts.toArray) true)
    (hx:Vis R i (parts.map (·.2)) vs) (hb:P.built T ((parts.map (·.1)).zip vs)=some cs) {v:Value} (hv:Value.agg cs=v):Does P w0 ok0 N R ops Q i o (some (.s d (.is v))) :=
  pure_ hh fun ok a W hf=>by
    subst hv
    have hpar:=parts_any a.eval parts (hx.H hf)
    unfold execOp
    simp only [hh.op]
    show ((Instr.build T (parts.toArray.map (fun p:Nat × Operand=>(p.1,a.eval p.2)))) >>= fun v=>pure (Next.value v)).run P W=_
    rw [Sem.run_bind,run_build W T _ cs (by rw [hpar];exact hb)]
    rfl
end
/-! ### Texts -/
def Nx (w0:World) (ok0:Nat→Prop) (N:Nat) (F:List Fact) (K:Act→World→Prop):Prop:=∀ a W,St w0 ok0 N (·∈F) a W→K a W
def Tr (P:Program) (w0:World) (ok0:Nat→Prop) (N:Nat) (F:List Fact) (c:Code) (Q:Exit→Act→World→Prop):Prop:=∀ a W,St w0 ok0 N (·∈F) a W→c.wp P Q a W
def pickG (R:Rg):List Nat→Option (List Fact)
  | []=>some []
  | j :: gs=>match R.gk j,R.giv j with
    | none,some f=>match pickG R gs with
      | some F=>some (f :: F)
      | none=>none
    | _,_=>none
def picks (R:Rg):List Nat→List Nat→Option (List Fact)
  | [],gs=>pickG R gs
  | k :: bs,gs=>match R.base[k]? with
    | some (f,none)=>match picks R bs gs with
      | some F=>some (f :: F)
      | none=>none
    | _=>none
theorem pickG_all {R:Rg}:∀ {gs:List Nat} {F:List Fact},pickG R gs=some F→∀ f∈F,AllAv R f
  | [],F,h=>by unfold pickG at h;cases h;intro f hf;cases hf
  | j :: gs,F,h=>by
    unfold pickG at h
    split at h
    · rename_i f0 hg hk
      split at h
      · rename_i F' hF
        cases h
        intro f hf
        rcases List.mem_cons.1 hf with rfl|hf
        · exact .inr ⟨j,hg,hk⟩
        · exact pickG_all hF f hf
      · cases h
    · cases h
theorem picks_all {R:Rg}:∀ {bs gs:List Nat} {F:List Fact},picks R bs gs=some F→∀ f∈F,AllAv R f
  | [],gs,F,h=>pickG_all h
  | k :: bs,gs,F,h=>by
    unfold picks at h
    split at h
    · rename_i f0 hk
      split at h
      · rename_i F' hF
        cases h
        intro f hf
        rcases List.mem_cons.1 hf with rfl|hf
        · exact .inl (List.mem_of_getElem? hk)
        · exact picks_all hF f hf
      · cases h
    · cases h
def bases (ks:List (Nat × Nat)):Nat→List Fact→List (Fact × Option Nat)
  | _,[]=>[]
  | n,f :: F=>(f,kill n ks) :: bases ks (n+1) F
theorem bases_mem {ks:List (Nat × Nat)}:∀ {F:List Fact} {n:Nat} {f:Fact} {k:Option Nat},(f,k)∈bases ks n F→f∈F∧∀ s,k=some s→∃ p∈ks,p.2=s
  | [],n,f,k,h=>by cases h
  | g :: F,n,f,k,h=>by
    rcases List.mem_cons.1 h with h|h
    · cases h
      refine ⟨List.mem_cons_self,fun s hs=>?_⟩
      have:∀ ks:List (Nat × Nat),kill n ks=some s→∃ p∈ks,p.2=s:=fun ks=>by
        induction ks with
        | nil=>intro h;cases h
        | cons p ks ih =>
          intro h
          unfold kill at h
          split at h
          · cases h;exact ⟨p,List.mem_cons_self,rfl⟩
          · obtain ⟨q,hq,e⟩:=ih h;exact ⟨q,List.mem_cons_of_mem _ hq,e⟩
      exact this ks hs
    · have:=bases_mem h
      exact ⟨List.mem_cons_of_mem _ this.1,this.2⟩
variable {F:List Fact}
def killsOk (n:Nat) (ks:List (Nat × Nat)):Bool:=ks.all fun p=>Nat.blt p.2 n
def chkD (N:Nat) (ops:Array Oper) (R:Rg) (ks:List (Nat × Nat)):Bool:=backward R.D && killsOk ops.size ks && clean N R 0 ops.toList
def chkS (N:Nat) (ops:Array Oper) (R:Rg) (ks:List (Nat × Nat)):Bool:=killsOk ops.size ks && clean N R 0 ops.toList
theorem killsOk_lt {n:Nat} {ks:List (Nat × Nat)} (h:killsOk n ks=true) {F:List Fact} {s:Nat} {f:Fact} (hf:(f,some s)∈bases ks 0 F):s < n:=by
  obtain ⟨p,hp,e⟩:=(bases_mem hf).2 s rfl
  have:=List.all_eq_true.1 h p hp
  rw [← e];exact Nat.blt_eq ▸ this
theorem Tr.draw {id:Nat} {G:List (Option Fact)} {F':List Fact} (hm:P.follows .mixedOrders=true) (ks:List (Nat × Nat))
    (hs:Run P w0 ok0 N ⟨edgesOf ops,bases ks 0 F,G,ks⟩ ops Q 0 ops.toList G) (bs gs:List Nat) (hp:picks ⟨edgesOf ops,bases ks 0 F,G,ks⟩ bs gs=some F') (hc:chkD N ops ⟨edgesOf ops,bases ks 0 F,G,ks⟩ ks=true) (hend:Nx w0 ok0 N F' (Q .normal)):Tr P w0 ok0 N F (.region id ops true) Q:=by
  intro a W hS
  simp only [chkD,Bool.and_eq_true] at hc
  have hsz:(edgesOf ops).length=ops.size:=by simp [edgesOf]
  have hlen:=hs.len
  refine region_draw (R:=⟨edgesOf ops,bases ks 0 F,G,ks⟩) hm rfl hc.1.1 (by simp [hsz,hlen]) (hS.mono ?_) (hs.steps (fun j=>by rw [Nat.zero_add];rfl) hc.2) ?_ (fun a W hS'=>hend a W (hS'.mono (picks_all hp)))
  · rintro f ⟨k,hk⟩;exact (bases_mem hk).1
  · intro s f hk
    show s < (edgesOf ops).length
    rw [hsz];exact killsOk_lt hc.1.2 hk
theorem Tr.reg {id:Nat} {G:List (Option Fact)} {F':List Fact} (ks:List (Nat × Nat))
    (hs:Run P w0 ok0 N ⟨(List.range ops.size).map List.range,bases ks 0 F,G,ks⟩ ops Q 0 ops.toList G) (bs gs:List Nat) (hp:picks ⟨(List.range ops.size).map List.range,bases ks 0 F,G,ks⟩ bs gs=some F')
    (hc:chkS N ops ⟨(List.range ops.size).map List.range,bases ks 0 F,G,ks⟩ ks=true) (hend:Nx w0 ok0 N F' (Q .normal)):Tr P w0 ok0 N F (.region id ops false) Q:=by
  intro a W hS
  simp only [chkS,Bool.and_eq_true] at hc
  have hglen:=hs.len
  simp only [Array.length_toList] at hglen
  refine wp_region ?_
  have hst:=hs.steps (fun j=>by rw [Nat.zero_add];rfl) hc.2
  have key:∀ (m i:Nat) (a:Act) (W:World),i+m=ops.size→St w0 ok0 N (Rg.Av ⟨(List.range ops.size).map List.range,bases ks 0 F,G,ks⟩ ((Array.range ops.size).map fun j=>decide (j < i))) a W →
      wpOps P ops Q ((List.range' i m)) a W:=by
    intro m
    induction m with
    | zero =>
      intro i a W hi hS'
      simp only [List.range'_zero,wpOps]
      refine hend a W (hS'.mono fun f hf=>?_)
      rcases picks_all hp f hf with h|⟨j,hg,h⟩
      · exact .inl ⟨none,h,fun s e=>by cases e⟩
      · refine .inr ⟨j,⟨?_,fun s e=>by rw [hg] at e;cases e⟩,h⟩
        have hj:j < ops.size:=by
          rcases Nat.lt_or_ge j ops.size with hj|hj
          · exact hj
          · simp only [Rg.giv] at h
            rw [List.getD_eq_getElem?_getD,List.getElem?_eq_none (by omega)] at h
            cases h
        simp [Array.getD_eq_getD_getElem?,hj];omega
    | succ m ih =>
      intro i a W hi hS'
      have hio:i < ops.size:=by omega
      have ho:ops[i]?=some ops[i]:=by simp [hio]
      have hgd:∀ j,((Array.range ops.size).map fun j=>decide (j < i)).getD j false=(decide (j < ops.size) && decide (j < i)):=fun j=>by
        by_cases h:j < ops.size<;>simp [Array.getD_eq_getD_getElem?,h]
      have hdep:∀ s,Rg.deps ⟨(List.range ops.size).map List.range,bases ks 0 F,G,ks⟩ s=if s < ops.size then List.range s else []:=fun s=>by
        unfold Rg.deps
        by_cases h:s < ops.size<;>simp [List.getD_eq_getElem?_getD,h]
      have hrdy:Rg.Rdy ⟨(List.range ops.size).map List.range,bases ks 0 F,G,ks⟩ ((Array.range ops.size).map fun j=>decide (j < i)) i:=by
        refine ⟨by rw [hgd];simp,fun j hj=>?_,fun s hs' j hj=>?_,by simp,by simpa using hio⟩
        · rw [hdep,if_pos hio] at hj
          have:=List.mem_range.1 hj
          rw [hgd];simp;omega
        · rw [hgd] at hs' ⊢
          simp only [Bool.and_eq_true,decide_eq_true_eq] at hs' ⊢
          rw [hdep,if_pos hs'.1] at hj
          have:=List.mem_range.1 hj
          omega
      have hstep:=hst.at_ i ops[i] (by simp [hio]) _ a W (by simpa using hrdy) hS'
      rw [Nat.zero_add] at hstep
      have hset:((Array.range ops.size).map fun j=>decide (j < i)).setIfInBounds i true=(Array.range ops.size).map fun j=>decide (j < i+1):=by
        apply Array.ext_getElem?
        intro j
        rw [Array.getElem?_setIfInBounds]
        by_cases e:i=j
        · subst e;simp [hio]
        · rw [if_neg e]
          by_cases hj:j < ops.size
          · have:decide (j < i)=decide (j < i+1):=by by_cases h:j < i<;>simp [h]<;>omega
            simp [hj,this]
          · simp [hj]
      rw [hset] at hstep
      rw [List.range'_succ]
      simp only [wpOps,ho]
      by_cases hw:Region.wanted ops[i] (yielded ops a.tmps)=true
      · rw [if_pos hw] at hstep ⊢
        exact .inl (Oper.wp_mono (fun a' W' h=>ih (i+1) a' W' (by omega) h) hstep)
      · rw [if_neg hw] at hstep ⊢
        exact ih (i+1) _ W (by omega) hstep
  rw [List.range_eq_range']
  refine key ops.size 0 a W (by omega) (hS.mono fun f hf=>?_)
  rcases hf with ⟨k,hk,_⟩|⟨j,hj,_⟩
  · exact (bases_mem hk).1
  · by_cases h:j < ops.size<;>simp [Array.getD_eq_getD_getElem?,h] at hj
theorem Tr.rs {id:Nat} {y:Code} {G:List (Option Fact)} {F':List Fact} (ks:List (Nat × Nat))
    (hs:Run P w0 ok0 N ⟨(List.range ops.size).map List.range,bases ks 0 F,G,ks⟩ ops (Exit.then (y.wp P Q) Q) 0 ops.toList G) (bs gs:List Nat) (hp:picks ⟨(List.range ops.size).map List.range,bases ks 0 F,G,ks⟩ bs gs=some F')
    (hc:chkS N ops ⟨(List.range ops.size).map List.range,bases ks 0 F,G,ks⟩ ks=true) (h:Tr P w0 ok0 N F' y Q):Tr P w0 ok0 N F (.seq (.region id ops false) y) Q:=fun a W hS=>wp_seq (Tr.reg ks hs bs gs hp hc h a W hS)
theorem Tr.ds {id:Nat} {y:Code} {G:List (Option Fact)} {F':List Fact} (hm:P.follows .mixedOrders=true) (ks:List (Nat × Nat))
    (hs:Run P w0 ok0 N ⟨edgesOf ops,bases ks 0 F,G,ks⟩ ops (Exit.then (y.wp P Q) Q) 0 ops.toList G) (bs gs:List Nat) (hp:picks ⟨edgesOf ops,bases ks 0 F,G,ks⟩ bs gs=some F')
    (hc:chkD N ops ⟨edgesOf ops,bases ks 0 F,G,ks⟩ ks=true) (h:Tr P w0 ok0 N F' y Q):Tr P w0 ok0 N F (.seq (.region id ops true) y) Q:=fun a W hS=>wp_seq (Tr.draw hm ks hs bs gs hp hc h a W hS)
theorem Tr.seq {x y:Code} (h:Tr P w0 ok0 N F x (Exit.then (y.wp P Q) Q)):Tr P w0 ok0 N F (.seq x y) Q:=fun a W hS=>wp_seq (h a W hS)
theorem Nx.go {y:Code} (h:Tr P w0 ok0 N F y Q):Nx w0 ok0 N F (Exit.then (y.wp P Q) Q .normal):=h
theorem Tr.cut {x y:Code} (F':List Fact) (h:Tr P w0 ok0 N F x (Exit.then (fun a W=>St w0 ok0 N (·∈F') a W) Q)) (h':Tr P w0 ok0 N F' y Q):Tr P w0 ok0 N F (.seq x y) Q :=
  fun a W hS=>wp_seq (wp_mono (h a W hS) (fun e a W hq=>by
    cases e with
    | normal=>exact h' a W hq
    | exit _=>exact hq
    | goto _=>exact hq
    | ret=>exact hq
    | panic _=>exact hq
    | outgrown=>exact hq))
theorem Nx.met (F':List Fact) (hs:∀ f∈F',f∈F):Nx w0 ok0 N F (Exit.then (fun a W=>St w0 ok0 N (·∈F') a W) Q .normal):=fun a W hS=>hS.mono hs
theorem Tr.cond {c:Tmp} {x y:Code} {b:Bool} (k:Nat) (hc:F[k]?=some (.s c (.is (.bool b)))) (ht:b=true→Tr P w0 ok0 N F x Q) (hf:b=false→Tr P w0 ok0 N F y Q):Tr P w0 ok0 N F (.cond (.tmp c) x y) Q:=fun a W hS=>by
  obtain ⟨ok,h1,h2,h3⟩:=hS.ex
  have hv:a.eval (.tmp c) = .bool b:=h3 _ (List.mem_of_getElem? hc)
  exact wp_cond_split hv (fun e=>ht e a W hS) (fun e=>hf e a W hS)
theorem Tr.skip (h:Nx w0 ok0 N F (Q .normal)):Tr P w0 ok0 N F .skip Q:=fun a W hS=>wp_skip (h a W hS)
theorem Tr.ret (h:Nx w0 ok0 N F (Q .ret)):Tr P w0 ok0 N F .ret Q:=fun a W hS=>wp_ret (h a W hS)
theorem Tr.block {id:Nat} {c:Code} (h:Tr P w0 ok0 N F c (Exit.inBlock id Q)):Tr P w0 ok0 N F (.block id c) Q:=fun a W hS=>wp_block (h a W hS)
theorem Tr.exit {id:Nat} (h:Nx w0 ok0 N F (Q (.exit id))):Tr P w0 ok0 N F (.exit id) Q:=fun a W hS=>wp_exit (h a W hS)
/-! ### A function's ends -/
def Ret (w0:World) (ok0:Nat→Prop) (q:SP):Ending→World→Prop:=fun e W'=>∃ r,e = .returned r∧q.H ok0 r W'∧Below w0.heap.size w0 W'
theorem end_tmp {fn:Func} {t:Nat} {q:SP} (k:Nat) (hr:fn.results=#[.tmp t]) (hk:F[k]?=some (.s t q)):Nx w0 ok0 N F (fun a W=>bodyPost P fn (Ret w0 ok0 q) .ret a W):=fun a W hS=>by
  obtain ⟨ok,h1,h2,h3⟩:=hS.ex
  have hv:q.H ok (a.tmps.getD t undef) W:=h3 _ (List.mem_of_getElem? hk)
  refine ⟨hS.hd,a.tmps.getD t undef,?_,⟨_,rfl,q.mono h1 hv,hS.hb⟩⟩
  simp [results,hr]
theorem end_cell {fn:Func} {t n:Nat} {T:TypeId} {q:SP} (k:Nat) (hr:fn.results=#[.cell t T]) (hk:F[k]?=some (.b t q T n)) (hT:AggTy P T n):Nx w0 ok0 N F (fun a W=>bodyPost P fn (Ret w0 ok0 q) .ret a W):=fun a W hS=>by
  obtain ⟨ok,h1,h2,h3⟩:=hS.ex
  obtain ⟨g,cs,e1,_,_,e4,e5,e6⟩:=h3 _ (List.mem_of_getElem? hk)
  obtain ⟨dd,hu,hdd⟩:=hT.u
  exact ⟨hS.hd,.agg cs,results_cell_row hr a.tmps W g T cs (0,0) dd e1 e4 hu (by cases dd<;>first|exact hdd|cases hdd) (by rw [hT.i,e5]),⟨_,rfl,q.mono h1 e6,hS.hb⟩⟩
theorem end_tmp2 {fn:Func} {t t':Nat} {q q':SP} (k k':Nat) (hr:fn.results=#[.tmp t,.tmp t']) (hk:F[k]?=some (.s t q)) (hk':F[k']?=some (.s t' q')):Nx w0 ok0 N F (fun a W=>bodyPost P fn (Ret w0 ok0 (.tup [q,q'])) .ret a W):=fun a W hS=>by
  obtain ⟨ok,h1,h2,h3⟩:=hS.ex
  have hv:q.H ok (a.tmps.getD t undef) W:=h3 _ (List.mem_of_getElem? hk)
  have hv':q'.H ok (a.tmps.getD t' undef) W:=h3 _ (List.mem_of_getElem? hk')
  refine ⟨hS.hd,.tuple #[a.tmps.getD t undef,a.tmps.getD t' undef],?_,⟨_,rfl,⟨[_,_],rfl,q.mono h1 hv,q'.mono h1 hv',trivial⟩,hS.hb⟩⟩
  simp [results,hr]
theorem end_cell_tmp {fn:Func} {t t' n:Nat} {T:TypeId} {q q':SP} (k k':Nat) (hr:fn.results=#[.cell t T,.tmp t']) (hk:F[k]?=some (.b t q T n)) (hk':F[k']?=some (.s t' q')) (hT:AggTy P T n) :
    Nx w0 ok0 N F (fun a W=>bodyPost P fn (Ret w0 ok0 (.tup [q,q'])) .ret a W):=fun a W hS=>by
  obtain ⟨ok,h1,h2,h3⟩:=hS.ex
  obtain ⟨g,cs,e1,_,_,e4,e5,e6⟩:=h3 _ (List.mem_of_getElem? hk)
  have hv':q'.H ok (a.tmps.getD t' undef) W:=h3 _ (List.mem_of_getElem? hk')
  obtain ⟨dd,hu,hdd⟩:=hT.u
  refine ⟨hS.hd,.tuple #[.agg cs,a.tmps.getD t' undef],?_,⟨_,rfl,⟨[_,_],rfl,q.mono h1 e6,q'.mono h1 hv',trivial⟩,hS.hb⟩⟩
  have hl:=run_loadVar_row (P:=P) W g T T cs (0,0) dd e4 hu (by cases dd<;>first|exact hdd|cases hdd) (by rw [hT.i,e5])
  have hp':a.tmps[t]?.getD undef = .pointer (some ⟨g,0,none⟩):=by simpa using e1
  simp [results,hr,hp',asAddr,hl]
def argF:Nat→List SP→List Fact
  | _,[]=>[]
  | i,p :: ps => .s i p :: argF (i+1) ps
theorem args_facts {B:Nat} {ok:Nat→Prop} {a:Act} {W:World}:∀ {ps:List SP} {vs:List Value} {i:Nat},Args ok W ps vs→(∀ j v,vs[j]?=some v→a.tmps.getD (i+j) undef=v)→∀ f∈argF i ps,f.holds B ok a W
  | [],[],i,_,_,f,hf=>by cases hf
  | p :: ps,v :: vs,i,h,hv,f,hf=>by
    rcases List.mem_cons.1 hf with rfl|hf
    · show p.H ok _ W
      rw [show i=i+0 from rfl,hv 0 v (by simp)]
      exact h.1
    · exact args_facts (i:=i+1) h.2 (fun j u hu=>by rw [show i+1+j=i+(j+1) by omega];exact hv (j+1) u (by simpa using hu)) f hf
  | [],_ :: _,_,h,_,_,_=>h.elim
  | _ :: _,[],_,h,_,_,_=>h.elim
theorem args_len {ok:Nat→Prop} {W:World}:∀ {ps:List SP} {vs:List Value},Args ok W ps vs→vs.length=ps.length
  | [],[],_=>rfl
  | _ :: _,_ :: _,h=>by simp [args_len h.2]
  | [],_ :: _,h=>h.elim
  | _ :: _,[],h=>h.elim
theorem argF_box:∀ {ps:List SP} {i:Nat} {f:Fact},f∈argF i ps→f.box=none
  | [],i,f,h=>by cases h
  | p :: ps,i,f,h=>by
    rcases List.mem_cons.1 h with rfl|h
    · rfl
    · exact argF_box h
theorem argF_lab:∀ {ps:List SP} {i:Nat} {f:Fact},f∈argF i ps→f.lab=none
  | [],i,f,h=>by cases h
  | p :: ps,i,f,h=>by
    rcases List.mem_cons.1 h with rfl|h
    · rfl
    · exact argF_lab h
theorem FnC.of {f:FuncId} {fn:Func} {c:Code} {ps:List SP} {q:SP} (hf:P.funcs[f]?=some fn) (hb:fn.body=some c) (hN:fn.ntmps=N) (hl:ps.length≤N)
    (h:∀ (w0:World) (ok0:Nat→Prop),Tr P w0 ok0 N (argF 0 ps) c (bodyPost P fn (Ret w0 ok0 q))):FnC P f ps q:=by
  intro ok vs W hA hk
  have hlen:=args_len hA
  refine calls_of_wp hf hb (h W ok _ W ⟨Below.refl _ _,hk,rfl,by simp [hlen];omega,⟨ok,fun _ h=>h,hk,args_facts hA (fun j v hv=>?_)⟩,fun f f' t t' hf' _ e=>?_,fun f f' l g t hf' _ e=>?_,fun f f' l g l' g' hf' _ e=>?_⟩)
  · have hj:=(List.getElem?_eq_some_iff.1 hv).1
    simp only [Nat.zero_add,Array.getD_eq_getD_getElem?]
    rw [Array.getElem?_append_left (by simpa using hj)]
    simp [hv]
  · rw [argF_box hf'] at e;cases e
  · rw [argF_lab hf'] at e;cases e
  · rw [argF_lab hf'] at e;cases e
end
/-! ### Rows of the call's own -/
section
variable {P:Program} {w0:World} {ok0:Nat→Prop} {N:Nat} {R:Rg} {ops:Array Oper} {Q:Exit→Act→World→Prop} {i:Nat} {o:Oper}
theorem oini {d:Tmp} {op:Op} {sz:Nat} {E:TypeId} (hh:Pl R ops i o (some d) op true) (ho:op = .assign (.const (.slice none 0 0))∨op = .move (.const (.slice none 0 0))):Does P w0 ok0 N R ops Q i o (some (.o d sz E [])):=by
  intro l Φ a W hdN hnd hS hΦ
  obtain ⟨ok,h1,h2,h3⟩:=hS.ex
  rw [if_pos (hh.wanted fun f hf=>h3 f (hnd f hf))]
  have hown:Owns w0.heap.size ok W sz E [] (.slice none 0 0):=⟨World.ownsRow_nil W _ E sz,fun g e=>(by cases e),fun r hr=>(by cases hr)⟩
  have key:St w0 ok0 N Φ (a.put (some d) (.slice none 0 0)) W :=
    hS.put_g (K:=fun f=>R.Av l f∧f.on d=false) (row:=none) (ok':=ok) (fn := .o d sz E []) (hdN d hh.dst) (World.grownBy.refl W none) h3 (fun k e=>by cases e) h1 h2 (fun k hk _=>⟨hk,by simp⟩)
      (fun f hf=>⟨hf.1,hf.2,fun t ht g hg=>⟨by simp,(box_lt ht (h3 f hf.1) g hg).2.2⟩⟩) (fun f l g hf e=>⟨by simp,(lab_lt e (h3 f hf.1)).2.2⟩)
      (by show Owns _ _ _ _ _ _ _;rw [getD_put_self (by rw [hS.hn];exact hdN d hh.dst)];exact hown)
      (fun t ht=>⟨by simpa [Fact.box] using ht.symm,fun f' t' _ _ g e=>(by cases e)⟩) rfl (.inr fun f l g _ _=>by simp [blk,Value.ownBlock])
      (fun f hf=>by
        rcases hΦ f hf with h|⟨h,hu⟩
        · cases h;exact .inl rfl
        · exact .inr ⟨h,undoes_on hh.dst hu⟩)
  unfold Oper.wp execOp
  rw [hh.op]
  rw [← hh.dst] at key
  rcases ho with ho|ho<;>rw [ho]<;>exact key
theorem omv {d t:Tmp} {op:Op} {sz:Nat} {E:TypeId} {rows:List (List Value)} (hh:Pl R ops i o (some d) op true) (ho:op = .assign (.tmp t)∨op = .move (.tmp t)) (hx:R.Nd i (.o t sz E rows)):Does P w0 ok0 N R ops Q i o (some (.o d sz E rows)):=by
  intro l Φ a W hdN hnd hS hΦ
  obtain ⟨ok,h1,h2,h3⟩:=hS.ex
  rw [if_pos (hh.wanted fun f hf=>h3 f (hnd f hf))]
  have hown:Owns w0.heap.size ok W sz E rows (a.tmps.getD t undef):=h3 _ (hnd _ hx)
  have htk:takes t o.op=true:=by rw [hh.op];rcases ho with ho|ho<;>rw [ho]<;>simp [takes,taken]
  have key:St w0 ok0 N Φ (a.put (some d) (a.tmps.getD t undef)) W :=
    hS.put_g (K:=fun f=>R.Av l f∧f.on d=false∧f.own≠some t) (row:=none) (ok':=ok) (fn := .o d sz E rows) (hdN d hh.dst) (World.grownBy.refl W none) h3 (fun k e=>by cases e) h1 h2 (fun k hk _=>⟨hk,by simp⟩)
      (fun f hf=>⟨hf.1,hf.2.1,fun t ht g hg=>⟨by simp,(box_lt ht (h3 f hf.1) g hg).2.2⟩⟩) (fun f l g hf e=>⟨by simp,(lab_lt e (h3 f hf.1)).2.2⟩)
      (by show Owns _ _ _ _ _ _ _;rw [getD_put_self (by rw [hS.hn];exact hdN d hh.dst)];exact hown)
      (fun t1 ht1=>⟨by simpa [Fact.box] using ht1.symm,fun f' t' hf' ht' g e=>hS.far _ f' t t' (hnd _ hx) hf'.1 rfl ht' (fun e1=>hf'.2.2 (box_own (e1 ▸ ht') (h3 f' hf'.1) hown)) g e⟩) rfl (.inr fun f l g hf e=>hS.farh f _ l g t hf.1 (hnd _ hx) e rfl)
      (fun f hf=>by
        rcases hΦ f hf with h|⟨h,hu⟩
        · cases h;exact .inl rfl
        · exact .inr ⟨h,undoes_on hh.dst hu,fun e=>by rw [undoes_own rfl e hu] at htk;cases htk⟩)
  unfold Oper.wp execOp
  rw [hh.op]
  rw [← hh.dst] at key
  rcases ho with ho|ho<;>rw [ho]<;>exact key
theorem frz {d t:Tmp} {op:Op} {sz:Nat} {E:TypeId} {rows:List (List Value)} (hh:Pl R ops i o (some d) op true) (ho:op = .assign (.tmp t)∨op = .move (.tmp t)) (hx:R.Nd i (.o t sz E rows)):Does P w0 ok0 N R ops Q i o (some (.s d (.vec sz rows))):=by
  intro l Φ a W hdN hnd hS hΦ
  obtain ⟨ok,h1,h2,h3⟩:=hS.ex
  rw [if_pos (hh.wanted fun f hf=>h3 f (hnd f hf))]
  have hown:Owns w0.heap.size ok W sz E rows (a.tmps.getD t undef):=h3 _ (hnd _ hx)
  have htk:takes t o.op=true:=by rw [hh.op];rcases ho with ho|ho<;>rw [ho]<;>simp [takes,taken]
  have hvec:(SP.vec sz rows).H (fun k=>ok k∨(a.tmps.getD t undef).ownBlock=some k) (a.tmps.getD t undef) W:=by
    rcases hown.row.2 with ⟨e,en⟩|⟨g,cap,cur,e,hg,hb,hc,hm,hcs,htk⟩
    · rw [e]
      obtain rfl:rows=[]:=List.eq_nil_of_length_eq_zero en
      exact ⟨none,0,rfl,Nat.le_refl _,fun W' _ h=>absurd h (Nat.lt_irrefl _)⟩
    · refine ⟨some ⟨g,0,none⟩,cap,e,hc,fun W' hW' h=>⟨⟨g,0,none⟩,rfl,fun j c hj=>⟨hown.sz c (List.mem_of_getElem? hj),fun k u hu=>?_⟩⟩⟩
      have hb':W'.heap[g]?=some (.cells cur E (0,0)):=(hW' g (.inr (by rw [e];rfl)) (Array.getElem?_eq_some_iff.1 hb).1).trans hb
      have hf:=flat_get rows hown.sz j c hj k u hu
      have hadd:(⟨g,0,none⟩:Addr).add (j * sz+k)=⟨g,j * sz+k,none⟩:=by unfold Addr.add;split<;>simp_all
      rw [hadd,cell_of_row W' g (j * sz+k) cur E (0,0) hb']
      rw [← htk,List.getElem?_take] at hf
      split at hf
      · simpa using hf
      · cases hf
  have key:St w0 ok0 N Φ (a.put (some d) (a.tmps.getD t undef)) W :=
    hS.put_g (K:=fun f=>R.Av l f∧f.on d=false∧f.own≠some t) (row:=none) (ok':=fun k=>ok k∨(a.tmps.getD t undef).ownBlock=some k) (fn := .s d (.vec sz rows)) (hdN d hh.dst) (World.grownBy.refl W none) h3 (fun k e=>by cases e)
      (fun k hk=>by
        rcases hk with hk|hk
        · exact h1 k hk
        · exact hS.h0 k (hown.row.lt k hk).1) (fun k hk => .inl (h2 k hk)) (fun k hk _=>⟨.inl hk,by simp⟩)
      (fun f hf=>⟨hf.1,hf.2.1,fun t' ht' g hg=>⟨by simp,fun hg'=>by
        rcases hg' with hg'|hg'
        · exact (box_lt ht' (h3 f hf.1) g hg).2.2 hg'
        · exact hS.far _ f t t' (hnd _ hx) hf.1 rfl ht' (fun e1=>hf.2.2 (box_own (e1 ▸ ht') (h3 f hf.1) hown)) g (hown.blk.trans hg') hg⟩⟩)
      (fun f l g hf e=>⟨by simp,fun hg'=>by
        rcases hg' with hg'|hg'
        · exact (lab_lt e (h3 f hf.1)).2.2 hg'
        · exact hS.farh f _ l g t hf.1 (hnd _ hx) e rfl (hown.blk.trans hg')⟩)
      (by show SP.H _ _ _ _;rw [getD_put_self (by rw [hS.hn];exact hdN d hh.dst)];exact hvec)
      (fun t1 ht1=>by simp [Fact.box] at ht1) rfl (.inl rfl)
      (fun f hf=>by
        rcases hΦ f hf with h|⟨h,hu⟩
        · cases h;exact .inl rfl
        · exact .inr ⟨h,undoes_on hh.dst hu,fun e=>by rw [undoes_own rfl e hu] at htk;cases htk⟩)
  unfold Oper.wp execOp
  rw [hh.op]
  rw [← hh.dst] at key
  rcases ho with ho|ho<;>rw [ho]<;>exact key
theorem owns_less {w:World} {b b':Nat} {e:TypeId} {size:Nat} {v:Value} {n:Nat} {xs:List Value} (h:w.ownsRow b e size v n xs) (hb:b'≤b):w.ownsRow b' e size v n xs:=by
  refine ⟨h.1,?_⟩
  rcases h.2 with h|⟨g,cap,cur,e1,e2,e3⟩
  · exact .inl h
  · exact .inr ⟨g,cap,cur,e1,Nat.le_trans hb e2,e3⟩
theorem grown_any {w w':World} {row:Option Nat} (h:w.grownBy w' none):w.grownBy w' row:=⟨h.os,h.tape,h.output,h.size,fun k hk _=>h.block k hk (by simp)⟩
theorem append_at (W:World) (base:Nat) (t ty e:TypeId) (ii:TypeInfo) (z:Value) (size bytes:Nat) (ht:P.underlying t=some (.slice e)) (hi:P.info? e=some ii) (hz:ii.zero=some z)
    (hsize:ii.size=size) (hby:ii.bytes=bytes) (hzs:z.cells.size=size) (hsz:0 < size) (v:Value) (n:Nat) (xs:List Value) (hown:W.ownsRow base e size v n xs)
    (a:Addr) (m c:Nat) (news:List Value) (hl:news.length=m * size) (hnews:∀ j u,news[j]?=some u→W.cell? (a.add j)=some u) (h1:∀ u∈news,u.oneCell'=true)
    (h63:n+m≤maxLen) (hbytes:(n+m) * bytes≤140737488355328) (hbase:base≤W.heap.size) :
    ∃ v' w',(Builtin.append_ #[t,t] ty #[v,.slice (some a) m c]).run P W = .ok v' w'∧w'.ownsRow base e size v' (n+m) (xs++news)∧W.grownBy w' v.ownBlock∧∀ g,v'.ownBlock=some g→v.ownBlock=some g∨W.heap.size≤g:=by
  rcases hown.2 with ⟨rfl,rfl⟩|⟨g,cap,cur,rfl,hbg,hg,hnc,hcm,hcs,htake⟩
  · have hx:xs=[]:=List.eq_nil_of_length_eq_zero (by simpa using hown.1)
    subst hx
    obtain ⟨v',w',hr,r1,r2,_⟩:=run_append_own (P:=P) W W.heap.size t ty e ii z size bytes ht hi hz hsize hby hzs hsz _ 0 [] (World.ownsRow_nil W _ e size) a m c news hl hnews h1 h63 hbytes (Nat.le_refl _)
    exact ⟨v',w',hr,owns_less r1 hbase,r2,fun g hg => .inr (r1.lt g hg).1⟩
  · by_cases hroom:n+m≤cap
    · subst hsize
      have hfit:n * ii.size+news.length≤cur.size:=by rw [hl,hcs,← Nat.add_mul];exact Nat.mul_le_mul_right _ hroom
      have hr:=run_append_room (P:=P) W t ty e ii ht hi g n cap cur hg a m c news hl hnews h1 hroom hfit
      have hlen:(xs++news).length=(n+m) * ii.size:=by rw [List.length_append,hown.1,hl,Nat.add_mul]
      refine ⟨_,_,hr,⟨hlen,.inr ⟨g,cap,_,rfl,hbg,setRow_heap W g cur _ e _ hg,hroom,hcm,?_,?_⟩⟩,⟨rfl,rfl,rfl,by simp,fun k _ hk=>setRow_other W g k _ (fun e=>hk (by simp [Value.ownBlock,e]))⟩,fun g' h => .inl h⟩
      · simp only [List.size_toArray,List.length_append,List.length_take,List.length_drop,Array.length_toList]
        omega
      · rw [htake,← hlen]
        exact List.take_left
    · obtain ⟨v',w',hr,r1,r2⟩:=run_append_arg_grows (P:=P) W t ty e ii z size bytes ht hi hz hsize hby hzs hsz ⟨g,0,none⟩ n cap xs hown.1 (hown.cells (g:=g) rfl) a m c news hl hnews (by omega) h63 hbytes
      exact ⟨v',w',hr,owns_less r1 hbase,grown_any r2,fun g' h => .inr (r1.lt g' h).1⟩
structure AppTy (P:Program) (S E:TypeId) (sz bytes:Nat):Prop where
  u:P.underlying S=some (.slice E)
  i:∃ ii z,P.info? E=some ii∧ii.zero=some z∧ii.size=sz∧ii.bytes=bytes∧z.cells.size=sz
  pos:0 < sz
theorem flat_len {sz:Nat}:∀ (rs:List (List Value)),(∀ r∈rs,r.length=sz)→rs.flatten.length=rs.length * sz
  | [],_=>by simp
  | r :: rs,h=>by
    rw [List.flatten_cons,List.length_append,flat_len rs (fun r hr=>h r (List.mem_cons_of_mem _ hr)),h r List.mem_cons_self,List.length_cons,Nat.add_mul]
    omega
theorem flat_at {sz:Nat} (hs:0 < sz):∀ (rs:List (List Value)),(∀ r∈rs,r.length=sz)→∀ (j:Nat) (u:Value),rs.flatten[j]?=some u→∃ r,rs[j / sz]?=some r∧r[j % sz]?=some u
  | [],_,j,u,h=>by simp at h
  | r :: rs,hr,j,u,h=>by
    have hl:=hr r List.mem_cons_self
    rw [List.flatten_cons] at h
    by_cases hj:j < sz
    · rw [List.getElem?_append_left (by omega)] at h
      rw [Nat.div_eq_of_lt hj,Nat.mod_eq_of_lt hj]
      exact ⟨r,rfl,h⟩
    · rw [List.getElem?_append_right (by omega),hl] at h
      obtain ⟨r',h1,h2⟩:=flat_at hs rs (fun r hr'=>hr r (List.mem_cons_of_mem _ hr')) (j - sz) u h
      rw [Nat.div_eq_sub_div hs (by omega),Nat.mod_eq_sub_mod (by omega)]
      exact ⟨r',h1,h2⟩
theorem oapp {d t:Tmp} {y:Operand} {S E:TypeId} {sz bytes:Nat} {rows rs:List (List Value)} (hh:Pl R ops i o (some d) (.call { callee := .builtin .append,args:=#[.tmp t,y],argTypes:=#[S,S] }) true) (hT:AppTy P S E sz bytes)
    (hx:R.Nd i (.o t sz E rows)) (hy:Vl R i y (.vec sz rs)) (h1c:(rs.all fun r=>r.length==sz && r.all (·.oneCell'))=true) (hne:0 < rs.length) (hml:rows.length+rs.length≤maxLen) (hby:(rows.length+rs.length) * bytes≤140737488355328) :
    Does P w0 ok0 N R ops Q i o (some (.o d sz E (rows++rs))):=by
  intro l Φ a W hdN hnd hS hΦ
  obtain ⟨ok,h1,h2,h3⟩:=hS.ex
  rw [if_pos (hh.wanted fun f hf=>h3 f (hnd f hf))]
  have hown:Owns w0.heap.size ok W sz E rows (a.tmps.getD t undef):=h3 _ (hnd _ hx)
  have htk:takes t o.op=true:=by rw [hh.op];simp [takes,taken]
  obtain ⟨ii,z,hi,hz,hsize,hbytes,hzs⟩:=hT.i
  obtain ⟨A,c,ey,hc,hfoot⟩:=hy.H (fun f hf=>h3 f (hnd f hf))
  obtain ⟨ad,rfl,hcells⟩:=hfoot W (fun _ _ _=>rfl) hne
  have hrs:∀ r∈rs,r.length=sz∧∀ u∈r,u.oneCell'=true:=fun r hr=>by
    have:=List.all_eq_true.1 h1c r hr
    rw [Bool.and_eq_true,beq_iff_eq,List.all_eq_true] at this
    exact this
  obtain ⟨v',w',hr,r1,r2,r3⟩:=append_at (P:=P) W w0.heap.size S o.type E ii z sz bytes hT.u hi hz hsize hbytes hzs hT.pos _ rows.length rows.flatten hown.row ad rs.length c rs.flatten (flat_len rs fun r hr=>(hrs r hr).1)
    (fun j u hj=>by
      obtain ⟨r,e1,e2⟩:=flat_at hT.pos rs (fun r hr=>(hrs r hr).1) j u hj
      have:=(hcells (j / sz) r e1).2 (j % sz) u e2
      rw [Nat.mul_comm,Nat.div_add_mod] at this
      exact this)
    (fun u hu=>by
      obtain ⟨r,hr,hu⟩:=List.mem_flatten.1 hu
      exact (hrs r hr).2 u hu) hml hby hS.hb.size
  have hlt:∀ g,v'.ownBlock=some g→g < w'.heap.size:=fun g hg=>(r1.lt g hg).2
  have hown':Owns w0.heap.size (fun k=>ok k∧v'.ownBlock≠some k) w' sz E (rows++rs) v':=⟨by rw [List.length_append,List.flatten_append];exact r1,fun g hg hk=>hk.2 hg,fun r hr=>by
    rcases List.mem_append.1 hr with h|h
    · exact hown.sz r h
    · exact (hrs r h).1⟩
  have key:St w0 ok0 N Φ (a.put (some d) v') w' :=
    hS.put_g (K:=fun f=>R.Av l f∧f.on d=false∧f.own≠some t) (row:=(a.tmps.getD t undef).ownBlock) (ok':=fun k=>ok k∧v'.ownBlock≠some k) (fn := .o d sz E (rows++rs)) (hdN d hh.dst) r2 h3 (fun k e=>(hown.row.lt k e).1)
      (fun k hk=>h1 k hk.1) (fun k hk=>⟨h2 k (Nat.le_trans r2.size hk),fun e=>by have:=hlt k e;omega⟩)
      (fun k hk hlt'=>⟨⟨hk,fun e=>by
        rcases r3 k e with e|e
        · exact hown.fr k e hk
        · omega⟩,fun e=>hown.fr k e.symm hk⟩)
      (fun f hf=>⟨hf.1,hf.2.1,fun t' ht' g hg=>⟨fun e=>hS.far _ f t t' (hnd _ hx) hf.1 rfl ht' (fun e1=>hf.2.2 (box_own (e1 ▸ ht') (h3 f hf.1) hown)) g (hown.blk.trans e.symm) hg,fun hk=>(box_lt ht' (h3 f hf.1) g hg).2.2 hk.1⟩⟩)
      (fun f l g hf e=>⟨fun e1=>hS.farh f _ l g t hf.1 (hnd _ hx) e rfl (hown.blk.trans e1.symm),fun hk=>(lab_lt e (h3 f hf.1)).2.2 hk.1⟩)
      (by show Owns _ _ _ _ _ _ _;rw [getD_put_self (by rw [hS.hn];exact hdN d hh.dst)];exact hown')
      (fun t1 ht1=>⟨by simpa [Fact.box] using ht1.symm,fun f' t' hf' ht' g e hg=>by
        rw [hown'.blk] at e
        rcases r3 g e with e|e
        · exact hS.far _ f' t t' (hnd _ hx) hf'.1 rfl ht' (fun e1=>hf'.2.2 (box_own (e1 ▸ ht') (h3 f' hf'.1) hown)) g (hown.blk.trans e) hg
        · have:=(box_lt ht' (h3 f' hf'.1) g hg).2.1;omega⟩) rfl
      (.inr fun f l g hf e hg=>by
        rw [hown'.blk] at hg
        rcases r3 g hg with e1|e1
        · exact hS.farh f _ l g t hf.1 (hnd _ hx) e rfl (hown.blk.trans e1)
        · have:=(lab_lt e (h3 f hf.1)).2.1;omega)
      (fun f hf=>by
        rcases hΦ f hf with h|⟨h,hu⟩
        · cases h;exact .inl rfl
        · exact .inr ⟨h,undoes_on hh.dst hu,fun e=>by rw [undoes_own rfl e hu] at htk;cases htk⟩)
  have ex:a.eval (.tmp t)=a.tmps.getD t undef:=rfl
  unfold Oper.wp execOp
  simp only [hh.op,resolve,invoke,builtin,Sem.run_bind,Sem.run_pure,Result.andThen_ok,List.map_toArray,List.map_cons,List.map_nil,ex,ey,hr]
  rw [← hh.dst] at key
  exact key
end
/-! ### A region in its text's order, operation by operation -/
section
variable {P:Program} {w0:World} {ok0:Nat→Prop} {N:Nat} {ops:Array Oper} {Q:Exit→Act→World→Prop} {F:List Fact}
def pickU (F:List Fact) (g:Option Fact) (o:Oper):List Nat→Option (List Fact)
  | []=>some []
  | k :: ks=>match F[k]? with
    | some f=>match undoes g o f with
      | true=>none
      | false=>match pickU F g o ks with
        | some r=>some (f :: r)
        | none=>none
    | none=>none
def nxt (F:List Fact) (o:Oper) (g:Option Fact) (ks:List Nat):Option (List Fact) :=
  match pickU F g o ks with
  | some r=>match g with
    | some f=>some (f :: r)
    | none=>some r
  | none=>none
theorem pickU_mem {F:List Fact} {g:Option Fact} {o:Oper}:∀ {ks:List Nat} {G:List Fact},pickU F g o ks=some G→∀ f∈G,f∈F∧undoes g o f=false
  | [],G,h=>by unfold pickU at h;cases h;intro f hf;cases hf
  | k :: ks,G,h=>by
    unfold pickU at h
    split at h
    · rename_i f0 hk
      split at h
      · cases h
      · rename_i hu
        split at h
        · rename_i r hr
          cases h
          intro f hf
          rcases List.mem_cons.1 hf with rfl|hf
          · exact ⟨List.mem_of_getElem? hk,hu⟩
          · exact pickU_mem hr f hf
        · cases h
    · cases h
theorem nxt_mem {F G:List Fact} {o:Oper} {g:Option Fact} {ks:List Nat} (h:nxt F o g ks=some G):∀ f∈G,g=some f∨(f∈F∧undoes g o f=false):=by
  unfold nxt at h
  split at h
  · rename_i r hr
    split at h
    · cases h
      intro f hf
      rcases List.mem_cons.1 hf with rfl|hf
      · exact .inl rfl
      · exact .inr (pickU_mem hr f hf)
    · cases h;intro f hf;exact .inr (pickU_mem hr f hf)
  · cases h
def dstOk (N:Nat) (o:Oper):Bool:=match o.dst with|some d=>Nat.blt d N|none=>true
abbrev Rg.of (F:List Fact):Rg:=⟨[],F.map fun f=>(f,none),[],[]⟩
theorem Rg.of_av {F:List Fact} {l:Array Bool} {f:Fact}:(Rg.of F).Av l f↔f∈F:=by
  constructor
  · rintro (⟨k,hk,_⟩|⟨j,_,hj⟩)
    · obtain ⟨f',hf',e⟩:=List.mem_map.1 hk;cases e;exact hf'
    · simp [Rg.giv] at hj
  · intro h
    exact .inl ⟨none,List.mem_map.2 ⟨f,h,rfl⟩,fun s e=>by cases e⟩
end
/-! ### Bounds -/
def Bd (k:Nat) (z:Int):Prop:=z.natAbs < 2 ^ k
instance (k:Nat) (z:Int):Decidable (Bd k z):=by unfold Bd;infer_instance
theorem Bd.mono {k l:Nat} {z:Int} (h:Bd k z) (hl:k≤l):Bd l z:=Nat.lt_of_lt_of_le h (Nat.pow_le_pow_right (by decide) hl)
theorem Bd.mul {k l:Nat} {a b:Int} (ha:Bd k a) (hb:Bd l b):Bd (k+l) (a * b):=by
  unfold Bd at *
  rw [Int.natAbs_mul,Nat.pow_add]
  exact Nat.mul_lt_mul'' ha hb
theorem Bd.add {k l:Nat} {a b:Int} (ha:Bd k a) (hb:Bd l b):Bd (max k l+1) (a+b):=by
  have h1:=ha.mono (Nat.le_max_left k l)
  have h2:=hb.mono (Nat.le_max_right k l)
  unfold Bd at *
  rw [Nat.pow_succ]
  omega
theorem Bd.neg {k:Nat} {a:Int} (ha:Bd k a):Bd k (-a):=by unfold Bd at *;rwa [Int.natAbs_neg]
theorem Bd.sub {k l:Nat} {a b:Int} (ha:Bd k a) (hb:Bd l b):Bd (max k l+1) (a - b):=by rw [Int.sub_eq_add_neg];exact ha.add hb.neg
theorem Bd.i64 {k:Nat} {a:Int} (ha:Bd k a) (hk:k≤63) : -9223372036854775808≤a∧a≤9223372036854775807:=by
  have:=ha.mono hk
  unfold Bd at this
  omega
theorem Bd.wrap {k:Nat} {a:Int} (ha:Bd k a) (hk:k≤63):IntKind.i64.wrap a=a:=by
  have:=ha.i64 hk
  exact IntWalk.i64_in _ this
theorem Bd.lt {k:Nat} {a:Int} (ha:Bd k a) (hk:k≤256):(a.natAbs:Int) < 115792089237316195423570985008687907853269984665640564039457584007913129639936:=by
  have:=ha.mono hk
  unfold Bd at this
  omega
section
variable {P:Program} {w0:World} {ok0:Nat→Prop} {N:Nat} {R:Rg} {ops:Array Oper} {Q:Exit→Act→World→Prop} {i:Nat} {o:Oper}
abbrev ii (n:Int):SP := .is (.int .i64 n)
abbrev bb (b:Bool):SP := .is (.bool b)
theorem add_ {d:Tmp} {x y:Operand} {a b r:Int} {T T':TypeId} (hh:Pl R ops i o (some d) (.binOp .add T x y T') true) (hx:Vl R i x (ii a)) (hy:Vl R i y (ii b)) (hr:IntKind.i64.wrap (a+b)=r):Does P w0 ok0 N R ops Q i o (some (.s d (ii r))):=bin hh hx hy (fun W=>by rw [← hr];rfl)
theorem sub_ {d:Tmp} {x y:Operand} {a b r:Int} {T T':TypeId} (hh:Pl R ops i o (some d) (.binOp .sub T x y T') true) (hx:Vl R i x (ii a)) (hy:Vl R i y (ii b)) (hr:IntKind.i64.wrap (a - b)=r):Does P w0 ok0 N R ops Q i o (some (.s d (ii r))):=bin hh hx hy (fun W=>by rw [← hr];rfl)
theorem mul_ {d:Tmp} {x y:Operand} {a b r:Int} {T T':TypeId} (hh:Pl R ops i o (some d) (.binOp .mul T x y T') true) (hx:Vl R i x (ii a)) (hy:Vl R i y (ii b)) (hr:IntKind.i64.wrap (a * b)=r):Does P w0 ok0 N R ops Q i o (some (.s d (ii r))):=bin hh hx hy (fun W=>by rw [← hr];rfl)
theorem min_ {d:Tmp} {x:Operand} {a r:Int} {T:TypeId} (hh:Pl R ops i o (some d) (.unOp .neg T x) true) (hx:Vl R i x (ii a)) (hr:IntKind.i64.wrap (0 - a)=r):Does P w0 ok0 N R ops Q i o (some (.s d (ii r))):=hr ▸ neg_ hh hx
theorem lt_ {d:Tmp} {x y:Operand} {k:IntKind} {a b:Int} {r:Bool} {T T':TypeId} (hh:Pl R ops i o (some d) (.binOp .lss T x y T') true) (hx:Vl R i x (.is (.int k a))) (hy:Vl R i y (.is (.int k b))) (hr:decide (a < b)=r):Does P w0 ok0 N R ops Q i o (some (.s d (bb r))):=bin hh hx hy (fun W=>by rw [← hr,Sem.run_bind,eqGuard_at_int,binOp_lss];rfl)
theorem le_ {d:Tmp} {x y:Operand} {k:IntKind} {a b:Int} {r:Bool} {T T':TypeId} (hh:Pl R ops i o (some d) (.binOp .leq T x y T') true) (hx:Vl R i x (.is (.int k a))) (hy:Vl R i y (.is (.int k b))) (hr:decide (a≤b)=r):Does P w0 ok0 N R ops Q i o (some (.s d (bb r))):=bin hh hx hy (fun W=>by rw [← hr,Sem.run_bind,eqGuard_at_int,binOp_leq];rfl)
theorem gt_ {d:Tmp} {x y:Operand} {k:IntKind} {a b:Int} {r:Bool} {T T':TypeId} (hh:Pl R ops i o (some d) (.binOp .gtr T x y T') true) (hx:Vl R i x (.is (.int k a))) (hy:Vl R i y (.is (.int k b))) (hr:decide (a > b)=r):Does P w0 ok0 N R ops Q i o (some (.s d (bb r))):=bin hh hx hy (fun W=>by rw [← hr,Sem.run_bind,eqGuard_at_int,binOp_gtr];rfl)
theorem ge_ {d:Tmp} {x y:Operand} {k:IntKind} {a b:Int} {r:Bool} {T T':TypeId} (hh:Pl R ops i o (some d) (.binOp .geq T x y T') true) (hx:Vl R i x (.is (.int k a))) (hy:Vl R i y (.is (.int k b))) (hr:decide (a ≥ b)=r):Does P w0 ok0 N R ops Q i o (some (.s d (bb r))):=bin hh hx hy (fun W=>by rw [← hr,Sem.run_bind,eqGuard_at_int,binOp_geq];rfl)
theorem eq_ {d:Tmp} {x y:Operand} {k:IntKind} {a b:Int} {r:Bool} {T T':TypeId} (hh:Pl R ops i o (some d) (.binOp .eql T x y T') true) (hx:Vl R i x (.is (.int k a))) (hy:Vl R i y (.is (.int k b))) (hr:(a==b)=r):Does P w0 ok0 N R ops Q i o (some (.s d (bb r))):=bin hh hx hy (fun W=>by rw [← hr,Sem.run_bind,eqGuard_at_int,binOp_eql];rfl)
theorem ne_ {d:Tmp} {x y:Operand} {k:IntKind} {a b:Int} {r:Bool} {T T':TypeId} (hh:Pl R ops i o (some d) (.binOp .neq T x y T') true) (hx:Vl R i x (.is (.int k a))) (hy:Vl R i y (.is (.int k b))) (hr:(a != b)=r):Does P w0 ok0 N R ops Q i o (some (.s d (bb r))):=bin hh hx hy (fun W=>by rw [← hr,Sem.run_bind,eqGuard_at_int,binOp_neq];rfl)
theorem mv {d:Tmp} {p:SP} {x:Operand} (hh:Pl R ops i o (some d) (.move x) true) (hx:Vl R i x p):Does P w0 ok0 N R ops Q i o (some (.s d p)):=mov hh (.inl rfl) hx
theorem asg {d:Tmp} {p:SP} {x:Operand} (hh:Pl R ops i o (some d) (.assign x) true) (hx:Vl R i x p):Does P w0 ok0 N R ops Q i o (some (.s d p)):=mov hh (.inr rfl) hx
/-! ### Rows -/
theorem SP.vec_val {sz:Nat} {xs:List (List Value)} {ok:Nat→Prop} {v:Value} {W:World} (h:(SP.vec sz xs).H ok v W):∃ A c,v = .slice A xs.length c:=let ⟨A,c,e,_⟩:=h;⟨A,c,e⟩
theorem len_ {d:Tmp} {x:Operand} {sz:Nat} {xs:List (List Value)} {n:Int} {T E:TypeId} (hh:Pl R ops i o (some d) (.call { callee := .builtin .len,args:=#[x],argTypes:=#[T] }) true)
    (hR:RowTy P T E sz) (hx:Vl R i x (.vec sz xs)) (hn:(xs.length:Int)=n):Does P w0 ok0 N R ops Q i o (some (.s d (ii n))) :=
  pure_ hh fun ok a W hf=>by
    have hT:=hR.u
    obtain ⟨A,c,e⟩:=SP.vec_val (hx.H hf)
    unfold execOp
    simp only [hh.op,resolve,Sem.run_bind,Sem.run_pure,Result.andThen_ok,invoke,List.map_toArray,List.map_cons,List.map_nil,e]
    rw [← hn]
    simp [builtin,Builtin.len_,goInt,Sem.run_bind,run_underlying hT]
def SP.at (cs:List Value):SP :=
  ⟨fun ok v W=>∃ ad,v = .pointer (some ad)∧Foot (fun W=>∀ (i:Nat) (u:Value),cs[i]?=some u→W.cell? (ad.add i)=some u) W ok,
   fun hk ⟨ad,e,f⟩=>⟨ad,e,f.mono hk⟩,fun ⟨ad,e,f⟩=>⟨ad,e,f.bound⟩,fun ⟨ad,e,f⟩ hm=>⟨ad,e,f.step hm⟩⟩
theorem Addr.add_add (ad:Addr) (i j:Nat):(ad.add i).add j=ad.add (i+j):=by
  unfold Addr.add
  by_cases hi:i=0
  · subst hi;simp
  · by_cases hj:j=0
    · subst hj;simp [hi]
    · simp [hi,hj,Nat.add_assoc]
theorem idx_ {d:Tmp} {x y:Operand} {sz k:Nat} {xs:List (List Value)} {c:List Value} {kk:Int} {T E:TypeId} (hh:Pl R ops i o (some d) (.indexAddr T x y) true)
    (hR:RowTy P T E sz) (hx:Vl R i x (.vec sz xs)) (hy:Vl R i y (ii kk)) (hk:kk=k) (hc:xs[k]?=some c):Does P w0 ok0 N R ops Q i o (some (.s d (.at c))) :=
  does_s hh fun ok a W hf hk' K hK=>by
    have hT:=hR.u
    have hs:=hR.i
    obtain ⟨A,cc,e,_,hF⟩:=hx.H hf
    have hlt:k < xs.length:=(List.getElem?_eq_some_iff.1 hc).1
    have e2:a.eval y = .int .i64 k:=by rw [← hk];exact hy.H hf
    obtain ⟨ad,rfl,hcell⟩:=hF.now (by omega)
    obtain ⟨ie,hie,his⟩:∃ ie,P.info? E=some ie∧ie.size=sz:=by
      cases h:P.info? E with
      | none=>rw [h] at hs;cases hs
      | some ie=>rw [h] at hs;exact ⟨ie,rfl,by simpa using hs⟩
    have er:(execOp a.eval o).run P W = .ok (.value (.pointer (some (ad.add (k * sz))))) W:=by
      unfold execOp
      simp only [hh.op,e,e2,Instr.indexAt,asIntOf,Sem.run_bind,Sem.run_pure,Result.andThen_ok,run_underlying hT W,sizeOf,typeInfo,program,Sem.run,hie,his]
      have h1:(0:Int)≤(k:Int)∧(k:Int) < (xs.length:Nat):=⟨by omega,by omega⟩
      simp only [if_pos h1,Sem.run_bind,Sem.run,Result.andThen_ok,hie,his]
      simp [his]
    unfold Oper.wp
    rw [er]
    refine hK _ W (Below.refl _ _) ⟨_,rfl,hF.imp fun W' hW j u hu=>?_⟩
    obtain ⟨ad',ea,hc'⟩:=hW (by omega)
    cases ea
    rw [Addr.add_add]
    exact (hc' k c hc).2 j u hu
theorem ld_at {d:Tmp} {x:Operand} {T:TypeId} {cs:List Value} {n:Nat} {v:Value} (hh:Pl R ops i o (some d) (.load T x) true) (hx:Vl R i x (.at cs)) (hT:AggTy P T n) (hn:cs.length=n)
    (hv:Value.agg cs.toArray=v):Does P w0 ok0 N R ops Q i o (some (.s d (.is v))) :=
  pure_ hh fun ok a W hf=>by
    obtain ⟨ad,e,hF⟩:=hx.H hf
    obtain ⟨dd,hu,hdd⟩:=hT.u
    have hc:=hF.now
    have hl:(loadCells ad cs.length).run P W = .ok cs.toArray W:=run_loadCells_list (P:=P) W ad cs (fun j u hu=>hc j u hu)
    have hagg:(isAgg T).run P W = .ok true W:=by
      unfold isAgg
      rw [Sem.run_bind,run_underlying hu W]
      cases dd<;>simp_all
    obtain ⟨ie,hie,his⟩:∃ ie,P.info? T=some ie∧ie.size=n:=by
      have hs:=hT.i
      cases h:P.info? T with
      | none=>rw [h] at hs;cases hs
      | some ie=>rw [h] at hs;exact ⟨ie,rfl,by simpa using hs⟩
    unfold execOp
    rw [hn] at hl
    simp only [hh.op,e,Instr.loadAt,Instr.sureAddr,Sem.run_bind,Sem.run_pure,Result.andThen_ok,loadVar,hagg,if_true,sizeOf,typeInfo,program,Sem.run,hie,his,hl,hv]
theorem ldc_at {d:Tmp} {x:Operand} {T:TypeId} {v:Value} {cs:List Value} (hh:Pl R ops i o (some d) (.load T x) true) (hx:Vl R i x (.at (v :: cs))) (hT:ScalTy P T):Does P w0 ok0 N R ops Q i o (some (.s d (.is v))) :=
  pure_ hh fun ok a W hf=>by
    obtain ⟨ad,e,hF⟩:=hx.H hf
    obtain ⟨dd,hu,hdd⟩:=hT.u
    have hc:=hF.now 0 v rfl
    have hagg:(isAgg T).run P W = .ok false W:=by
      unfold isAgg
      rw [Sem.run_bind,run_underlying hu W]
      cases dd<;>simp_all
    have hc':W.cell? ad=some v:=by simpa [Addr.add] using hc
    unfold execOp
    simp only [hh.op,e,Instr.loadAt,Instr.sureAddr,Sem.run_bind,Sem.run_pure,Result.andThen_ok,loadVar,hagg,Bool.false_eq_true,if_false,run_load,hc']
end
section
variable {P:Program} {w0:World} {ok0:Nat→Prop} {N:Nat} {F:List Fact} {Q:Exit→Act→World→Prop} {K:Act→World→Prop}
theorem Tr.loop {c:Code} (I:Nat→List Fact→Prop) (n:Nat) {F0:List Fact} (h0:I n F0) (hs:∀ f∈F0,f∈F)
    (round:∀ n F,I n F→Tr P w0 ok0 N F c (Exit.then (fun a W=>∃ n',n' < n∧∃ F',I n' F'∧St w0 ok0 N (·∈F') a W) Q)):Tr P w0 ok0 N F (.loop c) Q:=fun a W hS =>
  wp_loop_ghost (fun n a W=>∃ F,I n F∧St w0 ok0 N (·∈F) a W) n ⟨F0,h0,hS.mono hs⟩ (fun n a W ⟨F,hI,hS⟩=>wp_mono (round n F hI a W hS) (fun e a W hq=>by
    cases e with
    | normal=>obtain ⟨n',hn,F',hI',hS'⟩:=hq;exact ⟨n',hn,F',hI',hS'⟩
    | exit _=>exact hq
    | goto _=>exact hq
    | ret=>exact hq
    | panic _=>exact hq
    | outgrown=>exact hq))
theorem Nx.again {I:Nat→List Fact→Prop} {n:Nat} (n':Nat) (hn:n' < n) (F':List Fact) (hI:I n' F') (hs:∀ f∈F',f∈F):Nx w0 ok0 N F (Exit.then (fun a W=>∃ n',n' < n∧∃ F',I n' F'∧St w0 ok0 N (·∈F') a W) Q .normal) :=
  fun a W hS=>⟨n',hn,F',hI,hS.mono hs⟩
theorem Nx.thX {k:Act→World→Prop} {id:Nat} (h:Nx w0 ok0 N F (Q (.exit id))):Nx w0 ok0 N F (Exit.then k Q (.exit id)):=h
theorem Nx.bkN {id:Nat} (h:Nx w0 ok0 N F (Q .normal)):Nx w0 ok0 N F (Exit.inBlock id Q .normal):=h
theorem Nx.bkX {id:Nat} (h:Nx w0 ok0 N F (Q .normal)):Nx w0 ok0 N F (Exit.inBlock id Q (.exit id)):=fun a W hS=>by
  show if id=id then _ else _
  rw [if_pos rfl]
  exact h a W hS
end
section
variable {P:Program} {w0:World} {ok0:Nat→Prop} {N:Nat} {R:Rg} {ops:Array Oper} {Q:Exit→Act→World→Prop} {i:Nat} {o:Oper}
theorem max_ {d:Tmp} {x y:Operand} {k:IntKind} {a b r:Int} {ts:Array TypeId} (hh:Pl R ops i o (some d) (.call { callee := .builtin .max,args:=#[x,y],argTypes:=ts }) true)
    (hx:Vl R i x (.is (.int k a))) (hy:Vl R i y (.is (.int k b))) (hr:(if a < b then b else a)=r):Does P w0 ok0 N R ops Q i o (some (.s d (.is (.int k r)))) :=
  pure_ hh fun ok a' W hf=>by
    have e1:a'.eval x = .int k a:=hx.H hf
    have e2:a'.eval y = .int k b:=hy.H hf
    unfold execOp
    simp only [hh.op,resolve,Sem.run_bind,Sem.run_pure,Result.andThen_ok,invoke,List.map_toArray,List.map_cons,List.map_nil,e1,e2]
    rw [← hr]
    simp [builtin,Builtin.max_,Builtin.max2,Sem.run_bind]
theorem minb_ {d:Tmp} {x y:Operand} {k:IntKind} {a b r:Int} {ts:Array TypeId} (hh:Pl R ops i o (some d) (.call { callee := .builtin .min,args:=#[x,y],argTypes:=ts }) true)
    (hx:Vl R i x (.is (.int k a))) (hy:Vl R i y (.is (.int k b))) (hr:(if b < a then b else a)=r):Does P w0 ok0 N R ops Q i o (some (.s d (.is (.int k r)))) :=
  pure_ hh fun ok a' W hf=>by
    have e1:a'.eval x = .int k a:=hx.H hf
    have e2:a'.eval y = .int k b:=hy.H hf
    unfold execOp
    simp only [hh.op,resolve,Sem.run_bind,Sem.run_pure,Result.andThen_ok,invoke,List.map_toArray,List.map_cons,List.map_nil,e1,e2]
    rw [← hr]
    simp [builtin,Builtin.min_,Builtin.min2,Sem.run_bind]
theorem cvt_ {d:Tmp} {x:Operand} {k k':IntKind} {a r:Int} {s t:TypeId} (hh:Pl R ops i o (some d) (.convert s t x) true) (hs:(P.underlying s).isSome=true) (ht:P.underlying t=some (.int k'))
    (hx:Vl R i x (.is (.int k a))) (hr:k'.wrap a=r):Does P w0 ok0 N R ops Q i o (some (.s d (.is (.int k' r)))) :=
  pure_ hh fun ok a' W hf=>by
    have e1:a'.eval x = .int k a:=hx.H hf
    obtain ⟨ds,hs'⟩:=Option.isSome_iff_exists.mp hs
    unfold execOp
    simp only [hh.op,e1,← hr]
    simp [convert,run_underlying hs',run_underlying ht,Conv.intToInt,Sem.run_bind]
theorem neB_ {d:Tmp} {x y:Operand} {a b r:Bool} {T T':TypeId} (hh:Pl R ops i o (some d) (.binOp .neq T x y T') true) (hT:P.underlying T=some .bool) (hx:Vl R i x (.is (.bool a))) (hy:Vl R i y (.is (.bool b)))
    (hr:(a != b)=r):Does P w0 ok0 N R ops Q i o (some (.s d (bb r))):=bin hh hx hy (fun W=>by
      rw [← hr,Sem.run_bind,eqGuard_at_bool]
      show (binOp .neq T (.bool a) (.bool b)).run P W=_
      simp [binOp,Op.equal,Op.maxDepth,Sem.run_bind,run_equalIn_bool' W 9999 T a b hT]
      cases a<;>cases b<;>rfl)
theorem eqB_ {d:Tmp} {x y:Operand} {a b r:Bool} {T T':TypeId} (hh:Pl R ops i o (some d) (.binOp .eql T x y T') true) (hT:P.underlying T=some .bool) (hx:Vl R i x (.is (.bool a))) (hy:Vl R i y (.is (.bool b)))
    (hr:(a==b)=r):Does P w0 ok0 N R ops Q i o (some (.s d (bb r))):=bin hh hx hy (fun W=>by
      rw [← hr,Sem.run_bind,eqGuard_at_bool]
      show (binOp .eql T (.bool a) (.bool b)).run P W=_
      simp [binOp,Op.equal,Op.maxDepth,Sem.run_bind,run_equalIn_bool' W 9999 T a b hT])
theorem or_ {d:Tmp} {x y:Operand} {k:IntKind} {a b r:Int} {T T':TypeId} (hh:Pl R ops i o (some d) (.binOp .or T x y T') true) (hx:Vl R i x (.is (.int k a))) (hy:Vl R i y (.is (.int k b))) (hr:Go.bits .or k a b=r):Does P w0 ok0 N R ops Q i o (some (.s d (.is (.int k r)))):=bin hh hx hy (fun W=>by rw [← hr,Sem.run_bind,eqGuard_at_int,binOp_or];rfl)
theorem rem_ {d:Tmp} {x y:Operand} {k:IntKind} {a b r:Int} {T T':TypeId} (hh:Pl R ops i o (some d) (.binOp .rem T x y T') true) (hx:Vl R i x (.is (.int k a))) (hy:Vl R i y (.is (.int k b))) (hb:b≠0) (hr:a.tmod b=r):Does P w0 ok0 N R ops Q i o (some (.s d (.is (.int k r)))):=bin hh hx hy (fun W=>by rw [← hr,Sem.run_bind,eqGuard_at_int,binOp_rem];unfold Op.intDiv;rw [if_neg hb];rfl)
theorem quo_ {d:Tmp} {x y:Operand} {k:IntKind} {a b r:Int} {T T':TypeId} (hh:Pl R ops i o (some d) (.binOp .quo T x y T') true) (hx:Vl R i x (.is (.int k a))) (hy:Vl R i y (.is (.int k b))) (hb:b≠0) (hr:k.wrap (a.tdiv b)=r):Does P w0 ok0 N R ops Q i o (some (.s d (.is (.int k r)))):=bin hh hx hy (fun W=>by rw [← hr,Sem.run_bind,eqGuard_at_int,binOp_quo];unfold Op.intDiv;rw [if_neg hb];rfl)
theorem eqS_ {d:Tmp} {x y:Operand} {u v:Array Value} {r c:Bool} {T T':TypeId} (hh:Pl R ops i o (some d) (.binOp .eql T x y T') true) (hm:P.eqGuardType P.depth T=false) (hx:Vl R i x (.is (.agg u))) (hy:Vl R i y (.is (.agg v)))
    (he:∀ W,(Op.equalIn 10000 T (.agg u) (.agg v)).run P W = .ok c W) (hr:c=r):Does P w0 ok0 N R ops Q i o (some (.s d (bb r))):=bin hh hx hy (fun W=>by
      rw [← hr,Sem.run_bind,run_eqGuard_agg W .eql T x y u v hm,Result.andThen_ok,run_eql_struct W,he W];rfl)
theorem neS_ {d:Tmp} {x y:Operand} {u v:Array Value} {r c:Bool} {T T':TypeId} (hh:Pl R ops i o (some d) (.binOp .neq T x y T') true) (hm:P.eqGuardType P.depth T=false) (hx:Vl R i x (.is (.agg u))) (hy:Vl R i y (.is (.agg v)))
    (he:∀ W,(Op.equalIn 10000 T (.agg u) (.agg v)).run P W = .ok c W) (hr:(!c)=r):Does P w0 ok0 N R ops Q i o (some (.s d (bb r))):=bin hh hx hy (fun W=>by
      rw [← hr,Sem.run_bind,run_eqGuard_agg W .neq T x y u v hm,Result.andThen_ok,run_neq_struct W,he W];rfl)
end
inductive Sub (F:List Fact):List Fact→Prop
  | nil:Sub F []
  | cons {f:Fact} {G:List Fact} (k:Nat) (h:F[k]?=some f) (t:Sub F G):Sub F (f :: G)
theorem Sub.all {F G:List Fact} (h:Sub F G):∀ f∈G,f∈F:=by
  induction h with
  | nil=>intro f hf;cases hf
  | cons k h t ih =>
    intro f hf
    rcases List.mem_cons.1 hf with rfl|hf
    · exact List.mem_of_getElem? h
    · exact ih f hf
theorem end_cell3 {P:Program} {w0:World} {ok0:Nat→Prop} {N:Nat} {F:List Fact} {fn:Func} {t1 t2 t3 n1 n2 n3:Nat} {T1 T2 T3:TypeId} {q1 q2 q3:SP} (k1 k2 k3:Nat) (hr:fn.results=#[.cell t1 T1,.cell t2 T2,.cell t3 T3]) (hk1:F[k1]?=some (.b t1 q1 T1 n1)) (hk2:F[k2]?=some (.b t2 q2 T2 n2)) (hk3:F[k3]?=some (.b t3 q3 T3 n3)) (hT1:AggTy P T1 n1) (hT2:AggTy P T2 n2) (hT3:AggTy P T3 n3) :
    Nx w0 ok0 N F (fun a W=>bodyPost P fn (Ret w0 ok0 (.tup [q1,q2,q3])) .ret a W):=fun a W hS=>by
  obtain ⟨ok,h1,h2,h3⟩:=hS.ex
  have cell:∀ {t n:Nat} {T:TypeId} {q:SP},(Fact.b t q T n).holds w0.heap.size ok a W→AggTy P T n→∃ g cs,a.tmps[t]?.getD undef = .pointer (some ⟨g,0,none⟩)∧(loadVar T ⟨g,0,none⟩).run P W = .ok (.agg cs) W∧q.H ok (.agg cs) W:=fun hh hT=>by
    obtain ⟨g,cs,e1,_,_,e4,e5,e6⟩:=hh
    obtain ⟨dd,hu,hdd⟩:=hT.u
    exact ⟨g,cs,by simpa using e1,run_loadVar_row (P:=P) W g _ _ cs (0,0) dd e4 hu (by cases dd<;>first|exact hdd|cases hdd) (by rw [hT.i,e5]),e6⟩
  obtain ⟨g1,c1,e1,r1,q1h⟩:=cell (h3 _ (List.mem_of_getElem? hk1)) hT1
  obtain ⟨g2,c2,e2,r2,q2h⟩:=cell (h3 _ (List.mem_of_getElem? hk2)) hT2
  obtain ⟨g3,c3,e3,r3,q3h⟩:=cell (h3 _ (List.mem_of_getElem? hk3)) hT3
  refine ⟨hS.hd,.tuple #[.agg c1,.agg c2,.agg c3],?_,⟨_,rfl,⟨[_,_,_],rfl,q1.mono h1 q1h,q2.mono h1 q2h,q3.mono h1 q3h,trivial⟩,hS.hb⟩⟩
  simp [results,hr,e1,e2,e3,asAddr,r1,r2,r3]
/-! ### Steps not done, and what waits on them; a truth told -/
section
variable {P:Program} {w0:World} {ok0:Nat→Prop} {N:Nat} {R:Rg} {ops:Array Oper} {Q:Exit→Act→World→Prop} {i:Nat} {o:Oper}
theorem skpu {d:Tmp} {op:Op} (hh:Pl R ops i o (some d) op false):Does P w0 ok0 N R ops Q i o (some (.s d (.is undef))):=by
  intro l Φ a W hdN hnd hS hΦ
  obtain ⟨ok,h1,h2,h3⟩:=hS.ex
  have hf:∀ f,R.Nd i f→f.holds w0.heap.size ok a W:=fun f hf=>h3 f (hnd f hf)
  rw [if_neg (by rw [hh.wanted hf];simp),hh.dst]
  refine hS.put_s (hdN d hh.dst) (Below.refl _ _) h1 h2 h3 (p := .is undef) rfl (fun f hΦf=>?_)
  rcases hΦ f hΦf with h|⟨h,hu⟩
  · cases h;exact .inl rfl
  · exact .inr ⟨h,undoes_on hh.dst hu⟩
theorem skpn {d t:Tmp} {op:Op} {ty:TypeId} {ps:String} {af:Array Edge} {j:Nat} {want:Bool} (hn:Vl R i (.tmp t) (.is undef)) (ht:(ops[j]?).bind (·.dst)=some t) :
    Does P w0 ok0 N R ops Q i ⟨some d,op,ty,ps,af,some (j,want)⟩ none:=by
  intro l Φ a W hdN hnd hS hΦ
  obtain ⟨ok,h1,h2,h3⟩:=hS.ex
  have hf:∀ f,R.Nd i f→f.holds w0.heap.size ok a W:=fun f hf=>h3 f (hnd f hf)
  have hw:Region.wanted ⟨some d,op,ty,ps,af,some (j,want)⟩ (yielded ops a.tmps)=false:=by
    have:a.tmps.getD t undef=undef:=hn.H hf
    unfold Region.wanted
    simp only [yielded,ht,Option.bind_some]
    rw [Array.getD_eq_getD_getElem?] at this
    cases h:a.tmps[t]? with
    | none=>rfl
    | some v=>rw [h] at this;simp at this;rw [this];rfl
  rw [if_neg (by rw [hw];simp)]
  refine hS.put_s (hdN d rfl) (Below.refl _ _) h1 h2 h3 (p := .is undef) rfl (fun f hΦf=>?_)
  rcases hΦ f hΦf with h|⟨h,hu⟩
  · cases h
  · exact .inr ⟨h,undoes_on rfl hu⟩
end
theorem wr1 {k:Nat} (h:(k:Int)+1 < 9223372036854775808):IntKind.i64.wrap ((k:Int)+1)=((k+1:Nat):Int):=by rw [IntWalk.i64_in _ (by omega)];omega
theorem gm {α β:Type} {l:List α} {f:α→β} {k:Nat} {x:α} (h:l[k]?=some x):(l.map f)[k]?=some (f x):=by rw [List.getElem?_map,h];rfl
theorem dT {p:Prop} [Decidable p] (h:p):decide p=true:=decide_eq_true h
theorem dF {p:Prop} [Decidable p] (h:¬ p):decide p=false:=decide_eq_false h
theorem lm {α β:Type} {l:List α} {f:α→β}:((l.map f).length:Int)=(l.length:Int):=by rw [List.length_map]
end Go.Proofs.YtkgagdjogedoiaaGreat.Fx

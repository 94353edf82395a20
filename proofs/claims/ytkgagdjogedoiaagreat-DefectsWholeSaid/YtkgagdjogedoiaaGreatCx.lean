/- Appending to an empty row; a box by its block's name; functions that hand back a row of their own. -/
import Derived.Test.YtkgagdjogedoiaaGreatMx
set_option linter.unusedVariables false
set_option linter.unusedSimpArgs false
namespace Go.Proofs.YtkgagdjogedoiaaGreat.Fx
open Go Go.RowKit Go.Proofs.YtkgagdjogedoiaaGreatW.PrintWords
section
variable {P:Program} {w0:World} {ok0:Nat→Prop} {N:Nat} {R:Rg} {ops:Array Oper} {Q:Exit→Act→World→Prop} {i:Nat} {o:Oper}
theorem app_none {W:World} {S E:TypeId} {ty:TypeId} {ii:TypeInfo} (hT:P.underlying S=some (.slice E)) (hi:P.info? E=some ii) (A:Option Addr) (c:Nat):(Builtin.append_ #[S,S] ty #[.slice none 0 0,.slice A 0 c]).run P W = .ok (.slice none 0 0) W:=by
  unfold Builtin.append_
  cases A<;>simp [Sem.run_bind,run_underlying hT,Result.andThen_ok,sizeOf,typeInfo,program,Sem.run,hi,Builtin.lenOf,Builtin.firstCells,loadCells,loadCellsFrom,Result.andThen]
theorem apn {d:Tmp} {x y:Operand} {S E:TypeId} {sz bytes:Nat} {rs:List (List Value)} (hh:Pl R ops i o (some d) (.call { callee := .builtin .append,args:=#[x,y],argTypes:=#[S,S] }) true) (hT:AppTy P S E sz bytes)
    (hx:Vl R i x (.is (.slice none 0 0))) (hy:Vl R i y (.vec sz rs)) (h1c:(rs.all fun r=>r.length==sz && r.all (·.oneCell'))=true) (hb:bytes≤24) (hl:rs.length≤5000000):Does P w0 ok0 N R ops Q i o (some (.o d sz E rs)):=by
  intro l Φ a W hdN hnd hS hΦ
  obtain ⟨ok,h1,h2,h3⟩:=hS.ex
  have hfs:=fun f hf=>h3 f (hnd f hf)
  rw [if_pos (hh.wanted hfs)]
  obtain ⟨ii,z,hi,hz,hsize,hbytes,hzs⟩:=hT.i
  have ex:a.eval x = .slice none 0 0:=hx.H hfs
  obtain ⟨A,c,ey,hc,hfoot⟩:=hy.H hfs
  have hrs:∀ r∈rs,r.length=sz∧∀ u∈r,u.oneCell'=true:=fun r hr=>by
    have:=List.all_eq_true.1 h1c r hr
    rw [Bool.and_eq_true,beq_iff_eq,List.all_eq_true] at this
    exact this
  obtain ⟨v',w',hr,r1,r2,r3⟩:∃ v' w',(Builtin.append_ #[S,S] o.type #[.slice none 0 0,.slice A rs.length c]).run P W = .ok v' w'∧w'.ownsRow w0.heap.size E sz v' rs.length rs.flatten∧W.grownBy w' none∧∀ g,v'.ownBlock=some g→W.heap.size≤g:=by
    by_cases hne:0 < rs.length
    · obtain ⟨ad,rfl,hcells⟩:=hfoot W (fun _ _ _=>rfl) hne
      have hby:=Nat.mul_le_mul (show 0+rs.length≤5000000 by omega) hb
      obtain ⟨v',w',hr,r1,r2,r3⟩:=append_at (P:=P) W w0.heap.size S o.type E ii z sz bytes hT.u hi hz hsize hbytes hzs hT.pos (.slice none 0 0) 0 [] (World.ownsRow_nil W _ E sz) ad rs.length c rs.flatten (flat_len rs fun r hr=>(hrs r hr).1)
        (fun j u hj=>by
          obtain ⟨r,e1,e2⟩:=flat_at hT.pos rs (fun r hr=>(hrs r hr).1) j u hj
          have:=(hcells (j / sz) r e1).2 (j % sz) u e2
          rw [Nat.mul_comm,Nat.div_add_mod] at this
          exact this)
        (fun u hu=>by
          obtain ⟨r,hr,hu⟩:=List.mem_flatten.1 hu
          exact (hrs r hr).2 u hu) (by unfold maxLen;omega) (by omega) hS.hb.size
      refine ⟨v',w',hr,by simpa using r1,r2,fun g hg=>?_⟩
      rcases r3 g hg with e|e
      · cases e
      · exact e
    · obtain rfl:rs=[]:=List.length_eq_zero_iff.1 (by omega)
      exact ⟨_,W,app_none hT.u hi A c,World.ownsRow_nil W _ E sz,World.grownBy.refl W none,fun g h=>by cases h⟩
  have hlt:∀ g,v'.ownBlock=some g→g < w'.heap.size:=fun g hg=>(r1.lt g hg).2
  have hown':Owns w0.heap.size (fun k=>ok k∧v'.ownBlock≠some k) w' sz E rs v':=⟨r1,fun g hg hk=>hk.2 hg,fun r hr=>(hrs r hr).1⟩
  have key:St w0 ok0 N Φ (a.put (some d) v') w' :=
    hS.put_g (K:=fun f=>R.Av l f∧f.on d=false) (row:=none) (ok':=fun k=>ok k∧v'.ownBlock≠some k) (fn := .o d sz E rs) (hdN d hh.dst) r2 h3 (fun k e=>by cases e)
      (fun k hk=>h1 k hk.1) (fun k hk=>⟨h2 k (Nat.le_trans r2.size hk),fun e=>by have:=hlt k e;omega⟩)
      (fun k hk hlt'=>⟨⟨hk,fun e=>by have:=r3 k e;omega⟩,by simp⟩)
      (fun f hf=>⟨hf.1,hf.2,fun t' ht' g hg=>⟨by simp,fun hk=>(box_lt ht' (h3 f hf.1) g hg).2.2 hk.1⟩⟩)
      (fun f l g hf e=>⟨by simp,fun hk=>(lab_lt e (h3 f hf.1)).2.2 hk.1⟩)
      (by show Owns _ _ _ _ _ _ _;rw [getD_put_self (by rw [hS.hn];exact hdN d hh.dst)];exact hown')
      (fun t1 ht1=>⟨by simpa [Fact.box] using ht1.symm,fun f' t' hf' ht' g e hg=>by
        rw [hown'.blk] at e
        have e1:=r3 g e
        have:=(box_lt ht' (h3 f' hf'.1) g hg).2.1;omega⟩) rfl
      (.inr fun f l g hf e hg=>by
        rw [hown'.blk] at hg
        have e1:=r3 g hg
        have:=(lab_lt e (h3 f hf.1)).2.1;omega)
      (fun f hf=>by
        rcases hΦ f hf with h|⟨h,hu⟩
        · cases h;exact .inl rfl
        · exact .inr ⟨h,undoes_on hh.dst hu⟩)
  unfold Oper.wp execOp
  simp only [hh.op,resolve,invoke,builtin,Sem.run_bind,Sem.run_pure,Result.andThen_ok,List.map_toArray,List.map_cons,List.map_nil,ex,ey,hr]
  rw [← hh.dst] at key
  exact key
theorem fadh {d:Tmp} {x:Operand} {g off k:Nat} {T:TypeId} (hh:Pl R ops i o (some d) (.fieldAddr T x k) true) (hx:Vl R i x (.is (ptr g 0))) (hF:FieldTy P T k off):Does P w0 ok0 N R ops Q i o (some (.s d (.is (ptr g off)))) :=
  pure_ hh fun ok a W hf=>by
    obtain ⟨fs,fl,hT,hk',hp⟩:=hF.out
    have hev:a.eval x=ptr g 0:=hx.H hf
    unfold execOp
    simp only [hh.op,hev,Instr.fieldAt,Sem.run_bind,run_underlying hT W,Result.andThen_ok,hk',Instr.sureAddr,Sem.run_pure,hp g W]
end
section
variable {P:Program} {w0:World} {ok0:Nat→Prop} {N:Nat} {F:List Fact} {c:Code} {Q:Exit→Act→World→Prop}
theorem Tr.boxh {F1:List Fact} {t:Tmp} {v:Value} {T:TypeId} {n:Nat} (cs:List Value) (l k:Nat) (ks:List Nat) (hk:F[k]?=some (.b t (.is v) T n)) (hv:v = .agg cs.toArray) (hp:pickB F (fun f=>f.box==some t || (match f with | .h l' _ _=>l'==l|_=>false)) ks=some F1)
    (h:∀ g,Tr P w0 ok0 N (.s t (.is (ptr g 0)) :: .h l g (HP.own T n 1 1 cs) :: F1) c Q):Tr P w0 ok0 N F c Q:=fun a W hS=>by
  have hm:=List.mem_of_getElem? hk
  obtain ⟨ok,h1,h2,h3⟩:=hS.ex
  obtain ⟨g,cur,ev,hng,hB,hg,hsz,hq⟩:=h3 _ hm
  have hcur:cur=cs.toArray:=by
    have:Value.agg cur=v:=hq
    rw [hv] at this
    cases this;rfl
  have hbl:blk (a.tmps.getD t undef)=some g:=by rw [ev];rfl
  have hF:∀ f∈F1,f∈F∧f.box≠some t∧∀ l' g',f.lab=some (l',g')→l'≠l:=fun f hf=>by
    obtain ⟨h4,h5⟩:=pickB_mem hp f hf
    rw [Bool.or_eq_false_iff] at h5
    refine ⟨h4,fun e=>by rw [e] at h5;simp at h5,fun l' g' e=>?_⟩
    cases f<;>simp [Fact.lab] at e
    obtain ⟨rfl,rfl⟩:=e
    simpa using h5.2
  refine h g a W ⟨hS.hb,hS.h0,hS.hd,hS.hn,⟨ok,h1,h2,fun f hf=>?_⟩,fun f f' t1 t2 hf hf' e e'=>?_,fun f f' l1 g1 t1 hf hf' e e'=>?_,fun f f' l1 g1 l2 g2 hf hf' e e'=>?_⟩
  · rcases List.mem_cons.1 hf with rfl|hf
    · exact ev
    rcases List.mem_cons.1 hf with rfl|hf
    · refine ⟨_,hg,hng,hB,cur,rfl,Nat.le_refl _,by unfold maxLen;omega,by rw [hsz,Nat.one_mul],?_,?_⟩
      · rw [← hsz,hcur];simp
      · rw [← hsz,hcur];simp
    · exact h3 f (hF f hf).1
  · rcases List.mem_cons.1 hf with rfl|hf
    · cases e
    rcases List.mem_cons.1 hf with rfl|hf
    · cases e
    rcases List.mem_cons.1 hf' with rfl|hf'
    · cases e'
    rcases List.mem_cons.1 hf' with rfl|hf'
    · cases e'
    exact hS.far f f' t1 t2 (hF f hf).1 (hF f' hf').1 e e'
  · rcases List.mem_cons.1 hf' with rfl|hf'
    · cases e'
    rcases List.mem_cons.1 hf' with rfl|hf'
    · cases e'
    rcases List.mem_cons.1 hf with rfl|hf
    · cases e
    rcases List.mem_cons.1 hf with rfl|hf
    · cases e
      have hne':t≠t1:=fun e=>(hF f' hf').2.1 (e ▸ e')
      exact hS.far _ f' t t1 hm (hF f' hf').1 rfl e' hne' g hbl
    · exact hS.farh f f' l1 g1 t1 (hF f hf).1 (hF f' hf').1 e e'
  · rcases List.mem_cons.1 hf with rfl|hf
    · cases e
    rcases List.mem_cons.1 hf' with rfl|hf'
    · cases e'
    rcases List.mem_cons.1 hf with rfl|hf
    · cases e
      rcases List.mem_cons.1 hf' with rfl|hf'
      · cases e';exact fun hn=>absurd rfl hn
      · exact fun hn he=>hS.farh f' _ l2 g2 t (hF f' hf').1 hm e' rfl (hbl.trans (congrArg some he))
    · rcases List.mem_cons.1 hf' with rfl|hf'
      · cases e'
        exact fun hn he=>hS.farh f _ l1 g1 t (hF f hf).1 hm e rfl (hbl.trans (congrArg some he.symm))
      · exact hS.farl f f' l1 g1 l2 g2 (hF f hf).1 (hF f' hf').1 e e'
end
/-! ### The steps that change the words alone, whatever is to follow -/
section
variable {w0:World} {ok0:Nat→Prop} {N:Nat} {F:List Fact} {K:Act→World→Prop}
theorem Nx.more {f':Fact} (hb:f'.box=none) (hl:f'.lab=none) (h:∀ (ok:Nat→Prop) (a:Act) (W:World),(∀ f∈F,f.holds w0.heap.size ok a W)→f'.holds w0.heap.size ok a W) (t:Nx w0 ok0 N (f' :: F) K):Nx w0 ok0 N F K:=fun a W hS =>
  t a W (hS.ghost fun ok h3 f hf=>by
    rcases List.mem_cons.1 hf with rfl|hf
    · exact .inr ⟨hb,hl,h ok a W h3⟩
    · exact .inl hf)
theorem Nx.name {t:Tmp} {sz:Nat} {rows:List (List Value)} (k:Nat) (hk:F[k]?=some (.s t (.vec sz rows))) (h:∀ A cap,Nx w0 ok0 N (.s t (.is (.slice A rows.length cap)) :: .v [.slice A rows.length cap] [.vec sz rows] :: F) K):Nx w0 ok0 N F K:=fun a W hS=>by
  obtain ⟨ok,h1,h2,h3⟩:=hS.ex
  have hm:=h3 _ (List.mem_of_getElem? hk)
  obtain ⟨A,cap,e⟩:=SP.vec_val (show (SP.vec sz rows).H ok (a.tmps.getD t undef) W from hm)
  refine h A cap a W ?_
  have hm':(SP.vec sz rows).H ok (a.tmps.getD t undef) W:=hm
  rw [e] at hm'
  refine ⟨hS.hb,hS.h0,hS.hd,hS.hn,⟨ok,h1,h2,fun f hf=>?_⟩,fun f f' t t' hf hf' e e'=>?_,fun f f' l g t hf hf' e e'=>?_,fun f f' l g l' g' hf hf' e e'=>?_⟩
  · rcases List.mem_cons.1 hf with rfl|hf
    · exact e
    rcases List.mem_cons.1 hf with rfl|hf
    · exact ⟨hm',trivial⟩
    exact h3 f hf
  all_goals
    (rcases List.mem_cons.1 hf with rfl|hf
     · cases e
     rcases List.mem_cons.1 hf with rfl|hf
     · cases e
     rcases List.mem_cons.1 hf' with rfl|hf'
     · cases e'
     rcases List.mem_cons.1 hf' with rfl|hf'
     · cases e')
  · exact hS.far f f' _ _ hf hf' e e'
  · exact hS.farh f f' _ _ _ hf hf' e e'
  · exact hS.farl f f' _ _ _ _ hf hf' e e'
theorem Nx.frzo {F1:List Fact} {t:Tmp} {sz:Nat} {E:TypeId} {rows:List (List Value)} (k:Nat) (ks:List Nat) (hk:F[k]?=some (.o t sz E rows)) (hp:pickB F (fun f=>f.own==some t) ks=some F1)
    (h:Nx w0 ok0 N (.s t (.vec sz rows) :: F1) K):Nx w0 ok0 N F K:=fun a W hS=>by
  have hmk:=List.mem_of_getElem? hk
  obtain ⟨ok1,h1,h2,h31⟩:=hS.ex
  have hown:Owns w0.heap.size ok1 W sz E rows (a.tmps.getD t undef):=h31 _ hmk
  cases hb:(a.tmps.getD t undef).ownBlock with
  | none =>
    refine h a W (hS.ghost fun ok h3 f hf=>?_)
    rcases List.mem_cons.1 hf with rfl|hf
    · right
      refine ⟨rfl,rfl,?_⟩
      refine SP.mono _ (fun k hk=>?_) (owns_vec (ok:=ok) hown.row hown.sz)
      rcases hk with hk|hk
      · exact hk
      · rw [hb] at hk;cases hk
    · exact .inl (pickB_mem hp f hf).1
  | some g =>
    refine h a W (hS.freeze (g:=g) (hown.row.lt g hb).1 fun ok h3 f hf=>?_)
    rcases List.mem_cons.1 hf with rfl|hf
    · right
      refine ⟨rfl,rfl,?_⟩
      refine SP.mono _ (fun k hk=>?_) (owns_vec (ok:=ok) hown.row hown.sz)
      rcases hk with hk|hk
      · exact .inl hk
      · rw [hb] at hk;cases hk;exact .inr rfl
    · left
      obtain ⟨hF,hbf⟩:=pickB_mem hp f hf
      refine ⟨hF,fun t' ht' e=>?_,fun l g' hl' e=>?_⟩
      · by_cases ht:t=t'
        · subst ht
          have:=box_own ht' (h31 f hF) hown
          rw [this] at hbf;simp at hbf
        · exact hS.far _ f t t' hmk hF rfl ht' ht g (hown.blk.trans hb) e
      · subst e
        exact hS.farh f _ l _ t hF hmk hl' rfl (hown.blk.trans hb)
theorem Nx.ownh {F1:List Fact} {t:Tmp} {sz:Nat} {E:TypeId} {rows:List (List Value)} (l k:Nat) (ks:List Nat) (hk:F[k]?=some (.o t sz E rows)) (hne:rows≠[]) (hp:pickB F (fun f=>f.box==some t || (match f with | .h l' _ _=>l'==l|_=>false)) ks=some F1)
    (h:∀ g cap,Nx w0 ok0 N (.s t (.is (.slice (some ⟨g,0,none⟩) rows.length cap)) :: .h l g (HP.own E sz cap rows.length rows.flatten) :: F1) K):Nx w0 ok0 N F K:=fun a W hS=>by
  have hm:=List.mem_of_getElem? hk
  obtain ⟨ok,h1,h2,h3⟩:=hS.ex
  have ho:Owns _ _ _ _ _ _ _:=h3 _ hm
  obtain ⟨g,cap,ev⟩:∃ g cap,a.tmps.getD t undef = .slice (some ⟨g,0,none⟩) rows.length cap:=by
    rcases ho.row.2 with ⟨e,e0⟩|⟨g,cap,cur,e,_⟩
    · exact absurd (List.length_eq_zero_iff.1 e0) hne
    · exact ⟨g,cap,e⟩
  have hrow:=ho.row
  rw [ev] at hrow
  obtain ⟨hB,ob,b1,b2⟩:=HP.own_of ok hrow
  have hng:¬ ok g:=ho.fr g (by rw [ev];rfl)
  have hbl:blk (a.tmps.getD t undef)=some g:=by rw [ev];rfl
  have hF:∀ f∈F1,f∈F∧f.box≠some t∧∀ l' g',f.lab=some (l',g')→l'≠l:=fun f hf=>by
    obtain ⟨h4,h5⟩:=pickB_mem hp f hf
    rw [Bool.or_eq_false_iff] at h5
    refine ⟨h4,fun e=>by rw [e] at h5;simp at h5,fun l' g' e=>?_⟩
    cases f<;>simp [Fact.lab] at e
    obtain ⟨rfl,rfl⟩:=e
    simpa using h5.2
  refine h g cap a W ⟨hS.hb,hS.h0,hS.hd,hS.hn,⟨ok,h1,h2,fun f hf=>?_⟩,fun f f' t1 t2 hf hf' e e'=>?_,fun f f' l1 g1 t1 hf hf' e e'=>?_,fun f f' l1 g1 l2 g2 hf hf' e e'=>?_⟩
  · rcases List.mem_cons.1 hf with rfl|hf
    · exact ev
    rcases List.mem_cons.1 hf with rfl|hf
    · exact ⟨ob,b1,hng,hB,b2⟩
    · exact h3 f (hF f hf).1
  · rcases List.mem_cons.1 hf with rfl|hf
    · cases e
    rcases List.mem_cons.1 hf with rfl|hf
    · cases e
    rcases List.mem_cons.1 hf' with rfl|hf'
    · cases e'
    rcases List.mem_cons.1 hf' with rfl|hf'
    · cases e'
    exact hS.far f f' t1 t2 (hF f hf).1 (hF f' hf').1 e e'
  · rcases List.mem_cons.1 hf' with rfl|hf'
    · cases e'
    rcases List.mem_cons.1 hf' with rfl|hf'
    · cases e'
    rcases List.mem_cons.1 hf with rfl|hf
    · cases e
    rcases List.mem_cons.1 hf with rfl|hf
    · cases e
      have hne':t≠t1:=fun e=>(hF f' hf').2.1 (e ▸ e')
      exact hS.far _ f' t t1 hm (hF f' hf').1 rfl e' hne' g hbl
    · exact hS.farh f f' l1 g1 t1 (hF f hf).1 (hF f' hf').1 e e'
  · rcases List.mem_cons.1 hf with rfl|hf
    · cases e
    rcases List.mem_cons.1 hf' with rfl|hf'
    · cases e'
    rcases List.mem_cons.1 hf with rfl|hf
    · cases e
      rcases List.mem_cons.1 hf' with rfl|hf'
      · cases e';exact fun hn=>absurd rfl hn
      · exact fun hn he=>hS.farh f' _ l2 g2 t (hF f' hf').1 hm e' rfl (hbl.trans (congrArg some he))
    · rcases List.mem_cons.1 hf' with rfl|hf'
      · cases e'
        exact fun hn he=>hS.farh f _ l1 g1 t (hF f hf).1 hm e rfl (hbl.trans (congrArg some he.symm))
      · exact hS.farl f f' l1 g1 l2 g2 (hF f hf).1 (hF f' hf').1 e e'
end
/-! ### The steps that change the words alone, between two operations -/
section
variable {P:Program} {w0:World} {ok0:Nat→Prop} {N:Nat} {ops:Array Oper} {Q:Exit→Act→World→Prop} {F F1:List Fact} {i:Nat} {o:Oper} {r:List Oper}
theorem Go.ghost {α:Sort _} {F':α→List Fact} (h:∀ K,(∀ x,Nx w0 ok0 N (F' x) K)→Nx w0 ok0 N F K) (t:∀ x,Go P w0 ok0 N ops Q i r (F' x)):Go P w0 ok0 N ops Q i r F:=fun hr =>
  h (fun a W=>wpOps P ops Q (List.range' i r.length) a W) fun x=>t x hr
theorem Go.ownh {t:Tmp} {sz:Nat} {E:TypeId} {rows:List (List Value)} (l k:Nat) (ks:List Nat) (hk:F[k]?=some (.o t sz E rows)) (hne:rows≠[]) (hp:pickB F (fun f=>f.box==some t || (match f with | .h l' _ _=>l'==l|_=>false)) ks=some F1)
    (h:∀ g cap,Go P w0 ok0 N ops Q i r (.s t (.is (.slice (some ⟨g,0,none⟩) rows.length cap)) :: .h l g (HP.own E sz cap rows.length rows.flatten) :: F1)):Go P w0 ok0 N ops Q i r F :=
  Go.ghost (α:=Nat × Nat) (fun K hh=>Nx.ownh l k ks hk hne hp fun g cap=>hh (g,cap)) fun x=>h x.1 x.2
theorem Go.frzo {t:Tmp} {sz:Nat} {E:TypeId} {rows:List (List Value)} (k:Nat) (ks:List Nat) (hk:F[k]?=some (.o t sz E rows)) (hp:pickB F (fun f=>f.own==some t) ks=some F1)
    (h:Go P w0 ok0 N ops Q i r (.s t (.vec sz rows) :: F1)):Go P w0 ok0 N ops Q i r F :=
  Go.ghost (α:=Unit) (fun K hh=>Nx.frzo k ks hk hp (hh ())) fun _=>h
theorem Go.name {t:Tmp} {sz:Nat} {rows:List (List Value)} (k:Nat) (hk:F[k]?=some (.s t (.vec sz rows))) (h:∀ A cap,Go P w0 ok0 N ops Q i r (.s t (.is (.slice A rows.length cap)) :: .v [.slice A rows.length cap] [.vec sz rows] :: F)):Go P w0 ok0 N ops Q i r F :=
  Go.ghost (α:=Option Addr × Nat) (fun K hh=>Nx.name k hk fun A cap=>hh (A,cap)) fun x=>h x.1 x.2
end
/-! ### A mesh whose places are a row of the call's own -/
def SP.meshO (g cap n:Nat) (q1 q2:SP):SP :=
  ⟨fun ok v W=>∃ b c,v = .agg #[.slice (some ⟨g,0,none⟩) n cap,b,c]∧Args ok W [q1,q2] [b,c],fun hk ⟨b,c,e,h⟩=>⟨b,c,e,h.mono hk⟩,fun ⟨b,c,e,h⟩=>⟨b,c,e,h.bound⟩,fun ⟨b,c,e,h⟩ hm=>⟨b,c,e,h.step hm⟩⟩
section
variable {g cap n:Nat} {q1 q2:SP}
instance {sz1 sz2:Nat} {r1 r2:List (List Value)}:AggSP (SP.meshO g cap n (.vec sz1 r1) (.vec sz2 r2)) 3:=⟨fun ⟨b,c,e,h⟩=>by
  obtain ⟨A,m,e1⟩:=SP.vec_val h.1
  obtain ⟨A',m',e2⟩:=SP.vec_val h.2.1
  exact ⟨_,e,rfl,by simp [e1,e2,Value.oneCell']⟩⟩
instance:CellOf (SP.meshO g cap n q1 q2) 0 (.is (.slice (some ⟨g,0,none⟩) n cap)):=⟨fun ⟨b,c,e,h⟩=>⟨_,by cases e;rfl,rfl⟩⟩
instance:CellOf (SP.meshO g cap n q1 q2) 1 q1:=⟨fun ⟨b,c,e,h⟩=>⟨b,by cases e;rfl,h.1⟩⟩
instance:CellOf (SP.meshO g cap n q1 q2) 2 q2:=⟨fun ⟨b,c,e,h⟩=>⟨c,by cases e;rfl,h.2.1⟩⟩
end
section
variable {w0:World} {ok0:Nat→Prop} {N:Nat} {F:List Fact} {K:Act→World→Prop}
end
section
variable {P:Program} {w0:World} {ok0:Nat→Prop} {N:Nat} {ops:Array Oper} {Q:Exit→Act→World→Prop} {F F1:List Fact} {i:Nat} {r:List Oper}
end
end Go.Proofs.YtkgagdjogedoiaaGreat.Fx

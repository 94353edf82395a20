/- A mesh without bad edges: the law of sight. -/
import Derived.Test.YtkgagdjogedoiaaGreatDs5
import Derived.Test.YtkgagdjogedoiaaGreatDp9
import Derived.Test.YtkgagdjogedoiaaGreatSx1
set_option linter.unusedVariables false
set_option linter.unusedSimpArgs false
namespace Go.Proofs.YtkgagdjogedoiaaGreat
def FitP (P:List (Int × Int)):Prop:=∀ p∈P,fit p.1 p.2
def VP (P:List (Int × Int)) (v:Int):Prop:=0≤v∧v < P.length
section
variable {P:List (Int × Int)} {T T':List (Int × Int × Int)} {S:List (Int × Int)} {a b c d:Int}
theorem FitP.at (h:FitP P) (i:Int):fit (atP P i).1 (atP P i).2:=by
 unfold atP
 cases e:P[i.toNat]? with
 | none=>exact ⟨by decide,by decide,by decide,by decide⟩
 | some p=>exact h p (List.mem_of_getElem? e)
theorem FitP.o (h:FitP P) (a b c:Int):oP P a b c=sgn (ar (atP P a) (atP P b) (atP P c)):=by
 unfold oP oriZ
 rw [if_pos ⟨h.at a,h.at b,h.at c⟩]
 rfl
theorem sgn_one {z:Int}:sgn z=1↔0 < z:=by rcases sgn_cases z with ⟨e,h⟩|⟨e,h⟩|⟨e,h⟩<;>rw [e]<;>omega
theorem FitP.pos (h:FitP P) {a b c:Int}:oP P a b c=1↔0 < ar (atP P a) (atP P b) (atP P c):=by rw [h.o];exact sgn_one
theorem inc_one (h:FitP P) {a b c d:Int} (ho:oP P a b c=1):incZ (atP P a).1 (atP P a).2 (atP P b).1 (atP P b).2 (atP P c).1 (atP P c).2 (atP P d).1 (atP P d).2=1↔0 < inc (atP P a) (atP P b) (atP P c) (atP P d):=by
 have e:allZ (atP P a).1 (atP P a).2 (atP P b).1 (atP P b).2 (atP P c).1 (atP P c).2 (atP P d).1 (atP P d).2=inc (atP P a) (atP P b) (atP P c) (atP P d):=all_inc _ _ _ _
 unfold incZ
 rw [if_pos ⟨h.at a,h.at b,h.at c,h.at d⟩,e]
 have h1:sgn (areaZ (atP P a).1 (atP P a).2 (atP P b).1 (atP P b).2 (atP P c).1 (atP P c).2)=1:=sgn_one.2 (h.pos.1 ho)
 rw [h1,Int.mul_one]
 exact sgn_one
variable (P T S)
def badP (a b:Int):Prop:=freeP T S a b∧incZ (atP P a).1 (atP P a).2 (atP P b).1 (atP P b).2 (atP P (acC T a b)).1 (atP P (acC T a b)).2 (atP P (acD T a b)).1 (atP P (acD T a b)).2=1
def mayP (a b:Int):Prop:=freeP T S a b∧convP (oP P) a (acD T a b) b (acC T a b)
def hitN (a b:Nat):Prop:=a < b∧b < P.length∧badP P T S a b
open Classical in
noncomputable def nextR:Option (Nat × Nat):=if MeshOK P.length (oP P) T S then fst2 (hitN P T S) else none
open Classical in
noncomputable def delN (P:List (Int × Int)) (S:List (Int × Int)):Nat→List (Int × Int × Int)→Int→Option (List (Int × Int × Int)) × Int × Int
 | 0,_,_=>(none,0,0)
 | k+1,T,m=>match nextR P T S with
  | none=>(some T,m,0)
  | some s=>if mayP P T S s.1 s.2 then delN P S k (flipT P.length (oP P) T s.1 s.2) (Go.IntKind.i64.wrap (m+1)) else (none,0,130)
variable {P T S}
theorem next_some {s:Nat × Nat} (h:nextR P T S=some s):MeshOK P.length (oP P) T S∧hitN P T S s.1 s.2:=by
 unfold nextR at h
 split at h
 ·rename_i M
  refine ⟨M,Classical.byContradiction fun hn=>?_⟩
  by_cases hh:∃ i k,hitN P T S i k∧(∀ j,j < i→∀ m,¬ hitN P T S j m)∧∀ m,m < k→¬ hitN P T S i m
  ·obtain ⟨i,k,h1,h2,h3⟩:=hh
   rw [fst2_some h1 h2 h3] at h
   cases h
   exact hn h1
  ·have:∀ i k,¬ hitN P T S i k:=by
    intro i
    induction i using Nat.strongRecOn with
    | ind i ih =>
     intro k
     induction k using Nat.strongRecOn with
     | ind k ih2=>exact fun hk=>hh ⟨i,k,hk,ih,ih2⟩
   rw [fst2_none this] at h
   cases h
 ·cases h
theorem next_none (M:MeshOK P.length (oP P) T S) (h:nextR P T S=none):∀ i k,¬ hitN P T S i k:=by
 unfold nextR at h
 rw [if_pos M] at h
 exact fst2_no h
/-! ### One flip -/
theorem flip_step (hf:FitP P) (M:MeshOK P.length (oP P) T S) (h:badP P T S a b) (hm:mayP P T S a b) :
  MeshOK P.length (oP P) (flipT P.length (oP P) T a b) S∧phi (atP P) (flipT P.length (oP P) T a b) < phi (atP P) T∧(flipT P.length (oP P) T a b).length=T.length∧(Kept (atP P) (VP P) T→Kept (atP P) (VP P) (flipT P.length (oP P) T a b)):=by
 obtain ⟨⟨hb,hh,hj⟩,hi⟩:=h
 have hO:=oP_ori P
 obtain ⟨F,e,hs⟩:=flip_is hO M hb hm.2 hj
 have hj':(acC T a b,acD T a b) ∉ edgs T∧(acD T a b,acC T a b) ∉ edgs T:=⟨left_none.1 (by unfold joinP at hj;omega),left_none.1 (by unfold joinP at hj;omega)⟩
 have M':=F.ok hO M hj' hh e hs
 obtain ⟨c1,c2,c3,c4⟩:=hm.2
 refine ⟨M',?_,?_,fun k=>?_⟩
 ·rw [F.phi (atP P)]
  have:=(inc_one hf c3).1 hi
  omega
 ·rw [F.old.length_eq,F.new.length_eq];rfl
 ·have ms:F.s∈T:=F.old.mem_iff.2 (List.mem_cons_self ..)
  have mt:F.t∈T:=F.old.mem_iff.2 (List.mem_cons_of_mem _ (List.mem_cons_self ..))
  refine k.flip (is3_tr F.hs ms) (is3_tr F.ht mt) (hf.pos.1 c2) ?_ (F.tr M)
  have:=hf.pos.1 c4
  rw [ar_cyc]
  have:=ar_cyc (atP P (acD T a b)) (atP P b) (atP P (acC T a b))
  have:=ar_cyc (atP P b) (atP P (acC T a b)) (atP P (acD T a b))
  omega
theorem phi_ok (hf:FitP P) (M:MeshOK P.length (oP P) T S):0≤phi (atP P) T:=phi_nonneg fun t ht=>hf.pos.1 (M.tri t ht).2.2.2.2
theorem del_spec (hf:FitP P):∀ (k:Nat) (T:List (Int × Int × Int)) (m:Int) (T':List (Int × Int × Int)) (m' e':Int),MeshOK P.length (oP P) T S→Kept (atP P) (VP P) T→delN P S k T m=(some T',m',e')→MeshOK P.length (oP P) T' S∧Kept (atP P) (VP P) T'∧nextR P T' S=none∧T'.length=T.length
 | 0,T,m,T',m',e',M,K,h=>by unfold delN at h;cases h
 | k+1,T,m,T',m',e',M,K,h=>by
  unfold delN at h
  split at h
  ·rename_i hn
   cases h
   exact ⟨M,K,hn,rfl⟩
  ·rename_i s hn
   obtain ⟨_,h1,h2,h3⟩:=next_some hn
   split at h
   ·rename_i hm
    obtain ⟨f1,f2,f3,f4⟩:=flip_step hf M h3 hm
    have:=del_spec hf k _ _ _ _ _ f1 (f4 K) h
    rw [f3] at this
    exact this
   ·cases h
/-! ### No bad edge: the law of sight -/
theorem tr3_is {T:List (Int × Int × Int)} {a b c:Int} (h:Tr3 T a b c):∃ t∈T,is3 t a b c:=by
 rcases h with h|h|h
 ·exact ⟨_,h,.inl rfl⟩
 ·exact ⟨_,h,.inr (.inl rfl)⟩
 ·exact ⟨_,h,.inr (.inr rfl)⟩
theorem one_tri (M:MeshOK P.length (oP P) T S) {s t:Int × Int × Int} (hs:s∈T) (ht:t∈T) {e:Int × Int} (h1:e∈edg s) (h2:e∈edg t):s=t:=by
 obtain ⟨i,hi,e1⟩:=List.getElem_of_mem hs
 obtain ⟨k,hk,e2⟩:=List.getElem_of_mem ht
 have l1:=left_of M.once (show T[i]?=some s by rw [List.getElem?_eq_getElem hi,e1]) h1
 have l2:=left_of M.once (show T[k]?=some t by rw [List.getElem?_eq_getElem hk,e2]) h2
 have:i=k:=by omega
 subst this
 rw [← e1,← e2]
theorem tr3_edg {T:List (Int × Int × Int)} {a b c:Int} (h:Tr3 T a b c):(a,b)∈edgs T:=mem_sd.2 ⟨c,h⟩
theorem left_ge {T:List (Int × Int × Int)} {a b:Int}:(a,b)∈edgs T↔0≤leftR T a b:=by
 constructor
 ·intro h
  rcases Int.lt_or_le (leftR T a b) 0 with h'|h'
  ·exact absurd h (left_none.1 h')
  ·exact h'
 ·intro h
  exact Classical.byContradiction fun hn=>by have:=left_none.2 hn;omega
theorem ac_is (M:MeshOK P.length (oP P) T S) (h1:Tr3 T a b c) (h2:Tr3 T b a d):acC T a b=c∧acD T a b=d:=by
 obtain ⟨s,hs,i1⟩:=tr3_is h1
 obtain ⟨t,ht,i2⟩:=tr3_is h2
 obtain ⟨s',t',hs',ht',_,_,j1,j2,_,_⟩:=across_tri (oP_ori P) M ⟨left_ge.1 (tr3_edg h1),left_ge.1 (tr3_edg h2)⟩
 have es:=one_tri M hs hs' ((is3_edg i1 (e:=(a,b))).2 (.inl rfl)) ((is3_edg j1).2 (.inl rfl))
 have et:=one_tri M ht ht' ((is3_edg i2 (e:=(b,a))).2 (.inl rfl)) ((is3_edg j2).2 (.inl rfl))
 subst es et
 have a1:=(oP_ori P).apart (show oP P a b c≠0 by rw [is3_o (oP_ori P) i1 (M.tri _ hs)];decide)
 have r1:=is3_rot i1 j1
 have r2:=is3_rot i2 j2
 unfold isRot at r1 r2
 omega
theorem geo (hf:FitP P) (M:MeshOK P.length (oP P) T S) (K:Kept (atP P) (VP P) T) (hn:nextR P T S=none):Geo (atP P) (VP P) T (hasP S):=by
 have hno:=next_none M hn
 refine ⟨K.num,K.pos,K.emp,fun {a b c} h=>?_,fun {a b c d} h1 h2=>?_⟩
 ·rcases M.rim (a,b) (tr3_edg h) with h'|h'
  ·obtain ⟨d,hd⟩:=mem_sd.1 (show (b,a)∈edgs T from h')
   exact .inr ⟨d,hd⟩
  ·left
   unfold nrm at h'
   unfold hasP
   rcases Int.le_total a b with hh|hh
   ·left;rwa [Int.min_eq_left hh,Int.max_eq_right hh] at h'
   ·right;rwa [Int.min_eq_right hh,Int.max_eq_left hh] at h'
 ·refine Classical.byContradiction fun hc=>?_
  rw [not_or] at hc
  obtain ⟨nC,ni⟩:=hc
  have ni:0 < inc (atP P a) (atP P b) (atP P c) (atP P d):=by omega
  obtain ⟨va,vb,vc⟩:=K.num h1
  have p1:=K.pos h1
  have p2:=K.pos h2
  have hd:ar (atP P a) (atP P b) (atP P d) < 0:=by rw [ar_flip] at p2;omega
  obtain ⟨cr,_,_⟩:=inc_cross p1 hd ni
  have nj:¬ joinP T c d:=fun hj=>by
   rcases hj with hj|hj
   ·obtain ⟨z,hz⟩:=mem_sd.1 (left_ge.2 hj)
    exact K.non h1 hz cr
   ·obtain ⟨z,hz⟩:=mem_sd.1 (left_ge.2 hj)
    exact K.non h1 hz (cross_flip2 cr)
  have ab:a≠b:=fun e=>by rw [e,show ar (atP P b) (atP P b) (atP P c)=0 by unfold ar areaZ;grind] at p1;omega
  have both':both T a b:=⟨left_ge.1 (tr3_edg h1),left_ge.1 (tr3_edg h2)⟩
  rcases Int.lt_or_le a b with hab|hab
  ·obtain ⟨e1,e2⟩:=ac_is M h1 h2
   obtain ⟨i,rfl⟩:=Int.eq_ofNat_of_zero_le va.1
   obtain ⟨k,rfl⟩:=Int.eq_ofNat_of_zero_le vb.1
   refine hno i k ⟨by omega,by have:=vb.2;omega,⟨⟨both',nC,by rw [e1,e2];exact nj⟩,?_⟩⟩
   rw [e1,e2,inc_one hf (hf.pos.2 p1)]
   exact ni
  ·obtain ⟨e1,e2⟩:=ac_is M h2 h1
   obtain ⟨i,rfl⟩:=Int.eq_ofNat_of_zero_le va.1
   obtain ⟨k,rfl⟩:=Int.eq_ofNat_of_zero_le vb.1
   refine hno k i ⟨by omega,by have:=va.2;omega,⟨⟨⟨both'.2,both'.1⟩,fun h=>nC h.symm,by rw [e1,e2];exact fun h=>nj h.symm⟩,?_⟩⟩
   rw [e1,e2,inc_one hf (hf.pos.2 p2),inc_swap]
   exact ni
theorem tie_bound (g:Int→Int):∀ n:Nat,∃ M:Int,∀ v:Int,0≤v→v < n → -M≤g v∧g v≤M
 | 0=>⟨0,fun v h1 h2=>by omega⟩
 | n+1=>by
  obtain ⟨M,hM⟩:=tie_bound g n
  refine ⟨max M (max (g n) (-(g n))),fun v h1 h2=>?_⟩
  by_cases e:v=n
  ·subst e;omega
  ·have:=hM v h1 (by omega)
   omega
theorem segs_meet {m t c d:Pt} (h1:0≤ar m t c) (h2:ar m t d≤0) (h3:ar c d m≤0) (h4:0 < ar c d t):metR m.1 m.2 t.1 t.2 c.1 c.2 d.1 d.2≠(0,0)∧metR m.1 m.2 t.1 t.2 d.1 d.2 c.1 c.2≠(0,0):=by
 have s:=line_sum m t c d
 have e1:areaZ m.1 m.2 t.1 t.2 c.1 c.2=ar m t c:=rfl
 have e2:areaZ m.1 m.2 t.1 t.2 d.1 d.2=ar m t d:=rfl
 have e3:areaZ c.1 c.2 d.1 d.2 m.1 m.2=ar c d m:=rfl
 have e4:areaZ c.1 c.2 d.1 d.2 t.1 t.2=ar c d t:=rfl
 have e5:areaZ d.1 d.2 c.1 c.2 m.1 m.2 = -ar c d m:=ar_flip c d m
 have e6:areaZ d.1 d.2 c.1 c.2 t.1 t.2 = -ar c d t:=ar_flip c d t
 have z:∀ x:Int,sgn x=0↔x=0:=fun x=>sgn_eq
 have key:∀ x y:Int,0≤x→y≤0→¬ (x=0∧y=0)→sgn x≠sgn y:=fun x y h1 h2 h3 h=>by
  rcases sgn_cases x with ⟨e,hx⟩|⟨e,hx⟩|⟨e,hx⟩<;>rcases sgn_cases y with ⟨f,hy⟩|⟨f,hy⟩|⟨f,hy⟩<;>rw [e,f] at h<;>omega
 have nz:¬ (ar m t c=0∧ar m t d=0):=fun h=>by omega
 constructor
 ·unfold metR
  split
  ·simp
  ·unfold segZ
   rw [e1,e2,e3,e4,if_neg (fun h=>nz ⟨(z _).1 h.1,(z _).1 h.2⟩)]
   split
   ·simp
   split
   ·simp
   rw [if_pos ⟨key _ _ h1 h2 nz,fun h=>key _ _ (Int.le_of_lt h4) h3 (by omega) h.symm⟩]
   simp
 ·unfold metR
  split
  ·simp
  ·unfold segZ
   rw [e1,e2,e5,e6,if_neg (fun h=>nz ⟨(z _).1 h.2,(z _).1 h.1⟩)]
   split
   ·simp
   split
   ·simp
   rw [if_pos ⟨fun h=>key _ _ h1 h2 nz h.symm,fun h=>key (-ar c d m) (-ar c d t) (by omega) (by omega) (by omega) h⟩]
   simp
def dbl (p:Pt):Pt:=(2 * p.1,2 * p.2)
def sum2 (p q:Pt):Pt:=(p.1+q.1,p.2+q.2)
theorem mq_ar (a b q v:Pt):ar (sum2 a b) (dbl q) (dbl v)=2 * mq a b q v:=by unfold ar areaZ sum2 dbl mq;grind
theorem mq_ar2 (a b u w:Pt):ar (dbl u) (dbl w) (sum2 a b) = -(2 * mid2 a b w u):=by unfold ar areaZ sum2 dbl mid2;grind
theorem dbl_ar (u w q:Pt):ar (dbl u) (dbl w) (dbl q)=4 * ar u w q:=by unfold ar areaZ dbl;grind
def seenP (P:List (Int × Int)) (a b q:Int) (o:Int × Int):Prop:=metR (sum2 (atP P a) (atP P b)).1 (sum2 (atP P a) (atP P b)).2 (dbl (atP P q)).1 (dbl (atP P q)).2 (dbl (atP P o.1)).1 (dbl (atP P o.1)).2 (dbl (atP P o.2)).1 (dbl (atP P o.2)).2=(0,0)
def seesP (P:List (Int × Int)) (S:List (Int × Int)) (s:Int × Int) (q:Int):Prop:=∀ o∈S,o=s∨o.1=q∨o.2=q∨seenP P s.1 s.2 q o
theorem sight_one (hf:FitP P) (M:MeshOK P.length (oP P) T S) (K:Kept (atP P) (VP P) T) (hn:nextR P T S=none) (hd:∀ i k,VP P i→VP P k→i≠k→atP P i≠atP P k)
  {A B c q:Int} (hq:VP P q) (ht:Tr3 T A B c) (h1:0 < ar (atP P A) (atP P B) (atP P q)) (h2:fd (atP P A) (atP P B) (atP P q)≤0) (h3:0 < fd (atP P A) (atP P B) (atP P c))
  (hs:∀ o∈S,o=(A,B)∨o=(B,A)∨o.1=q∨o.2=q∨seenP P A B q o):False:=by
 obtain ⟨Mx,hMx⟩:=tie_bound (fun v=>tie (atP P A) (atP P B) (atP P q) (atP P v)) P.length
 refine no_sight (geo hf M K hn) hq (fun v hv=>hMx v hv.1 hv.2) ht h1 h2 h3 (fun v hv hne=>hd v q hv hq hne) (fun u w hC hu hw n1 n2 nu nw k1 k2 k3 k4=>?_)
 have m1:=mq_ar (atP P A) (atP P B) (atP P q) (atP P u)
 have m2:=mq_ar (atP P A) (atP P B) (atP P q) (atP P w)
 have m3:=mq_ar2 (atP P A) (atP P B) (atP P u) (atP P w)
 have m4:=dbl_ar (atP P u) (atP P w) (atP P q)
 obtain ⟨x1,x2⟩:=segs_meet (m:=sum2 (atP P A) (atP P B)) (t:=dbl (atP P q)) (c:=dbl (atP P u)) (d:=dbl (atP P w)) (by omega) (by omega) (by omega) (by omega)
 rcases hC with hC|hC
 ·rcases hs _ hC with h|h|h|h|h
  ·simp only [Prod.mk.injEq] at h;exact n2 ⟨h.2,h.1⟩
  ·simp only [Prod.mk.injEq] at h;exact n1 ⟨h.2,h.1⟩
  ·exact nw h
  ·exact nu h
  ·exact x2 h
 ·rcases hs _ hC with h|h|h|h|h
  ·simp only [Prod.mk.injEq] at h;exact n1 h
  ·simp only [Prod.mk.injEq] at h;exact n2 h
  ·exact nu h
  ·exact nw h
  ·exact x1 h
theorem fd_comm (a b p:Pt):fd b a p=fd a b p:=by unfold fd;grind
theorem crw_no (M:MeshOK P.length (oP P) T S) {s:Int × Int} (h:crw P T s=[]) {c:Int} (ht:Tr3 T s.1 s.2 c∨Tr3 T s.2 s.1 c):dP P s.1 s.2 c=false:=by
 have hm:c∈crwAll T s.1 s.2:=by
  have key:∀ t∈T,is3 t s.1 s.2 c∨is3 t s.2 s.1 c→c∈crwAll T s.1 s.2:=fun t hT hi=>by
   unfold crwAll
   refine List.mem_filterMap.2 ⟨t,hT,?_⟩
   have hap:=(M.tri t hT).apart (oP_ori P)
   have he:(s.1,s.2)∈edg t∨(s.2,s.1)∈edg t:=hi.imp (fun h=>(is3_edg h).2 (.inl rfl)) (fun h=>(is3_edg h).2 (.inl rfl))
   rw [third_some hap he]
   congr 1
   rcases hi with (e|e|e)|(e|e|e)<;>rw [e]<;>simp only<;>omega
  rcases ht with ht|ht
  ·obtain ⟨t,hT,hi⟩:=tr3_is ht
   exact key t hT (.inl hi)
  ·obtain ⟨t,hT,hi⟩:=tr3_is ht
   exact key t hT (.inr hi)
 refine Bool.eq_false_iff.2 fun hd=>?_
 have hf:c∈(crwAll T s.1 s.2).filter (dP P s.1 s.2):=List.mem_filter.2 ⟨hm,hd⟩
 have hl:∀ l:List Int,sort2 l=[]→l=[]:=fun l hl=>by
  unfold sort2 at hl
  split at hl
  ·split at hl<;>cases hl
  ·exact hl
 rw [hl _ h] at hf
 cases hf
theorem dis_iff (hf:FitP P) {a b c:Int} (hne:atP P c≠atP P a∧atP P c≠atP P b):dP P a b c=true↔fd (atP P a) (atP P b) (atP P c)≤0:=by
 have hs:∀ x y:Pt,x≠y→same x.1 x.2 y.1 y.2=false:=fun x y h=>by
  unfold same
  refine Bool.eq_false_iff.2 fun h'=>h ?_
  simp only [Bool.and_eq_true,beq_iff_eq] at h'
  exact Prod.ext h'.1 h'.2
 unfold dP disB
 rw [if_neg (by rw [hs _ _ hne.1,hs _ _ hne.2];simp;exact ⟨hf.at a,hf.at b,hf.at c⟩),decide_eq_true_eq,sgn_le]
 exact Iff.rfl
theorem sight (hf:FitP P) (M:MeshOK P.length (oP P) T S) (K:Kept (atP P) (VP P) T) (hn:nextR P T S=none) (hd:∀ i k,VP P i→VP P k→i≠k→atP P i≠atP P k)
  {s:Int × Int} {q:Int} (hs:s∈S) (hq:VP P q) (h1:dP P s.1 s.2 q=true) (h2:(oP P s.1 s.2 q > 0∧leftR T s.1 s.2 ≥ 0)∨(oP P s.1 s.2 q < 0∧leftR T s.2 s.1 ≥ 0)) (h3:seesP P S s q):crw P T s≠[]:=by
 intro hc
 have side:∀ {x y c:Int},Tr3 T x y c→atP P c≠atP P x∧atP P c≠atP P y:=fun {x y c} h=>by
  have:=K.pos h
  refine ⟨fun e=>?_,fun e=>?_⟩
  ·rw [e,ar_aba] at this;omega
  ·rw [e,ar_aab] at this;omega
 have sg:=sgn_cases (ar (atP P s.1) (atP P s.2) (atP P q))
 rw [hf.o] at h2
 have hne:atP P q≠atP P s.1∧atP P q≠atP P s.2:=by
  refine ⟨fun e=>?_,fun e=>?_⟩
  ·rw [e,ar_aba] at h2;rcases h2 with h|h<;>exact absurd h.1 (by decide)
  ·rw [e,ar_aab] at h2;rcases h2 with h|h<;>exact absurd h.1 (by decide)
 have hdq:=(dis_iff hf hne).1 h1
 rcases h2 with ⟨ho,hl⟩|⟨ho,hl⟩
 ·obtain ⟨c,ht⟩:=mem_sd.1 (left_ge.2 hl)
  have hdc:=crw_no M hc (.inl ht)
  have:¬ fd (atP P s.1) (atP P s.2) (atP P c)≤0:=fun h=>by rw [(dis_iff hf (side ht)).2 h] at hdc;cases hdc
  refine sight_one hf M K hn hd hq ht (by omega) hdq (by omega) (fun o ho=>?_)
  rcases h3 o ho with h|h|h|h
  ·exact .inl h
  ·exact .inr (.inr (.inl h))
  ·exact .inr (.inr (.inr (.inl h)))
  ·exact .inr (.inr (.inr (.inr h)))
 ·obtain ⟨c,ht⟩:=mem_sd.1 (left_ge.2 hl)
  have hdc:=crw_no M hc (.inr ht)
  have:¬ fd (atP P s.1) (atP P s.2) (atP P c)≤0:=fun h=>by rw [(dis_iff hf (side ht).symm).2 h] at hdc;cases hdc
  refine sight_one hf M K hn hd hq ht (by rw [ar_flip];omega) (by rw [fd_comm];exact hdq) (by rw [fd_comm];omega) (fun o ho=>?_)
  rcases h3 o ho with h|h|h|h
  ·exact .inr (.inl h)
  ·exact .inr (.inr (.inl h))
  ·exact .inr (.inr (.inr (.inl h)))
  ·refine .inr (.inr (.inr (.inr ?_)))
   unfold seenP at h ⊢
   have e:sum2 (atP P s.2) (atP P s.1)=sum2 (atP P s.1) (atP P s.2):=by unfold sum2;simp only [Prod.mk.injEq];omega
   rw [e]
   exact h
end
end Go.Proofs.YtkgagdjogedoiaaGreat

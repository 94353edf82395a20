import Derived.IntWalk
set_option linter.unusedVariables false
set_option linter.unusedSimpArgs false
namespace Go.Proofs.YtkgagdjogedoiaaGreat
theorem take_succ' {α:Type} {l:List α} {k:Nat} {x:α} (h:l[k]?=some x):l.take (k+1)=l.take k++[x]:=by
 rw [List.take_add_one,h];rfl
def firstFrom (p:Nat→Bool):Nat→Nat→Int
 | _,0 => -1
 | k,n+1=>if p k then k else firstFrom p (k+1) n
theorem first_at {p:Nat→Bool}:∀ {n i k:Nat},(∀ j,i≤j→j < k→p j=false)→p k=true→i≤k→k < i+n→firstFrom p i n=k
 | 0,i,k,_,_,h1,h2=>by omega
 | n+1,i,k,h,hk,h1,h2=>by
  unfold firstFrom
  by_cases e:i=k
  ·subst e;rw [if_pos hk]
  ·rw [if_neg (by rw [h i (Nat.le_refl _) (by omega)];decide)]
   exact first_at (fun j hj1 hj2=>h j (by omega) hj2) hk (by omega) (by omega)
theorem first_none {p:Nat→Bool}:∀ {n i:Nat},(∀ j,i≤j→j < i+n→p j=false)→firstFrom p i n = -1
 | 0,i,_=>rfl
 | n+1,i,h=>by
  unfold firstFrom
  rw [if_neg (by rw [h i (Nat.le_refl _) (by omega)];decide)]
  exact first_none fun j hj1 hj2=>h j (by omega) (by omega)
theorem none_succ {p:Nat→Bool} {k:Nat} (h:∀ j,0≤j→j < k→p j=false) (hk:p k=false):∀ j,0≤j→j < k+1→p j=false:=fun j h0 hj=>by
 by_cases e:j=k
 ·rw [e];exact hk
 ·exact h j h0 (by omega)
def nrm (s:Int × Int):Int × Int:=(min s.1 s.2,max s.1 s.2)
theorem three (p q:Prop):p∨(¬ p∧q)∨(¬ p∧¬ q):=by
 rcases Classical.em p with h|h
 ·exact .inl h
 ·rcases Classical.em q with h2|h2
  ·exact .inr (.inl ⟨h,h2⟩)
  ·exact .inr (.inr ⟨h,h2⟩)
/-! ### Rows against each other -/
theorem take_same {α:Type} {l m:List α} {k:Nat} {x y:α} (h:l.take k=m.take k) (h1:l[k]?=some x) (h2:m[k]?=some y) (e:x=y):l.take (k+1)=m.take (k+1):=by
 rw [take_succ' h1,take_succ' h2,h,e]
theorem at_apart {α:Type} {l m:List α} {k:Nat} {x y:α} (h1:l[k]?=some x) (h2:m[k]?=some y) (e:x≠y):l≠m:=fun h=>by
 subst h
 rw [h1] at h2
 cases h2
 exact e rfl
theorem take_whole {α:Type} {l m:List α} (hl:l.length=m.length) (h:l.take l.length=m.take l.length):l=m:=by
 rw [List.take_length,hl,List.take_length] at h
 exact h
end Go.Proofs.YtkgagdjogedoiaaGreat

set_option linter.unusedVariables false
set_option linter.unusedSimpArgs false
namespace Go.Proofs.YtkgagdjogedoiaaGreat
def edg (t:Int × Int × Int):List (Int × Int):=[(t.1,t.2.1),(t.2.1,t.2.2),(t.2.2,t.1)]
def edgs (T:List (Int × Int × Int)):List (Int × Int):=T.flatMap edg
def rv (s:Int × Int):Int × Int:=(s.2,s.1)
def ltS (s t:Int × Int):Prop:=s.1 < t.1∨(s.1=t.1∧s.2 < t.2)
def ltT (s t:Int × Int × Int):Prop:=s.1 < t.1∨(s.1=t.1∧(s.2.1 < t.2.1∨(s.2.1=t.2.1∧s.2.2 < t.2.2)))
instance (s t:Int × Int):Decidable (ltS s t):=by unfold ltS;infer_instance
instance (s t:Int × Int × Int):Decidable (ltT s t):=by unfold ltT;infer_instance
structure Ori (o:Int→Int→Int→Int):Prop where
 cyc:∀ a b c,o b c a=o a b c
 swp:∀ a b c,o a c b = -(o a b c)
 one:∀ a b c,o a b c = -1∨o a b c=0∨o a b c=1
section
variable {o:Int→Int→Int→Int}
theorem Ori.apart (h:Ori o) {a b c:Int} (hn:o a b c≠0):a≠b∧b≠c∧c≠a:=by
 refine ⟨?_,?_,?_⟩
 ·rintro rfl
  have h1:=h.cyc a a c
  have h2:=h.swp a a c
  omega
 ·rintro rfl
  have h1:=h.swp a b b
  omega
 ·rintro rfl
  have h1:=h.cyc c b c
  have h2:=h.swp b c c
  omega
def rot1 (t:Int × Int × Int):Int × Int × Int:=if t.1 > t.2.1∨t.1 > t.2.2 then (t.2.1,t.2.2,t.1) else t
def triR (n:Nat) (o:Int→Int→Int→Int) (a b c:Int):(Int × Int × Int) × Bool :=
 if (0≤a∧a < n)∧(0≤b∧b < n)∧(0≤c∧c < n)∧o a b c≠0 then (rot1 (rot1 (if o a b c = -1 then (a,c,b) else (a,b,c))),true) else ((0,0,0),false)
def least (t:Int × Int × Int):Prop:=t.1 < t.2.1∧t.1 < t.2.2
theorem rot1_least {t:Int × Int × Int} (h:least t):rot1 t=t:=by
 unfold rot1 least at *
 rw [if_neg (by omega)]
theorem rot_two {a b c:Int} (h1:a≠b) (h2:b≠c) (h3:c≠a):least (rot1 (rot1 (a,b,c))):=by
 have e1:rot1 (a,b,c)=if a > b∨a > c then (b,c,a) else (a,b,c):=rfl
 rw [e1]
 split
 ·have e2:rot1 (b,c,a)=if b > c∨b > a then (c,a,b) else (b,c,a):=rfl
  rw [e2]
  split<;>(unfold least;simp only;omega)
 ·rw [rot1_least (by unfold least;simp only;omega)]
  unfold least
  simp only
  omega
theorem rot1_o (h:Ori o) (t:Int × Int × Int):o (rot1 t).1 (rot1 t).2.1 (rot1 t).2.2=o t.1 t.2.1 t.2.2:=by
 unfold rot1
 split
 ·exact h.cyc _ _ _
 ·rfl
theorem triR_o (h:Ori o) {n:Nat} {a b c:Int} {t:Int × Int × Int} (e:triR n o a b c=(t,true)):o t.1 t.2.1 t.2.2=1∧least t:=by
 unfold triR at e
 split at e
 ·rename_i hc
  obtain ⟨_,_,_,hn⟩:=hc
  obtain ⟨a1,a2,a3⟩:=h.apart hn
  simp only [Prod.mk.injEq,and_true] at e
  subst e
  constructor
  ·rw [rot1_o h,rot1_o h]
   have h1:=h.one a b c
   have h2:=h.swp a b c
   split
   ·simp only;omega
   ·simp only;omega
  ·split
   ·exact rot_two (fun e=>a3 e.symm) (fun e=>a2 e.symm) (fun e=>a1 e.symm)
   ·exact rot_two a1 a2 a3
 ·cases e
def goodT (n:Nat) (o:Int→Int→Int→Int) (t:Int × Int × Int):Prop:=(0≤t.1∧t.1 < n)∧(0≤t.2.1∧t.2.1 < n)∧(0≤t.2.2∧t.2.2 < n)∧least t∧o t.1 t.2.1 t.2.2=1
theorem goodT_iff (h:Ori o) {n:Nat} {t:Int × Int × Int}:triR n o t.1 t.2.1 t.2.2=(t,true)↔goodT n o t:=by
 constructor
 ·intro e
  obtain ⟨h1,h2⟩:=triR_o h e
  unfold triR at e
  split at e
  ·rename_i hc
   exact ⟨hc.1,hc.2.1,hc.2.2.1,h2,h1⟩
  ·cases e
 ·rintro ⟨h1,h2,h3,h4,h5⟩
  unfold triR
  rw [if_pos ⟨h1,h2,h3,by omega⟩,if_neg (by omega)]
  show (rot1 (rot1 t),true)=_
  rw [rot1_least h4,rot1_least h4]
end
structure MeshOK (n:Nat) (o:Int→Int→Int→Int) (T:List (Int × Int × Int)) (S:List (Int × Int)):Prop where
 tri:∀ t∈T,goodT n o t
 ris:∀ i s t,T[i]?=some s→T[i+1]?=some t→ltT s t
 once:(edgs T).Nodup
 rim:∀ e∈edgs T,rv e∈edgs T∨nrm e∈S
 seg:∀ s∈S,s.1 < s.2∧(s∈edgs T∨rv s∈edgs T)
 segs:∀ i s t,S[i]?=some s→S[i+1]?=some t→ltS s t
def leftB (T:List (Int × Int × Int)) (e:Int × Int) (i:Nat):Bool:=match T[i]? with
 | some t=>decide (e∈edg t)
 | none=>false
def leftR (T:List (Int × Int × Int)) (a b:Int):Int:=firstFrom (leftB T (a,b)) 0 T.length
theorem first_neg' {p:Nat→Bool}:∀ {n i:Nat},¬ firstFrom p i n ≥ 0→∀ j,i≤j→j < i+n→p j=false
 | 0,i,_,j,h1,h2=>by omega
 | n+1,i,h,j,h1,h2=>by
  unfold firstFrom at h
  split at h
  ·exact absurd (by omega) h
  ·rename_i hp
   by_cases e:j=i
   ·subst e;simpa using hp
   ·exact first_neg' h j (by omega) (by omega)
theorem first_pos' {p:Nat→Bool}:∀ {n i:Nat},firstFrom p i n ≥ 0→∃ k:Nat,firstFrom p i n=(k:Int)∧i≤k∧k < i+n∧p k=true∧∀ j,i≤j→j < k→p j=false
 | 0,i,h=>by unfold firstFrom at h;omega
 | n+1,i,h=>by
  unfold firstFrom at h ⊢
  cases hp:p i with
  | true =>
   rw [if_pos rfl]
   exact ⟨i,rfl,Nat.le_refl _,by omega,hp,fun j h1 h2=>by omega⟩
  | false =>
   rw [hp,if_neg (by decide)] at h
   rw [if_neg (by decide)]
   obtain ⟨k,h1,h2,h3,h4,h5⟩:=first_pos' h
   refine ⟨k,h1,by omega,by omega,h4,fun j j1 j2=>?_⟩
   by_cases e:j=i
   ·rw [e];exact hp
   ·exact h5 j (by omega) j2
theorem first_bd (p:Nat→Bool) (n i:Nat) : -1≤firstFrom p i n:=by
 induction n generalizing i with
 | zero=>exact Int.le_refl _
 | succ n ih =>
  unfold firstFrom
  split
  ·omega
  ·exact ih _
theorem mem_edgs {T:List (Int × Int × Int)} {e:Int × Int}:e∈edgs T↔∃ t∈T,e∈edg t:=List.mem_flatMap
theorem leftB_at {T:List (Int × Int × Int)} {e:Int × Int} {i:Nat} {t:Int × Int × Int} (h:T[i]?=some t):leftB T e i=decide (e∈edg t):=by unfold leftB;rw [h]
theorem left_none {T:List (Int × Int × Int)} {a b:Int}:leftR T a b < 0↔(a,b) ∉ edgs T:=by
 constructor
 ·intro h hm
  obtain ⟨t,ht,he⟩:=mem_edgs.1 hm
  obtain ⟨i,hi,e⟩:=List.getElem_of_mem ht
  have:=first_neg' (p:=leftB T (a,b)) (n:=T.length) (i:=0) (by unfold leftR at h;omega) i (Nat.zero_le _) (by omega)
  rw [leftB_at (List.getElem?_eq_getElem hi),e,decide_eq_true he] at this
  cases this
 ·intro h
  unfold leftR
  rw [first_none fun j _ hj=>?_]
  ·decide
  ·rw [leftB_at (List.getElem?_eq_getElem (show j < T.length by omega))]
   exact decide_eq_false fun he=>h (mem_edgs.2 ⟨_,List.getElem_mem _,he⟩)
/-! ### Who is across an edge -/
def thirdR (t:Int × Int × Int) (a b:Int):Option Int :=
 if (t.1=a∧t.2.1=b)∨(t.1=b∧t.2.1=a) then some t.2.2
 else if (t.2.1=a∧t.2.2=b)∨(t.2.1=b∧t.2.2=a) then some t.1
 else if (t.2.2=a∧t.1=b)∨(t.2.2=b∧t.1=a) then some t.2.1
 else none
def crwAll (T:List (Int × Int × Int)) (a b:Int):List Int:=T.filterMap fun t=>thirdR t a b
def sideR (T:List (Int × Int × Int)) (a b:Int):Option Int :=
 match T[(leftR T a b).toNat]? with
 | some t=>if leftR T a b < 0 then none else some (t.1+t.2.1+t.2.2 - a - b)
 | none=>none
def apartT (t:Int × Int × Int):Prop:=t.1≠t.2.1∧t.2.1≠t.2.2∧t.2.2≠t.1
theorem third_none {t:Int × Int × Int} {a b:Int} (h1:(a,b) ∉ edg t) (h2:(b,a) ∉ edg t):thirdR t a b=none:=by
 unfold edg at h1 h2
 simp only [List.mem_cons,List.not_mem_nil,or_false,Prod.mk.injEq,not_or] at h1 h2
 unfold thirdR
 rw [if_neg (by omega),if_neg (by omega),if_neg (by omega)]
theorem third_some {t:Int × Int × Int} {a b:Int} (ht:apartT t) (h:(a,b)∈edg t∨(b,a)∈edg t):thirdR t a b=some (t.1+t.2.1+t.2.2 - a - b):=by
 unfold apartT at ht
 unfold edg at h
 simp only [List.mem_cons,List.not_mem_nil,or_false,Prod.mk.injEq] at h
 unfold thirdR
 by_cases c1:(t.1=a∧t.2.1=b)∨(t.1=b∧t.2.1=a)
 ·rw [if_pos c1];congr 1;omega
 ·rw [if_neg c1]
  by_cases c2:(t.2.1=a∧t.2.2=b)∨(t.2.1=b∧t.2.2=a)
  ·rw [if_pos c2];congr 1;omega
  ·rw [if_neg c2,if_pos (by omega)];congr 1;omega
theorem edg_one {t:Int × Int × Int} (ht:apartT t) {a b:Int} (h:(a,b)∈edg t):(b,a) ∉ edg t:=by
 unfold apartT at ht
 unfold edg at *
 simp only [List.mem_cons,List.not_mem_nil,or_false,Prod.mk.injEq,not_or] at *
 omega
theorem left_cons {t:Int × Int × Int} {T:List (Int × Int × Int)} {a b:Int}:leftR (t :: T) a b=if (a,b)∈edg t then 0 else if leftR T a b < 0 then -1 else leftR T a b+1:=by
 by_cases h:(a,b)∈edg t
 ·rw [if_pos h]
  exact first_at (k:=0) (fun j _ hj=>by omega) ((leftB_at rfl).trans (decide_eq_true h)) (Nat.zero_le _) (by simp)
 ·rw [if_neg h]
  by_cases h2:leftR T a b < 0
  ·rw [if_pos h2]
   have h3:=left_none.1 h2
   refine first_none fun j _ hj=>?_
   rw [leftB_at (List.getElem?_eq_getElem (show j < (t :: T).length by omega))]
   refine decide_eq_false fun he=>?_
   cases j with
   | zero=>exact h he
   | succ j=>exact h3 (mem_edgs.2 ⟨_,List.getElem_mem _,he⟩)
  ·rw [if_neg h2]
   obtain ⟨k,e1,e2,e3,e4,e5⟩:=first_pos' (p:=leftB T (a,b)) (n:=T.length) (i:=0) (by unfold leftR at h2;omega)
   have:leftR T a b=(k:Int):=e1
   rw [this]
   refine first_at (k:=k+1) (fun j _ hj=>?_) e4 (Nat.zero_le _) (by simp;omega)
   cases j with
   | zero=>exact (leftB_at rfl).trans (decide_eq_false h)
   | succ j=>exact e5 j (Nat.zero_le _) (by omega)
theorem side_cons {t:Int × Int × Int} {T:List (Int × Int × Int)} {a b:Int}:sideR (t :: T) a b=if (a,b)∈edg t then some (t.1+t.2.1+t.2.2 - a - b) else sideR T a b:=by
 have hb:=first_bd (leftB T (a,b)) T.length 0
 unfold sideR
 rw [left_cons]
 by_cases h:(a,b)∈edg t
 ·rw [if_pos h,if_pos h]
  rfl
 ·rw [if_neg h,if_neg h]
  by_cases h2:leftR T a b < 0
  ·rw [if_pos h2]
   show (if (-1:Int) < 0 then none else some (t.1+t.2.1+t.2.2 - a - b))=_
   rw [if_pos (by decide)]
   split
   ·rw [if_pos h2]
   ·rfl
  ·rw [if_neg h2]
   have e:(leftR T a b+1).toNat=(leftR T a b).toNat+1:=by omega
   rw [e,List.getElem?_cons_succ]
   split
   ·rw [if_neg (by omega),if_neg h2]
   ·rfl
theorem side_none {T:List (Int × Int × Int)} {a b:Int} (h:(a,b) ∉ edgs T):sideR T a b=none:=by
 unfold sideR
 split
 ·rw [if_pos (left_none.2 h)]
 ·rfl
theorem all_perm:∀ {T:List (Int × Int × Int)} {a b:Int},(∀ t∈T,apartT t)→(edgs T).Nodup→a≠b→(crwAll T a b).Perm ((sideR T a b).toList++(sideR T b a).toList)
 | [],a,b,_,_,_=>by simp [crwAll,sideR]
 | t :: T,a,b,ht,hn,hab=>by
  have hn2:(edg t++edgs T).Nodup:=hn
  obtain ⟨_,n2,n3⟩:=List.nodup_append.1 hn2
  have ht1:=ht t (by simp)
  have ih:=all_perm (T:=T) (a:=a) (b:=b) (fun u hu=>ht u (by simp [hu])) n2 hab
  have hd:∀ e,e∈edg t→e ∉ edgs T:=fun e h1 h2=>n3 e h1 e h2 rfl
  have hc:crwAll (t :: T) a b=(thirdR t a b).toList++crwAll T a b:=by
   unfold crwAll
   rw [List.filterMap_cons]
   cases thirdR t a b<;>rfl
  rw [hc,side_cons,side_cons]
  by_cases h1:(a,b)∈edg t
  ·rw [if_pos h1,if_neg (edg_one ht1 h1),third_some ht1 (.inl h1)]
   rw [side_none (hd _ h1)] at ih
   exact List.Perm.cons _ ih
  ·by_cases h2:(b,a)∈edg t
   ·rw [if_neg h1,if_pos h2,third_some ht1 (.inr h2)]
    rw [side_none (hd _ h2)] at ih
    simp only [Option.toList_none,List.append_nil] at ih
    rw [show t.1+t.2.1+t.2.2 - a - b=t.1+t.2.1+t.2.2 - b - a by omega]
    exact (List.Perm.cons _ ih).trans (List.perm_append_comm (l₁:=[_]))
   ·rw [if_neg h1,if_neg h2,third_none h1 h2]
    exact ih
end Go.Proofs.YtkgagdjogedoiaaGreat

set_option linter.unusedVariables false
set_option linter.unusedSimpArgs false
namespace Go.Proofs.YtkgagdjogedoiaaGreat
section
variable {n:Nat} {o:Int→Int→Int→Int} {T:List (Int × Int × Int)} {S:List (Int × Int)}
open Classical in
noncomputable def chkR (n:Nat) (o:Int→Int→Int→Int) (T:List (Int × Int × Int)) (S:List (Int × Int)):Int:=if MeshOK n o T S then 0 else 2
theorem chk_ok (h:MeshOK n o T S):chkR n o T S=0:=if_pos h
theorem chk_no (h:¬ MeshOK n o T S):chkR n o T S=2:=if_neg h
theorem goodT.apart (hO:Ori o) {t:Int × Int × Int} (h:goodT n o t):apartT t:=by
 obtain ⟨h1,h2,h3⟩:=hO.apart (o:=o) (a:=t.1) (b:=t.2.1) (c:=t.2.2) (by rw [h.2.2.2.2];decide)
 exact ⟨h1,h2,h3⟩
theorem no_tri {t:Int × Int × Int} (ht:t∈T) (h:¬ goodT n o t):¬ MeshOK n o T S:=fun M=>h (M.tri t ht)
theorem no_ris {i:Nat} {s t:Int × Int × Int} (hs:T[i]?=some s) (ht:T[i+1]?=some t) (h:¬ ltT s t):¬ MeshOK n o T S:=fun M=>h (M.ris i s t hs ht)
theorem no_rim {e:Int × Int} (he:e∈edgs T) (h1:rv e ∉ edgs T) (h2:nrm e ∉ S):¬ MeshOK n o T S:=fun M=>by
 rcases M.rim e he with h|h
 ·exact h1 h
 ·exact h2 h
theorem no_seg {s:Int × Int} (hs:s∈S) (h:¬ s.1 < s.2∨(s ∉ edgs T∧rv s ∉ edgs T)):¬ MeshOK n o T S:=fun M=>by
 obtain ⟨h1,h2⟩:=M.seg s hs
 rcases h with h|⟨h3,h4⟩
 ·exact h h1
 ·rcases h2 with h2|h2
  ·exact h3 h2
  ·exact h4 h2
theorem no_segs {i:Nat} {s t:Int × Int} (hs:S[i]?=some s) (ht:S[i+1]?=some t) (h:¬ ltS s t):¬ MeshOK n o T S:=fun M=>h (M.segs i s t hs ht)
theorem edgs_app (A B:List (Int × Int × Int)):edgs (A++B)=edgs A++edgs B:=by simp [edgs]
theorem edgs_succ {i:Nat} {t:Int × Int × Int} (h:T[i]?=some t):edgs (T.take (i+1))=edgs (T.take i)++edg t:=by
 rw [take_succ' h,edgs_app]
 simp [edgs]
theorem no_once {i k:Nat} {t:Int × Int × Int} {e:Int × Int} (ht:T[i]?=some t) (hk:(edg t)[k]?=some e) (h:e∈edgs (T.take i)++(edg t).take k):¬ MeshOK n o T S:=fun M=>by
 have h1:edgs T=edgs (T.take i)++(edg t++edgs (T.drop (i+1))):=by
  conv=>lhs;rw [← List.take_append_drop (i+1) T]
  rw [edgs_app,edgs_succ ht,List.append_assoc]
 have h2:edg t=(edg t).take k++e :: (edg t).drop (k+1):=by
  have h:=List.take_append_drop (k+1) (edg t)
  rw [take_succ' hk,List.append_assoc] at h
  exact h.symm
 have hn:=M.once
 rw [h1,h2,List.append_assoc,← List.append_assoc] at hn
 exact (List.nodup_append.1 hn).2.2 e h e (by simp) rfl
theorem left_of (hn:(edgs T).Nodup) {i:Nat} {t:Int × Int × Int} (ht:T[i]?=some t) {e:Int × Int} (he:e∈edg t):leftR T e.1 e.2=i:=by
 have hi:i < T.length:=(List.getElem?_eq_some_iff.1 ht).1
 refine first_at (fun j _ hj=>?_) ((leftB_at ht).trans (decide_eq_true he)) (Nat.zero_le _) (by omega)
 obtain ⟨u,hu⟩:∃ u,T[j]?=some u:=⟨_,List.getElem?_eq_getElem (by omega)⟩
 rw [leftB_at hu]
 refine decide_eq_false fun hm=>?_
 have h1:edgs T=edgs (T.take i)++edgs (T.drop i):=by rw [← edgs_app,List.take_append_drop]
 rw [h1] at hn
 refine (List.nodup_append.1 hn).2.2 e (mem_edgs.2 ⟨u,?_,hm⟩) e (mem_edgs.2 ⟨t,?_,he⟩) rfl
 ·exact List.mem_of_getElem? (show (T.take i)[j]?=some u by rw [List.getElem?_take,if_pos hj];exact hu)
 ·exact List.mem_of_getElem? (show (T.drop i)[0]?=some t by rw [List.getElem?_drop];exact ht)
theorem once_of (h:∀ (i:Nat) t,T[i]?=some t→apartT t∧∀ e∈edg t,leftR T e.1 e.2=i):(edgs T).Nodup:=by
 have key:∀ k,k≤T.length→(edgs (T.take k)).Nodup:=fun k=>by
  induction k with
  | zero=>intro _;exact List.nodup_nil
  | succ k ih =>
   intro hk
   obtain ⟨t,ht⟩:∃ t,T[k]?=some t:=⟨_,List.getElem?_eq_getElem (by omega)⟩
   obtain ⟨ha,hl⟩:=h k t ht
   rw [edgs_succ ht,List.nodup_append]
   refine ⟨ih (by omega),?_,fun e he e' he' ee=>?_⟩
   ·unfold apartT at ha
    unfold edg
    simp only [List.nodup_cons,List.mem_cons,List.not_mem_nil,or_false,Prod.mk.injEq,not_or,not_false_eq_true,List.nodup_nil,and_true]
    omega
   ·subst ee
    obtain ⟨u,hu,hm⟩:=mem_edgs.1 he
    obtain ⟨j,hj,e1⟩:=List.getElem_of_mem hu
    rw [List.length_take] at hj
    rw [List.getElem_take] at e1
    have h2:=(h j u (by rw [List.getElem?_eq_getElem (by omega),e1])).2 e hm
    have h3:=hl e he'
    omega
 have:=key T.length (Nat.le_refl _)
 rw [List.take_length] at this
 exact this
theorem ok_of (hO:Ori o) (h1:∀ t∈T,goodT n o t) (h2:∀ i s t,T[i]?=some s→T[i+1]?=some t→ltT s t)
  (h3:∀ (i:Nat) t,T[i]?=some t→∀ e∈edg t,leftR T e.1 e.2=i∧(leftR T e.2 e.1 < 0→e∈S∨rv e∈S))
  (h4:∀ s∈S,s.1 < s.2∧¬ (leftR T s.1 s.2 < 0∧leftR T s.2 s.1 < 0)) (h5:∀ i s t,S[i]?=some s→S[i+1]?=some t→ltS s t):MeshOK n o T S:=by
 refine ⟨h1,h2,once_of fun i t ht=>⟨(h1 t (List.mem_of_getElem? ht)).apart hO,fun e he=>(h3 i t ht e he).1⟩,fun e he=>?_,fun s hs=>?_,h5⟩
 ·obtain ⟨t,ht,hm⟩:=mem_edgs.1 he
  obtain ⟨i,hi,e1⟩:=List.getElem_of_mem ht
  by_cases hl:leftR T e.2 e.1 < 0
  ·right
   rcases (h3 i t (by rw [List.getElem?_eq_getElem hi,e1]) e hm).2 hl with h|h
   ·have:=(h4 e h).1
    rw [show nrm e=e by unfold nrm;ext<;>simp only<;>omega]
    exact h
   ·have:=(h4 _ h).1
    unfold rv at this
    rw [show nrm e=rv e by unfold nrm rv;ext<;>simp only at *<;>omega]
    exact h
  ·left
   exact Classical.byContradiction fun hc=>hl (left_none.2 hc)
 ·obtain ⟨h6,h7⟩:=h4 s hs
  refine ⟨h6,?_⟩
  by_cases h8:leftR T s.1 s.2 < 0
  ·right
   exact Classical.byContradiction fun hc=>h7 ⟨h8,left_none.2 hc⟩
  ·left
   exact Classical.byContradiction fun hc=>h8 (left_none.2 hc)
end
/-! ### Who crowds a segment -/
def sort2:List Int→List Int
 | [x,y]=>if y < x then [y,x] else [x,y]
 | l=>l
theorem sort2_perm {l l':List Int} (h:l.Perm l') (hl:l.length≤2):sort2 l=sort2 l':=by
 match l,hl with
 | [],_=>rw [List.nil_perm.1 h]
 | [x],_=>rw [List.singleton_perm.1 h]
 | [x,y],_ =>
  match l',h.length_eq with
  | [u,v],_ =>
   have h1:x∈[u,v]:=h.subset (by simp)
   simp only [List.mem_cons,List.not_mem_nil,or_false] at h1
   have h2:([u,v]:List Int).Perm [x,y]:=h.symm
   rcases h1 with rfl|rfl
   ·rw [List.singleton_perm.1 ((List.perm_cons _).1 h)]
   ·have h3:([y]:List Int).Perm [u]:=(List.perm_cons x).1 (h.trans (List.Perm.swap x u []))
    have h4:=List.singleton_perm.1 h3
    simp only [List.cons.injEq,and_true] at h4
    subst h4
    by_cases c1:y < x
    ·show (if y < x then [y,x] else [x,y])=(if x < y then [x,y] else [y,x])
     rw [if_pos c1,if_neg (by omega)]
    ·show (if y < x then [y,x] else [x,y])=(if x < y then [x,y] else [y,x])
     rw [if_neg c1]
     by_cases c2:x < y
     ·rw [if_pos c2]
     ·obtain rfl:x=y:=by omega
      rw [if_neg c2]
def crwR (T:List (Int × Int × Int)) (d:Int→Bool) (a b:Int):List Int:=sort2 ((crwAll T a b).filter d)
def crwD (T:List (Int × Int × Int)) (d:Int→Bool) (a b:Int):List Int:=sort2 ((sideR T a b).toList.filter d++(sideR T b a).toList.filter d)
theorem crw_same {T:List (Int × Int × Int)} (ht:∀ t∈T,apartT t) (hn:(edgs T).Nodup) (d:Int→Bool) {a b:Int} (hab:a≠b):crwR T d a b=crwD T d a b∧(crwR T d a b).length≤2∧((crwAll T a b).filter d).length≤2:=by
 have hp:((crwAll T a b).filter d).Perm ((sideR T a b).toList.filter d++(sideR T b a).toList.filter d):=by
  rw [← List.filter_append]
  exact (all_perm ht hn hab).filter d
 have hl:((crwAll T a b).filter d).length≤2:=by
  rw [hp.length_eq,List.length_append]
  have h1:∀ x:Option Int,(x.toList.filter d).length≤1:=fun x=>Nat.le_trans (List.length_filter_le _ _) (by cases x<;>simp)
  have:=h1 (sideR T a b)
  have:=h1 (sideR T b a)
  omega
 refine ⟨sort2_perm hp hl,?_,hl⟩
 have:∀ l:List Int,(sort2 l).length=l.length:=fun l=>by
  unfold sort2
  split
  ·split<;>rfl
  ·rfl
 unfold crwR
 rw [this]
 exact hl
end Go.Proofs.YtkgagdjogedoiaaGreat

set_option linter.unusedVariables false
set_option linter.unusedSimpArgs false
namespace Go.Proofs.YtkgagdjogedoiaaGreat
section
variable {n:Nat} {o:Int→Int→Int→Int}
theorem rot_hit {a b c:Int} {t:Int × Int × Int} (h:least t) (ht:t=(a,b,c)∨t=(b,c,a)∨t=(c,a,b)):rot1 (rot1 (a,b,c))=t:=by
 rcases ht with rfl|rfl|rfl
 ·rw [rot1_least h,rot1_least h]
 ·have e:rot1 (a,b,c)=(b,c,a):=by
   unfold least at h
   unfold rot1
   rw [if_pos (by simp only at *;omega)]
  rw [e,rot1_least h]
 ·have e:rot1 (a,b,c)=(b,c,a):=by
   unfold least at h
   unfold rot1
   rw [if_pos (by simp only at *;omega)]
  have e2:rot1 (b,c,a)=(c,a,b):=by
   unfold least at h
   unfold rot1
   rw [if_pos (by simp only at *;omega)]
  rw [e,e2]
theorem rot_in (a b c:Int):rot1 (rot1 (a,b,c))=(a,b,c)∨rot1 (rot1 (a,b,c))=(b,c,a)∨rot1 (rot1 (a,b,c))=(c,a,b):=by
 have e1:rot1 (a,b,c)=if a > b∨a > c then (b,c,a) else (a,b,c):=rfl
 have e2:rot1 (b,c,a)=if b > c∨b > a then (c,a,b) else (b,c,a):=rfl
 rw [e1]
 split
 ·rw [e2]
  split
  ·exact .inr (.inr rfl)
  ·exact .inr (.inl rfl)
 ·rename_i h
  rw [e1,if_neg h]
  exact .inl rfl
def six (a b c:Int):List (Int × Int × Int):=[(a,b,c),(b,c,a),(c,a,b),(a,c,b),(c,b,a),(b,a,c)]
theorem tri_hit (hO:Ori o) {a b c:Int} (hr:(0≤a∧a < n)∧(0≤b∧b < n)∧(0≤c∧c < n)) {t:Int × Int × Int} (ht:t∈six a b c) (hl:least t) (h1:o t.1 t.2.1 t.2.2=1):triR n o a b c=(t,true):=by
 have c1:=hO.cyc a b c
 have c2:=hO.cyc b c a
 have s1:=hO.swp a b c
 have c3:=hO.cyc a c b
 have c4:=hO.cyc c b a
 unfold six at ht
 simp only [List.mem_cons,List.not_mem_nil,or_false] at ht
 have hone:=hO.one a b c
 unfold triR
 by_cases hm:o a b c = -1
 ·rw [if_pos ⟨hr.1,hr.2.1,hr.2.2,by omega⟩,if_pos hm,rot_hit hl]
  rcases ht with rfl|rfl|rfl|rfl|rfl|rfl
  ·simp only at h1;omega
  ·simp only at h1;omega
  ·simp only at h1;omega
  ·exact .inl rfl
  ·exact .inr (.inl rfl)
  ·exact .inr (.inr rfl)
 ·have h0:o a b c≠0:=by
   rcases ht with rfl|rfl|rfl|rfl|rfl|rfl<;>simp only at h1<;>omega
  rw [if_pos ⟨hr.1,hr.2.1,hr.2.2,h0⟩,if_neg hm,rot_hit hl]
  rcases ht with rfl|rfl|rfl|rfl|rfl|rfl
  ·exact .inl rfl
  ·exact .inr (.inl rfl)
  ·exact .inr (.inr rfl)
  ·simp only at h1;omega
  ·simp only at h1;omega
  ·simp only at h1;omega
theorem tri_any (hO:Ori o) {a b c:Int} (hr:(0≤a∧a < n)∧(0≤b∧b < n)∧(0≤c∧c < n)) (h0:o a b c≠0):∃ t∈six a b c,least t∧o t.1 t.2.1 t.2.2=1:=by
 obtain ⟨t,ht⟩:∃ t,triR n o a b c=(t,true):=by
  unfold triR
  rw [if_pos ⟨hr.1,hr.2.1,hr.2.2,h0⟩]
  exact ⟨_,rfl⟩
 obtain ⟨h1,h2⟩:=triR_o hO ht
 refine ⟨t,?_,h2,h1⟩
 unfold triR at ht
 rw [if_pos ⟨hr.1,hr.2.1,hr.2.2,h0⟩] at ht
 simp only [Prod.mk.injEq,and_true] at ht
 subst ht
 unfold six
 simp only [List.mem_cons,List.not_mem_nil,or_false]
 split
 ·rcases rot_in a c b with e|e|e<;>rw [e]<;>simp
 ·rcases rot_in a b c with e|e|e<;>rw [e]<;>simp
theorem tri_out {a b c:Int} (h:¬ ((0≤a∧a < n)∧(0≤b∧b < n)∧(0≤c∧c < n)∧o a b c≠0)):triR n o a b c=((0,0,0),false):=if_neg h
theorem tri_in {a b c:Int} (h:(0≤a∧a < n)∧(0≤b∧b < n)∧(0≤c∧c < n)) (h0:o a b c≠0):triR n o a b c=(rot1 (rot1 (if o a b c = -1 then (a,c,b) else (a,b,c))),true):=if_pos ⟨h.1,h.2.1,h.2.2,h0⟩
end
end Go.Proofs.YtkgagdjogedoiaaGreat

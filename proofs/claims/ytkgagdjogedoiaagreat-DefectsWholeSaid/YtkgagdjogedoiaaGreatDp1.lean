/- Meshes in plain words: which may be; who is across an edge. -/
import Derived.Test.YtkgagdjogedoiaaGreatRs
set_option linter.unusedVariables false
set_option linter.unusedSimpArgs false
namespace Go.Proofs.YtkgagdjogedoiaaGreat
def edg (t:Int × Int × Int):List (Int × Int):=[(t.1,t.2.1),(t.2.1,t.2.2),(t.2.2,t.1)]
def edgs (T:List (Int × Int × Int)):List (Int × Int):=T.flatMap edg
def rv (s:Int × Int):Int × Int:=(s.2,s.1)
def ltS (s t:Int × Int):Prop:=s.1 < t.1∨(s.1=t.1∧s.2 < t.2)
def ltT (s t:Int × Int × Int):Prop:=s.1 < t.1∨(s.1=t.1∧(s.2.1 < t.2.1∨(s.2.1=t.2.1∧s.2.2 < t.2.2)))
instance (s t:Int × Int):Decidable (ltS s t):=by unfold ltS;infer_instance
instance (s t:Int × Int × Int):Decidable (ltT s t):=by unfold ltT;infer_instance
structure Ori (o:Int→Int→Int→Int):Prop where
 cyc:∀ a b c,o b c a=o a b c
 swp:∀ a b c,o a c b = -(o a b c)
 one:∀ a b c,o a b c = -1∨o a b c=0∨o a b c=1
section
variable {o:Int→Int→Int→Int}
theorem Ori.apart (h:Ori o) {a b c:Int} (hn:o a b c≠0):a≠b∧b≠c∧c≠a:=by
 refine ⟨?_,?_,?_⟩
 ·rintro rfl
  have h1:=h.cyc a a c
  have h2:=h.swp a a c
  omega
 ·rintro rfl
  have h1:=h.swp a b b
  omega
 ·rintro rfl
  have h1:=h.cyc c b c
  have h2:=h.swp b c c
  omega
def rot1 (t:Int × Int × Int):Int × Int × Int:=if t.1 > t.2.1∨t.1 > t.2.2 then (t.2.1,t.2.2,t.1) else t
def triR (n:Nat) (o:Int→Int→Int→Int) (a b c:Int):(Int × Int × Int) × Bool :=
 if (0≤a∧a < n)∧(0≤b∧b < n)∧(0≤c∧c < n)∧o a b c≠0 then (rot1 (rot1 (if o a b c = -1 then (a,c,b) else (a,b,c))),true) else ((0,0,0),false)
def least (t:Int × Int × Int):Prop:=t.1 < t.2.1∧t.1 < t.2.2
theorem rot1_least {t:Int × Int × Int} (h:least t):rot1 t=t:=by
 unfold rot1 least at *
 rw [if_neg (by omega)]
theorem rot_two {a b c:Int} (h1:a≠b) (h2:b≠c) (h3:c≠a):least (rot1 (rot1 (a,b,c))):=by
 have e1:rot1 (a,b,c)=if a > b∨a > c then (b,c,a) else (a,b,c):=rfl
 rw [e1]
 split
 ·have e2:rot1 (b,c,a)=if b > c∨b > a then (c,a,b) else (b,c,a):=rfl
  rw [e2]
  split<;>(unfold least;simp only;omega)
 ·rw [rot1_least (by unfold least;simp only;omega)]
  unfold least
  simp only
  omega
theorem rot1_o (h:Ori o) (t:Int × Int × Int):o (rot1 t).1 (rot1 t).2.1 (rot1 t).2.2=o t.1 t.2.1 t.2.2:=by
 unfold rot1
 split
 ·exact h.cyc _ _ _
 ·rfl
theorem triR_o (h:Ori o) {n:Nat} {a b c:Int} {t:Int × Int × Int} (e:triR n o a b c=(t,true)):o t.1 t.2.1 t.2.2=1∧least t:=by
 unfold triR at e
 split at e
 ·rename_i hc
  obtain ⟨_,_,_,hn⟩:=hc
  obtain ⟨a1,a2,a3⟩:=h.apart hn
  simp only [Prod.mk.injEq,and_true] at e
  subst e
  constructor
  ·rw [rot1_o h,rot1_o h]
   have h1:=h.one a b c
   have h2:=h.swp a b c
   split
   ·simp only;omega
   ·simp only;omega
  ·split
   ·exact rot_two (fun e=>a3 e.symm) (fun e=>a2 e.symm) (fun e=>a1 e.symm)
   ·exact rot_two a1 a2 a3
 ·cases e
def goodT (n:Nat) (o:Int→Int→Int→Int) (t:Int × Int × Int):Prop:=(0≤t.1∧t.1 < n)∧(0≤t.2.1∧t.2.1 < n)∧(0≤t.2.2∧t.2.2 < n)∧least t∧o t.1 t.2.1 t.2.2=1
theorem goodT_iff (h:Ori o) {n:Nat} {t:Int × Int × Int}:triR n o t.1 t.2.1 t.2.2=(t,true)↔goodT n o t:=by
 constructor
 ·intro e
  obtain ⟨h1,h2⟩:=triR_o h e
  unfold triR at e
  split at e
  ·rename_i hc
   exact ⟨hc.1,hc.2.1,hc.2.2.1,h2,h1⟩
  ·cases e
 ·rintro ⟨h1,h2,h3,h4,h5⟩
  unfold triR
  rw [if_pos ⟨h1,h2,h3,by omega⟩,if_neg (by omega)]
  show (rot1 (rot1 t),true)=_
  rw [rot1_least h4,rot1_least h4]
end
structure MeshOK (n:Nat) (o:Int→Int→Int→Int) (T:List (Int × Int × Int)) (S:List (Int × Int)):Prop where
 tri:∀ t∈T,goodT n o t
 ris:∀ i s t,T[i]?=some s→T[i+1]?=some t→ltT s t
 once:(edgs T).Nodup
 rim:∀ e∈edgs T,rv e∈edgs T∨nrm e∈S
 seg:∀ s∈S,s.1 < s.2∧(s∈edgs T∨rv s∈edgs T)
 segs:∀ i s t,S[i]?=some s→S[i+1]?=some t→ltS s t
def leftB (T:List (Int × Int × Int)) (e:Int × Int) (i:Nat):Bool:=match T[i]? with
 | some t=>decide (e∈edg t)
 | none=>false
def leftR (T:List (Int × Int × Int)) (a b:Int):Int:=firstFrom (leftB T (a,b)) 0 T.length
theorem first_neg' {p:Nat→Bool}:∀ {n i:Nat},¬ firstFrom p i n ≥ 0→∀ j,i≤j→j < i+n→p j=false
 | 0,i,_,j,h1,h2=>by omega
 | n+1,i,h,j,h1,h2=>by
  unfold firstFrom at h
  split at h
  ·exact absurd (by omega) h
  ·rename_i hp
   by_cases e:j=i
   ·subst e;simpa using hp
   ·exact first_neg' h j (by omega) (by omega)
theorem first_pos' {p:Nat→Bool}:∀ {n i:Nat},firstFrom p i n ≥ 0→∃ k:Nat,firstFrom p i n=(k:Int)∧i≤k∧k < i+n∧p k=true∧∀ j,i≤j→j < k→p j=false
 | 0,i,h=>by unfold firstFrom at h;omega
 | n+1,i,h=>by
  unfold firstFrom at h ⊢
  cases hp:p i with
  | true =>
   rw [if_pos rfl]
   exact ⟨i,rfl,Nat.le_refl _,by omega,hp,fun j h1 h2=>by omega⟩
  | false =>
   rw [hp,if_neg (by decide)] at h
   rw [if_neg (by decide)]
   obtain ⟨k,h1,h2,h3,h4,h5⟩:=first_pos' h
   refine ⟨k,h1,by omega,by omega,h4,fun j j1 j2=>?_⟩
   by_cases e:j=i
   ·rw [e];exact hp
   ·exact h5 j (by omega) j2
theorem first_bd (p:Nat→Bool) (n i:Nat) : -1≤firstFrom p i n:=by
 induction n generalizing i with
 | zero=>exact Int.le_refl _
 | succ n ih =>
  unfold firstFrom
  split
  ·omega
  ·exact ih _
theorem mem_edgs {T:List (Int × Int × Int)} {e:Int × Int}:e∈edgs T↔∃ t∈T,e∈edg t:=List.mem_flatMap
theorem leftB_at {T:List (Int × Int × Int)} {e:Int × Int} {i:Nat} {t:Int × Int × Int} (h:T[i]?=some t):leftB T e i=decide (e∈edg t):=by unfold leftB;rw [h]
theorem left_none {T:List (Int × Int × Int)} {a b:Int}:leftR T a b < 0↔(a,b) ∉ edgs T:=by
 constructor
 ·intro h hm
  obtain ⟨t,ht,he⟩:=mem_edgs.1 hm
  obtain ⟨i,hi,e⟩:=List.getElem_of_mem ht
  have:=first_neg' (p:=leftB T (a,b)) (n:=T.length) (i:=0) (by unfold leftR at h;omega) i (Nat.zero_le _) (by omega)
  rw [leftB_at (List.getElem?_eq_getElem hi),e,decide_eq_true he] at this
  cases this
 ·intro h
  unfold leftR
  rw [first_none fun j _ hj=>?_]
  ·decide
  ·rw [leftB_at (List.getElem?_eq_getElem (show j < T.length by omega))]
   exact decide_eq_false fun he=>h (mem_edgs.2 ⟨_,List.getElem_mem _,he⟩)
/-! ### Who is across an edge -/
def thirdR (t:Int × Int × Int) (a b:Int):Option Int :=
 if (t.1=a∧t.2.1=b)∨(t.1=b∧t.2.1=a) then some t.2.2
 else if (t.2.1=a∧t.2.2=b)∨(t.2.1=b∧t.2.2=a) then some t.1
 else if (t.2.2=a∧t.1=b)∨(t.2.2=b∧t.1=a) then some t.2.1
 else none
def crwAll (T:List (Int × Int × Int)) (a b:Int):List Int:=T.filterMap fun t=>thirdR t a b
def sideR (T:List (Int × Int × Int)) (a b:Int):Option Int :=
 match T[(leftR T a b).toNat]? with
 | some t=>if leftR T a b < 0 then none else some (t.1+t.2.1+t.2.2 - a - b)
 | none=>none
def apartT (t:Int × Int × Int):Prop:=t.1≠t.2.1∧t.2.1≠t.2.2∧t.2.2≠t.1
theorem third_none {t:Int × Int × Int} {a b:Int} (h1:(a,b) ∉ edg t) (h2:(b,a) ∉ edg t):thirdR t a b=none:=by
 unfold edg at h1 h2
 simp only [List.mem_cons,List.not_mem_nil,or_false,Prod.mk.injEq,not_or] at h1 h2
 unfold thirdR
 rw [if_neg (by omega),if_neg (by omega),if_neg (by omega)]
theorem third_some {t:Int × Int × Int} {a b:Int} (ht:apartT t) (h:(a,b)∈edg t∨(b,a)∈edg t):thirdR t a b=some (t.1+t.2.1+t.2.2 - a - b):=by
 unfold apartT at ht
 unfold edg at h
 simp only [List.mem_cons,List.not_mem_nil,or_false,Prod.mk.injEq] at h
 unfold thirdR
 by_cases c1:(t.1=a∧t.2.1=b)∨(t.1=b∧t.2.1=a)
 ·rw [if_pos c1];congr 1;omega
 ·rw [if_neg c1]
  by_cases c2:(t.2.1=a∧t.2.2=b)∨(t.2.1=b∧t.2.2=a)
  ·rw [if_pos c2];congr 1;omega
  ·rw [if_neg c2,if_pos (by omega)];congr 1;omega
theorem edg_one {t:Int × Int × Int} (ht:apartT t) {a b:Int} (h:(a,b)∈edg t):(b,a) ∉ edg t:=by
 unfold apartT at ht
 unfold edg at *
 simp only [List.mem_cons,List.not_mem_nil,or_false,Prod.mk.injEq,not_or] at *
 omega
theorem left_cons {t:Int × Int × Int} {T:List (Int × Int × Int)} {a b:Int}:leftR (t :: T) a b=if (a,b)∈edg t then 0 else if leftR T a b < 0 then -1 else leftR T a b+1:=by
 by_cases h:(a,b)∈edg t
 ·rw [if_pos h]
  exact first_at (k:=0) (fun j _ hj=>by omega) ((leftB_at rfl).trans (decide_eq_true h)) (Nat.zero_le _) (by simp)
 ·rw [if_neg h]
  by_cases h2:leftR T a b < 0
  ·rw [if_pos h2]
   have h3:=left_none.1 h2
   refine first_none fun j _ hj=>?_
   rw [leftB_at (List.getElem?_eq_getElem (show j < (t :: T).length by omega))]
   refine decide_eq_false fun he=>?_
   cases j with
   | zero=>exact h he
   | succ j=>exact h3 (mem_edgs.2 ⟨_,List.getElem_mem _,he⟩)
  ·rw [if_neg h2]
   obtain ⟨k,e1,e2,e3,e4,e5⟩:=first_pos' (p:=leftB T (a,b)) (n:=T.length) (i:=0) (by unfold leftR at h2;omega)
   have:leftR T a b=(k:Int):=e1
   rw [this]
   refine first_at (k:=k+1) (fun j _ hj=>?_) e4 (Nat.zero_le _) (by simp;omega)
   cases j with
   | zero=>exact (leftB_at rfl).trans (decide_eq_false h)
   | succ j=>exact e5 j (Nat.zero_le _) (by omega)
theorem side_cons {t:Int × Int × Int} {T:List (Int × Int × Int)} {a b:Int}:sideR (t :: T) a b=if (a,b)∈edg t then some (t.1+t.2.1+t.2.2 - a - b) else sideR T a b:=by
 have hb:=first_bd (leftB T (a,b)) T.length 0
 unfold sideR
 rw [left_cons]
 by_cases h:(a,b)∈edg t
 ·rw [if_pos h,if_pos h]
  rfl
 ·rw [if_neg h,if_neg h]
  by_cases h2:leftR T a b < 0
  ·rw [if_pos h2]
   show (if (-1:Int) < 0 then none else some (t.1+t.2.1+t.2.2 - a - b))=_
   rw [if_pos (by decide)]
   split
   ·rw [if_pos h2]
   ·rfl
  ·rw [if_neg h2]
   have e:(leftR T a b+1).toNat=(leftR T a b).toNat+1:=by omega
   rw [e,List.getElem?_cons_succ]
   split
   ·rw [if_neg (by omega),if_neg h2]
   ·rfl
theorem side_none {T:List (Int × Int × Int)} {a b:Int} (h:(a,b) ∉ edgs T):sideR T a b=none:=by
 unfold sideR
 split
 ·rw [if_pos (left_none.2 h)]
 ·rfl
theorem all_perm:∀ {T:List (Int × Int × Int)} {a b:Int},(∀ t∈T,apartT t)→(edgs T).Nodup→a≠b→(crwAll T a b).Perm ((sideR T a b).toList++(sideR T b a).toList)
 | [],a,b,_,_,_=>by simp [crwAll,sideR]
 | t :: T,a,b,ht,hn,hab=>by
  have hn2:(edg t++edgs T).Nodup:=hn
  obtain ⟨_,n2,n3⟩:=List.nodup_append.1 hn2
  have ht1:=ht t (by simp)
  have ih:=all_perm (T:=T) (a:=a) (b:=b) (fun u hu=>ht u (by simp [hu])) n2 hab
  have hd:∀ e,e∈edg t→e ∉ edgs T:=fun e h1 h2=>n3 e h1 e h2 rfl
  have hc:crwAll (t :: T) a b=(thirdR t a b).toList++crwAll T a b:=by
   unfold crwAll
   rw [List.filterMap_cons]
   cases thirdR t a b<;>rfl
  rw [hc,side_cons,side_cons]
  by_cases h1:(a,b)∈edg t
  ·rw [if_pos h1,if_neg (edg_one ht1 h1),third_some ht1 (.inl h1)]
   rw [side_none (hd _ h1)] at ih
   exact List.Perm.cons _ ih
  ·by_cases h2:(b,a)∈edg t
   ·rw [if_neg h1,if_pos h2,third_some ht1 (.inr h2)]
    rw [side_none (hd _ h2)] at ih
    simp only [Option.toList_none,List.append_nil] at ih
    rw [show t.1+t.2.1+t.2.2 - a - b=t.1+t.2.1+t.2.2 - b - a by omega]
    exact (List.Perm.cons _ ih).trans (List.perm_append_comm (l₁:=[_]))
   ·rw [if_neg h1,if_neg h2,third_none h1 h2]
    exact ih
end Go.Proofs.YtkgagdjogedoiaaGreat

/- An input's flaws, in plain words. -/
import Derived.Test.YtkgagdjogedoiaaGreatSw3
set_option linter.unusedVariables false
set_option linter.unusedSimpArgs false
namespace Go.Proofs.YtkgagdjogedoiaaGreat
open Go Go.RowKit Go.Proofs.YtkgagdjogedoiaaGreat.Fx Go.Proofs.YtkgagdjogedoiaaGreatW.PrintWords
def VPl (P:List (Int × Int)) (v:Int):Prop:=0≤v∧v < P.length
section
variable (P L I l:List (Int × Int))
def metS (s t:Int × Int):Int:=(metR (atP P s.1).1 (atP P s.1).2 (atP P s.2).1 (atP P s.2).2 (atP P t.1).1 (atP P t.1).2 (atP P t.2).1 (atP P t.2).2).1
def insS (s:Int × Int) (p:Int × Int):Bool:=insZ (atP P s.1).1 (atP P s.1).2 (atP P s.2).1 (atP P s.2).2 p.1 p.2
def q1 (i k:Nat):Prop:=i < k∧∃ p,P[i]?=some p∧P[k]?=some p
def q2 (i:Nat):Prop:=∃ s,l[i]?=some s∧s.1=s.2
def q3 (i k:Nat):Prop:=i < k∧∃ s t,l[i]?=some s∧l[k]?=some t∧metS P s t > 1
def q4 (i k:Nat):Prop:=∃ p s,P[i]?=some p∧l[k]?=some s∧insS P s p=true
noncomputable def flwP:Int × Int × Int :=
 match fst2 (q1 P) with
 | some s=>(1,s.1,s.2)
 | none=>match fst1 (q2 l) with
  | some i=>(2,i,0)
  | none=>match fst2 (q3 P l) with
   | some s=>(3,s.1,s.2)
   | none=>match fst2 (q4 P l) with
    | some s=>(4,s.1,s.2)
    | none=>(0,0,0)
def degN (L:List (Int × Int)) (i:Int):Int:=((L.countP fun s=>s.1==i || s.2==i:Nat):Int)
def endB (l:List (Int × Int)) (i:Int):Bool:=l.any fun s=>s.1==i || s.2==i
def q5 (i:Nat):Prop:=i < P.length∧degN L i≠0∧degN L i≠2
def q7 (i:Nat):Prop:=∃ s,I[i]?=some s∧midR P L [s.1,s.2]≠1
def q8 (i:Nat):Prop:=∃ p,P[i]?=some p∧endB (L++I) i=false∧whrR P L 1 p≠1
noncomputable def flwL:Int × Int × Int :=
 match fst1 (q5 P L) with
 | some i=>(5,i,0)
 | none=>if (L.length:Int)=0 then (6,0,0) else match fst1 (q7 P L I) with
  | some i=>(7,i,0)
  | none=>match fst1 (q8 P L I) with
   | some i=>(8,i,0)
   | none=>(0,0,0)
noncomputable def flwF:Int × Int × Int:=if chk5 P L I≠0 then (0,0,0) else if (flwP P (L++I)).1=0 then flwL P L I else flwP P (L++I)
noncomputable def rightB:Bool:=decide (chk5 P L I=0) && decide ((flwF P L I).1=0)
end
section
variable {P L I l:List (Int × Int)} {i k:Nat}
theorem flw_1 (h:q1 P i k) (h1:∀ j,j < i→∀ m,¬ q1 P j m) (h2:∀ m,m < k→¬ q1 P i m):flwP P l=(1,(i:Int),(k:Int)):=by unfold flwP;rw [fst2_some h h1 h2]
theorem flw_2 (n1:∀ i k,¬ q1 P i k) (h:q2 l i) (h1:∀ j,j < i→¬ q2 l j):flwP P l=(2,(i:Int),0):=by unfold flwP;rw [fst2_none n1,fst1_some h h1]
theorem flw_3 (n1:∀ i k,¬ q1 P i k) (n2:∀ i,¬ q2 l i) (h:q3 P l i k) (h1:∀ j,j < i→∀ m,¬ q3 P l j m) (h2:∀ m,m < k→¬ q3 P l i m):flwP P l=(3,(i:Int),(k:Int)):=by unfold flwP;rw [fst2_none n1,fst1_none n2,fst2_some h h1 h2]
theorem flw_4 (n1:∀ i k,¬ q1 P i k) (n2:∀ i,¬ q2 l i) (n3:∀ i k,¬ q3 P l i k) (h:q4 P l i k) (h1:∀ j,j < i→∀ m,¬ q4 P l j m) (h2:∀ m,m < k→¬ q4 P l i m):flwP P l=(4,(i:Int),(k:Int)):=by unfold flwP;rw [fst2_none n1,fst1_none n2,fst2_none n3,fst2_some h h1 h2]
theorem flw_0 (n1:∀ i k,¬ q1 P i k) (n2:∀ i,¬ q2 l i) (n3:∀ i k,¬ q3 P l i k) (n4:∀ i k,¬ q4 P l i k):flwP P l=(0,0,0):=by unfold flwP;rw [fst2_none n1,fst1_none n2,fst2_none n3,fst2_none n4]
theorem flw_no (h:(flwP P l).1=0):(∀ i k,¬ q1 P i k)∧(∀ i,¬ q2 l i)∧(∀ i k,¬ q3 P l i k)∧∀ i k,¬ q4 P l i k:=by
 unfold flwP at h
 split at h
 ·cases h
 ·rename_i e1
  split at h
  ·cases h
  ·rename_i e2
   split at h
   ·cases h
   ·rename_i e3
    split at h
    ·cases h
    ·rename_i e4
     exact ⟨fst2_no e1,fst1_no e2,fst2_no e3,fst2_no e4⟩
theorem q_end {q:Nat→Nat→Prop} {i n:Nat} (h:∀ m,m < n→¬ q i m) (hn:∀ m,n≤m→¬ q i m):∀ m,¬ q i m:=fun m=>(Nat.lt_or_ge m n).elim (h m) (hn m)
theorem q_succ {q:Nat→Nat→Prop} {i:Nat} (h:∀ j,j < i→∀ m,¬ q j m) (hi:∀ m,¬ q i m):∀ j,j < i+1→∀ m,¬ q j m:=fun j hj m=>(Nat.lt_succ_iff_lt_or_eq.1 hj).elim (fun h'=>h j h' m) (fun e=>e ▸ hi m)
theorem q_one {q:Nat→Prop} {k:Nat} (h:∀ m,m < k→¬ q m) (hk:¬ q k):∀ m,m < k+1→¬ q m:=fun m hm=>(Nat.lt_succ_iff_lt_or_eq.1 hm).elim (h m) (fun e=>e ▸ hk)
theorem q1_end (m:Nat) (h:P.length≤m):¬ q1 P i m:=fun ⟨_,p,_,hp⟩=>by have:=(List.getElem?_eq_some_iff.1 hp).1;omega
theorem q1_all {n:Nat} (hn:P.length≤n) (h:∀ j,j < n→∀ m,¬ q1 P j m):∀ j m,¬ q1 P j m:=fun j m hq=>by
 obtain ⟨_,p,hp,_⟩:=id hq
 have:=(List.getElem?_eq_some_iff.1 hp).1
 exact h j (by omega) m hq
theorem q1_no {p r:Int × Int} (hi:P[i]?=some p) (hk:P[k]?=some r) (h:same p.1 p.2 r.1 r.2=false):¬ q1 P i k:=fun ⟨_,x,h1,h2⟩=>by
 rw [hi] at h1
 rw [hk] at h2
 cases h1
 cases h2
 rw [same_yes rfl] at h
 cases h
theorem same_eq {p r:Int × Int} (h:same p.1 p.2 r.1 r.2=true):p=r:=by
 unfold same at h
 simp only [Bool.and_eq_true,beq_iff_eq] at h
 exact Prod.ext h.1 h.2
theorem q1_yes {p r:Int × Int} (hik:i < k) (hi:P[i]?=some p) (hk:P[k]?=some r) (h:same p.1 p.2 r.1 r.2=true):q1 P i k:=⟨hik,p,hi,same_eq h ▸ hk⟩
theorem q2_no {s:Int × Int} (hi:l[i]?=some s) (h:s.1≠s.2):¬ q2 l i:=fun ⟨t,h1,h2⟩=>by rw [hi] at h1;cases h1;exact h h2
theorem q2_all {n:Nat} (hn:l.length≤n) (h:∀ j,j < n→¬ q2 l j):∀ j,¬ q2 l j:=fun j hq=>by
 obtain ⟨s,hs,_⟩:=id hq
 have:=(List.getElem?_eq_some_iff.1 hs).1
 exact h j (by omega) hq
theorem q3_end (m:Nat) (h:l.length≤m):¬ q3 P l i m:=fun ⟨_,s,t,_,ht,_⟩=>by have:=(List.getElem?_eq_some_iff.1 ht).1;omega
theorem q3_all {n:Nat} (hn:l.length≤n) (h:∀ j,j < n→∀ m,¬ q3 P l j m):∀ j m,¬ q3 P l j m:=fun j m hq=>by
 obtain ⟨_,s,t,hs,_⟩:=id hq
 have:=(List.getElem?_eq_some_iff.1 hs).1
 exact h j (by omega) m hq
theorem q3_no {s t:Int × Int} (hi:l[i]?=some s) (hk:l[k]?=some t) (h:¬ metS P s t > 1):¬ q3 P l i k:=fun ⟨_,x,y,h1,h2,h3⟩=>by
 rw [hi] at h1
 rw [hk] at h2
 cases h1
 cases h2
 exact h h3
theorem q4_end (m:Nat) (h:l.length≤m):¬ q4 P l i m:=fun ⟨_,s,_,ht,_⟩=>by have:=(List.getElem?_eq_some_iff.1 ht).1;omega
theorem q4_all {n:Nat} (hn:P.length≤n) (h:∀ j,j < n→∀ m,¬ q4 P l j m):∀ j m,¬ q4 P l j m:=fun j m hq=>by
 obtain ⟨p,s,hp,_⟩:=id hq
 have:=(List.getElem?_eq_some_iff.1 hp).1
 exact h j (by omega) m hq
theorem q4_no {p s:Int × Int} (hi:P[i]?=some p) (hk:l[k]?=some s) (h:insS P s p=false):¬ q4 P l i k:=fun ⟨x,y,h1,h2,h3⟩=>by
 rw [hi] at h1
 rw [hk] at h2
 cases h1
 cases h2
 rw [h] at h3
 cases h3
/-! ### Loops -/
theorem flw_5 (h:q5 P L i) (h1:∀ j,j < i→¬ q5 P L j):flwL P L I=(5,(i:Int),0):=by unfold flwL;rw [fst1_some h h1]
theorem flw_6 (n5:∀ i,¬ q5 P L i) (h:(L.length:Int)=0):flwL P L I=(6,0,0):=by unfold flwL;rw [fst1_none n5,if_pos h]
theorem flw_7 (n5:∀ i,¬ q5 P L i) (h:¬ (L.length:Int)=0) (h7:q7 P L I i) (h1:∀ j,j < i→¬ q7 P L I j):flwL P L I=(7,(i:Int),0):=by unfold flwL;rw [fst1_none n5,if_neg h,fst1_some h7 h1]
theorem flw_8 (n5:∀ i,¬ q5 P L i) (h:¬ (L.length:Int)=0) (n7:∀ i,¬ q7 P L I i) (h8:q8 P L I i) (h1:∀ j,j < i→¬ q8 P L I j):flwL P L I=(8,(i:Int),0):=by unfold flwL;rw [fst1_none n5,if_neg h,fst1_none n7,fst1_some h8 h1]
theorem flw_9 (n5:∀ i,¬ q5 P L i) (h:¬ (L.length:Int)=0) (n7:∀ i,¬ q7 P L I i) (n8:∀ i,¬ q8 P L I i):flwL P L I=(0,0,0):=by unfold flwL;rw [fst1_none n5,if_neg h,fst1_none n7,fst1_none n8]
theorem deg_succ {s:Int × Int} {x:Int} (h:L[k]?=some s):degN (L.take (k+1)) x=degN (L.take k) x+b2i (s.1==x || s.2==x):=by
 unfold degN
 rw [take_succ' h,List.countP_append,List.countP_singleton]
 cases (s.1==x || s.2==x)<;>rfl
theorem deg_bd (L:List (Int × Int)) (x:Int) (k:Nat):0≤degN (L.take k) x∧degN (L.take k) x≤L.length:=by
 unfold degN
 have h1:(L.take k).countP (fun s=>s.1==x || s.2==x)≤(L.take k).length:=List.countP_le_length
 have h2:(L.take k).length≤L.length:=by rw [List.length_take];omega
 omega
theorem end_succ {s:Int × Int} {x:Int} (h:l[k]?=some s):endB (l.take (k+1)) x=(endB (l.take k) x || (s.1==x || s.2==x)):=by
 unfold endB
 rw [take_succ' h,List.any_append]
 simp
theorem q5_all {n:Nat} (hn:P.length≤n) (h:∀ j,j < n→¬ q5 P L j):∀ j,¬ q5 P L j:=fun j hq=>h j (by have:=hq.1;omega) hq
theorem q7_all {n:Nat} (hn:I.length≤n) (h:∀ j,j < n→¬ q7 P L I j):∀ j,¬ q7 P L I j:=fun j hq=>by
 obtain ⟨s,hs,_⟩:=id hq
 have:=(List.getElem?_eq_some_iff.1 hs).1
 exact h j (by omega) hq
theorem q8_all {n:Nat} (hn:P.length≤n) (h:∀ j,j < n→¬ q8 P L I j):∀ j,¬ q8 P L I j:=fun j hq=>by
 obtain ⟨s,hs,_⟩:=id hq
 have:=(List.getElem?_eq_some_iff.1 hs).1
 exact h j (by omega) hq
theorem q7_no {s:Int × Int} (hi:I[i]?=some s) (h:midR P L [s.1,s.2]=1):¬ q7 P L I i:=fun ⟨t,h1,h2⟩=>by rw [hi] at h1;cases h1;exact h2 h
theorem q8_no {p:Int × Int} (hi:P[i]?=some p) (h:endB (L++I) i=true∨whrR P L 1 p=1):¬ q8 P L I i:=fun ⟨t,h1,h2,h3⟩=>by
 rw [hi] at h1
 cases h1
 rcases h with h|h
 ·rw [h] at h2;cases h2
 ·exact h3 h
theorem dis_of (hq:okQ P L I) (h:(flwP P (L++I)).1=0):(∀ i k,VPl P i→VPl P k→i≠k→atP P i≠atP P k)∧disS P (L++I):=by
 obtain ⟨n1,n2,_,_⟩:=flw_no h
 have hd:∀ i k,VPl P i→VPl P k→i≠k→atP P i≠atP P k:=fun i k hi hk hne e=>by
  obtain ⟨u,rfl⟩:=Int.eq_ofNat_of_zero_le hi.1
  obtain ⟨v,rfl⟩:=Int.eq_ofNat_of_zero_le hk.1
  obtain ⟨p,hp⟩:∃ p,P[u]?=some p:=⟨_,List.getElem?_eq_getElem (by have:=hi.2;omega)⟩
  obtain ⟨r,hr⟩:∃ r,P[v]?=some r:=⟨_,List.getElem?_eq_getElem (by have:=hk.2;omega)⟩
  rw [atP_of hp,atP_of hr] at e
  subst e
  rcases Nat.lt_trichotomy u v with h'|h'|h'
  ·exact n1 u v ⟨h',p,hp,hr⟩
  ·exact hne (by rw [h'])
  ·exact n1 v u ⟨h',p,hr,hp⟩
 refine ⟨hd,fun s hs=>?_⟩
 have hin:=hq.2 s hs
 refine hd _ _ hin.1 hin.2 (fun e=>?_)
 obtain ⟨i,hi,e1⟩:=List.getElem_of_mem hs
 exact n2 i ⟨s,by rw [List.getElem?_eq_getElem hi,e1],e⟩
theorem inS_of (hq:okQ P L I):inS P (L++I):=fun s hs=>⟨inP (hq.2 s hs).1,inP (hq.2 s hs).2⟩
end
end Go.Proofs.YtkgagdjogedoiaaGreat

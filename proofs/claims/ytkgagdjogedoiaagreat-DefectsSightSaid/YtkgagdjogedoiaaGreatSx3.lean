/- Segments and triangles laid one by one, in plain words. -/
import Derived.Test.YtkgagdjogedoiaaGreatSw4
import Derived.Test.YtkgagdjogedoiaaGreatDs5
set_option linter.unusedVariables false
set_option linter.unusedSimpArgs false
namespace Go.Proofs.YtkgagdjogedoiaaGreat
open Go Go.RowKit Go.Proofs.YtkgagdjogedoiaaGreat.Fx Go.Proofs.YtkgagdjogedoiaaGreatW.PrintWords
/-! ### Rising rows -/
def twN {α:Type} (p:α→Bool) (l:List α):Nat:=(l.takeWhile p).length
theorem tw_at {α:Type} {p:α→Bool}:∀ {l:List α} {k:Nat},k≤l.length→(∀ x∈l.take k,p x=true)→(∀ x,l[k]?=some x→p x=false)→twN p l=k
 | [],k,h,_,_=>by simp at h;subst h;rfl
 | x :: l,0,_,_,h=>by
  have:=h x rfl
  unfold twN
  rw [List.takeWhile_cons_of_neg (by simp [this])]
  rfl
 | x :: l,k+1,hk,h1,h2=>by
  have hx:p x=true:=h1 x (by simp)
  have ih:=tw_at (p:=p) (l:=l) (k:=k) (by simpa using hk) (fun y hy=>h1 y (by simp [hy])) (fun y hy=>h2 y (by simpa using hy))
  unfold twN at *
  rw [List.takeWhile_cons_of_pos hx,List.length_cons,ih]
theorem tw_take {α:Type} (p:α→Bool):∀ l:List α,l.takeWhile p=l.take (twN p l)∧l.dropWhile p=l.drop (twN p l)
 | []=>⟨rfl,rfl⟩
 | x :: l=>by
  have ih:=tw_take p l
  unfold twN at *
  cases hx:p x with
  | true =>
   rw [List.takeWhile_cons_of_pos hx,List.dropWhile_cons_of_pos hx,List.length_cons,List.take_succ_cons,List.drop_succ_cons,← ih.1,← ih.2]
   exact ⟨rfl,rfl⟩
  | false =>
   rw [List.takeWhile_cons_of_neg (by simp [hx]),List.dropWhile_cons_of_neg (by simp [hx])]
   exact ⟨rfl,rfl⟩
theorem put_at {l:List (Int × Int × Int)} {t:Int × Int × Int} {k:Nat} (hk:k≤l.length) (h1:∀ x∈l.take k,ltT x t) (h2:∀ x,l[k]?=some x→¬ ltT x t):putT l t=l.take k++[t]++l.drop k:=by
 unfold putT
 obtain ⟨e1,e2⟩:=tw_take (fun s=>decide (ltT s t)) l
 rw [e1,e2,tw_at hk (fun x hx=>decide_eq_true (h1 x hx)) (fun x hx=>decide_eq_false (h2 x hx)),List.append_assoc]
 rfl
def layS (l:List (Int × Int)) (s0:Int × Int):List (Int × Int) :=
 l.take (twN (fun x=>decide (ltS x (nrm s0))) l)++[nrm s0]++l.drop (if l[twN (fun x=>decide (ltS x (nrm s0))) l]?=some (nrm s0) then twN (fun x=>decide (ltS x (nrm s0))) l+1 else twN (fun x=>decide (ltS x (nrm s0))) l)
theorem lay_at {l:List (Int × Int)} {s0:Int × Int} {k:Nat} (hk:k≤l.length) (h1:∀ x∈l.take k,ltS x (nrm s0)) (h2:∀ x,l[k]?=some x→¬ ltS x (nrm s0)):layS l s0=l.take k++[nrm s0]++l.drop (if l[k]?=some (nrm s0) then k+1 else k):=by
 unfold layS
 rw [tw_at hk (fun x hx=>decide_eq_true (h1 x hx)) (fun x hx=>decide_eq_false (h2 x hx))]
theorem lay_len (l:List (Int × Int)) (s:Int × Int):(layS l s).length≤l.length+1:=by
 unfold layS
 rw [List.length_append,List.length_append,List.length_take,List.length_drop,List.length_cons,List.length_nil]
 split<;>omega
theorem lay_mem {l:List (Int × Int)} {s x:Int × Int} (h:x∈layS l s):x∈l∨x=nrm s:=by
 unfold layS at h
 rw [List.mem_append,List.mem_append,List.mem_singleton] at h
 rcases h with (h|h)|h
 ·exact .inl (List.mem_of_mem_take h)
 ·exact .inr h
 ·exact .inl (List.mem_of_mem_drop h)
theorem nrm_or (s:Int × Int):nrm s=s∨nrm s=(s.2,s.1):=by
 unfold nrm
 rcases Int.le_total s.1 s.2 with h|h
 ·left;rw [Int.min_eq_left h,Int.max_eq_right h]
 ·right;rw [Int.min_eq_right h,Int.max_eq_left h]
theorem nrm_lt {s:Int × Int} (h:¬ s.1 > s.2):nrm s=s:=by unfold nrm;rw [Int.min_eq_left (by omega),Int.max_eq_right (by omega)]
theorem nrm_gt {s:Int × Int} (h:s.1 > s.2):nrm s=(s.2,s.1):=by unfold nrm;rw [Int.min_eq_right (by omega),Int.max_eq_left (by omega)]
/-! ### Edges -/
section
variable (P L I:List (Int × Int))
def segL (l:List (Int × Int)):List (Int × Int):=l.foldl layS []
theorem segL_succ {l:List (Int × Int)} {k:Nat} {s:Int × Int} (h:l[k]?=some s):segL (l.take (k+1))=layS (segL (l.take k)) s:=by
 unfold segL
 rw [take_succ' h,List.foldl_append]
 rfl
theorem segL_len (l:List (Int × Int)) (k:Nat) (hk:k≤l.length):(segL (l.take k)).length≤k:=by
 induction k with
 | zero=>exact Nat.le_refl 0
 | succ k ih =>
  obtain ⟨s,hs⟩:∃ s,l[k]?=some s:=⟨_,List.getElem?_eq_getElem (by omega)⟩
  rw [segL_succ hs]
  have:=lay_len (segL (l.take k)) s
  have:=ih (by omega)
  omega
def goesP (l:List (Int × Int)) (a b:Int):Prop:=¬ hasP l a b∧(∀ p∈P,insS P (a,b) p=false)∧(∀ s∈l,metS P (a,b) s=0∨metS P (a,b) s=1)∧midR P L [a,b]=1
open Classical in
noncomputable def goesB (l:List (Int × Int)) (a b:Int):Bool:=decide (goesP P L l a b)
noncomputable def edgB (a:Nat):Nat→List (Int × Int)→List (Int × Int)
 | 0,l=>l
 | j+1,l=>if goesB P L (edgB a j l) a ((a+1+j:Nat):Int)=true then layS (edgB a j l) ((a:Int),((a+1+j:Nat):Int)) else edgB a j l
noncomputable def edgA:Nat→List (Int × Int)→List (Int × Int)
 | 0,l=>l
 | a+1,l=>edgB P L a (P.length - (a+1)) (edgA a l)
noncomputable def edgR:List (Int × Int):=if rightB P L I=true then edgA P L P.length (segL (L++I)) else []
noncomputable def edgE:Int:=if rightB P L I=true then 0 else 2
/-! ### Triangles -/
def in3P (t:Int × Int × Int) (i:Int):Prop:=oP P t.1 t.2.1 i ≠ -1∧oP P t.2.1 t.2.2 i ≠ -1∧oP P t.2.2 t.1 i ≠ -1
def emp3 (a b c:Int) (i:Nat):Prop:=(i:Int)=a∨(i:Int)=b∨(i:Int)=c∨¬ in3P P (triR P.length (oP P) a b c).1 i
def hitM (l:List (Int × Int)) (a b c:Int):Prop:=(triR P.length (oP P) a b c).2=true∧midR P L [a,b,c]=1∧hasP l a c∧hasP l b c∧∀ i,i < P.length→emp3 P a b c i
open Classical in
noncomputable def mkC (l:List (Int × Int)) (a b:Nat):Nat→List (Int × Int × Int)→List (Int × Int × Int)
 | 0,T=>T
 | j+1,T=>if hitM P L l a b ((b+1+j:Nat):Int) then putT (mkC l a b j T) (triR P.length (oP P) a b ((b+1+j:Nat):Int)).1 else mkC l a b j T
open Classical in
noncomputable def mkB (l:List (Int × Int)) (a:Nat):Nat→List (Int × Int × Int)→List (Int × Int × Int)
 | 0,T=>T
 | j+1,T=>if hasP l a ((a+1+j:Nat):Int) then mkC P L l a (a+1+j) (P.length - (a+1+j+1)) (mkB l a j T) else mkB l a j T
noncomputable def mkA (l:List (Int × Int)):Nat→List (Int × Int × Int)→List (Int × Int × Int)
 | 0,T=>T
 | a+1,T=>mkB P L l a (P.length - (a+1)) (mkA l a T)
noncomputable def mkT:List (Int × Int × Int):=mkA P L (edgR P L I) P.length []
end
section
variable {P L I:List (Int × Int)}
theorem edgB_yes {a j:Nat} {l:List (Int × Int)} (h:goesB P L (edgB P L a j l) a ((a+1+j:Nat):Int)=true):edgB P L a (j+1) l=layS (edgB P L a j l) ((a:Int),((a+1+j:Nat):Int)):=if_pos h
theorem edgB_no {a j:Nat} {l:List (Int × Int)} (h:goesB P L (edgB P L a j l) a ((a+1+j:Nat):Int)=false):edgB P L a (j+1) l=edgB P L a j l:=if_neg (by rw [h];decide)
theorem mkC_yes {l:List (Int × Int)} {a b j:Nat} {T:List (Int × Int × Int)} (h:hitM P L l a b ((b+1+j:Nat):Int)):mkC P L l a b (j+1) T=putT (mkC P L l a b j T) (triR P.length (oP P) a b ((b+1+j:Nat):Int)).1:=if_pos h
theorem mkC_no {l:List (Int × Int)} {a b j:Nat} {T:List (Int × Int × Int)} (h:¬ hitM P L l a b ((b+1+j:Nat):Int)):mkC P L l a b (j+1) T=mkC P L l a b j T:=if_neg h
theorem mkB_yes {l:List (Int × Int)} {a j:Nat} {T:List (Int × Int × Int)} (h:hasP l a ((a+1+j:Nat):Int)):mkB P L l a (j+1) T=mkC P L l a (a+1+j) (P.length - (a+1+j+1)) (mkB P L l a j T):=if_pos h
theorem mkB_no {l:List (Int × Int)} {a j:Nat} {T:List (Int × Int × Int)} (h:¬ hasP l a ((a+1+j:Nat):Int)):mkB P L l a (j+1) T=mkB P L l a j T:=if_neg h
theorem put_len (l:List (Int × Int × Int)) (t:Int × Int × Int):(putT l t).length=l.length+1:=(put_perm l t).length_eq
theorem mkC_len (l:List (Int × Int)) (a b:Nat) (T:List (Int × Int × Int)):∀ j,(mkC P L l a b j T).length≤T.length+j
 | 0=>Nat.le_refl _
 | j+1=>by
  have ih:=mkC_len l a b T j
  unfold mkC
  split
  ·rw [put_len];omega
  ·omega
theorem goes_no {l:List (Int × Int)} {a b:Int} (h:¬ goesP P L l a b):goesB P L l a b=false:=by simp [goesB,h]
theorem goes_yes {l:List (Int × Int)} {a b:Int} (h:goesP P L l a b):goesB P L l a b=true:=by simp [goesB,h]
theorem goes_has {l:List (Int × Int)} {a b:Int} (h:hasP l a b):goesB P L l a b=false:=goes_no fun hh=>hh.1 h
theorem goes_ins {l:List (Int × Int)} {a b:Int} {p:Int × Int} {k:Nat} (hp:P[k]?=some p) (h:insS P (a,b) p=true):goesB P L l a b=false:=goes_no fun hh=>by rw [hh.2.1 p (List.mem_of_getElem? hp)] at h;cases h
theorem goes_met {l:List (Int × Int)} {a b:Int} {s:Int × Int} {k:Nat} (hp:l[k]?=some s) (h:metS P (a,b) s≠0∧metS P (a,b) s≠1):goesB P L l a b=false:=goes_no fun hh=>by
 rcases hh.2.2.1 s (List.mem_of_getElem? hp) with h'|h'
 ·exact h.1 h'
 ·exact h.2 h'
theorem goes_so {l:List (Int × Int)} {a b:Int} (h1:¬ hasP l a b) (h2:∀ p∈P.take P.length,insS P (a,b) p=false) (h3:∀ s∈l.take l.length,metS P (a,b) s=0∨metS P (a,b) s=1):goesB P L l a b=(midR P L [a,b]==1):=by
 rw [List.take_length] at h2 h3
 by_cases h:midR P L [a,b]=1
 ·rw [beq_iff_eq.2 h];exact goes_yes ⟨h1,h2,h3,h⟩
 ·rw [beq_eq_false_iff_ne.2 h];exact goes_no fun hh=>h hh.2.2.2
theorem inS_lay {l:List (Int × Int)} {s:Int × Int} (h:inS P l) (hs:InP P s.1∧InP P s.2):inS P (layS l s):=fun x hx=>by
 rcases lay_mem hx with h'|rfl
 ·exact h x h'
 ·rcases nrm_or s with e|e<;>rw [e]
  ·exact hs
  ·exact ⟨hs.2,hs.1⟩
theorem inS_segL {l:List (Int × Int)} (h:inS P l):inS P (segL l):=by
 have key:∀ (l r:List (Int × Int)),inS P l→inS P r→inS P (l.foldl layS r):=fun l=>by
  induction l with
  | nil=>exact fun r _ hr=>hr
  | cons s l ih=>exact fun r hl hr=>ih (layS r s) (fun x hx=>hl x (List.mem_cons_of_mem _ hx)) (inS_lay hr (hl s (List.mem_cons_self ..)))
 exact key l [] h (fun x hx=>by cases hx)
end
end Go.Proofs.YtkgagdjogedoiaaGreat

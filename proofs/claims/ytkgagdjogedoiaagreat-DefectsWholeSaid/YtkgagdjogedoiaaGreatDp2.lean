/- Meshes in plain words: checks, step by step; who crowds a segment. -/
import Derived.Test.YtkgagdjogedoiaaGreatDp1
set_option linter.unusedVariables false
set_option linter.unusedSimpArgs false
namespace Go.Proofs.YtkgagdjogedoiaaGreat
section
variable {n:Nat} {o:Int→Int→Int→Int} {T:List (Int × Int × Int)} {S:List (Int × Int)}
open Classical in
noncomputable def chkR (n:Nat) (o:Int→Int→Int→Int) (T:List (Int × Int × Int)) (S:List (Int × Int)):Int:=if MeshOK n o T S then 0 else 2
theorem chk_ok (h:MeshOK n o T S):chkR n o T S=0:=if_pos h
theorem chk_no (h:¬ MeshOK n o T S):chkR n o T S=2:=if_neg h
theorem goodT.apart (hO:Ori o) {t:Int × Int × Int} (h:goodT n o t):apartT t:=by
 obtain ⟨h1,h2,h3⟩:=hO.apart (o:=o) (a:=t.1) (b:=t.2.1) (c:=t.2.2) (by rw [h.2.2.2.2];decide)
 exact ⟨h1,h2,h3⟩
theorem no_tri {t:Int × Int × Int} (ht:t∈T) (h:¬ goodT n o t):¬ MeshOK n o T S:=fun M=>h (M.tri t ht)
theorem no_ris {i:Nat} {s t:Int × Int × Int} (hs:T[i]?=some s) (ht:T[i+1]?=some t) (h:¬ ltT s t):¬ MeshOK n o T S:=fun M=>h (M.ris i s t hs ht)
theorem no_rim {e:Int × Int} (he:e∈edgs T) (h1:rv e ∉ edgs T) (h2:nrm e ∉ S):¬ MeshOK n o T S:=fun M=>by
 rcases M.rim e he with h|h
 ·exact h1 h
 ·exact h2 h
theorem no_seg {s:Int × Int} (hs:s∈S) (h:¬ s.1 < s.2∨(s ∉ edgs T∧rv s ∉ edgs T)):¬ MeshOK n o T S:=fun M=>by
 obtain ⟨h1,h2⟩:=M.seg s hs
 rcases h with h|⟨h3,h4⟩
 ·exact h h1
 ·rcases h2 with h2|h2
  ·exact h3 h2
  ·exact h4 h2
theorem no_segs {i:Nat} {s t:Int × Int} (hs:S[i]?=some s) (ht:S[i+1]?=some t) (h:¬ ltS s t):¬ MeshOK n o T S:=fun M=>h (M.segs i s t hs ht)
theorem edgs_app (A B:List (Int × Int × Int)):edgs (A++B)=edgs A++edgs B:=by simp [edgs]
theorem edgs_succ {i:Nat} {t:Int × Int × Int} (h:T[i]?=some t):edgs (T.take (i+1))=edgs (T.take i)++edg t:=by
 rw [take_succ' h,edgs_app]
 simp [edgs]
theorem no_once {i k:Nat} {t:Int × Int × Int} {e:Int × Int} (ht:T[i]?=some t) (hk:(edg t)[k]?=some e) (h:e∈edgs (T.take i)++(edg t).take k):¬ MeshOK n o T S:=fun M=>by
 have h1:edgs T=edgs (T.take i)++(edg t++edgs (T.drop (i+1))):=by
  conv=>lhs;rw [← List.take_append_drop (i+1) T]
  rw [edgs_app,edgs_succ ht,List.append_assoc]
 have h2:edg t=(edg t).take k++e :: (edg t).drop (k+1):=by
  have h:=List.take_append_drop (k+1) (edg t)
  rw [take_succ' hk,List.append_assoc] at h
  exact h.symm
 have hn:=M.once
 rw [h1,h2,List.append_assoc,← List.append_assoc] at hn
 exact (List.nodup_append.1 hn).2.2 e h e (by simp) rfl
theorem left_of (hn:(edgs T).Nodup) {i:Nat} {t:Int × Int × Int} (ht:T[i]?=some t) {e:Int × Int} (he:e∈edg t):leftR T e.1 e.2=i:=by
 have hi:i < T.length:=(List.getElem?_eq_some_iff.1 ht).1
 refine first_at (fun j _ hj=>?_) ((leftB_at ht).trans (decide_eq_true he)) (Nat.zero_le _) (by omega)
 obtain ⟨u,hu⟩:∃ u,T[j]?=some u:=⟨_,List.getElem?_eq_getElem (by omega)⟩
 rw [leftB_at hu]
 refine decide_eq_false fun hm=>?_
 have h1:edgs T=edgs (T.take i)++edgs (T.drop i):=by rw [← edgs_app,List.take_append_drop]
 rw [h1] at hn
 refine (List.nodup_append.1 hn).2.2 e (mem_edgs.2 ⟨u,?_,hm⟩) e (mem_edgs.2 ⟨t,?_,he⟩) rfl
 ·exact List.mem_of_getElem? (show (T.take i)[j]?=some u by rw [List.getElem?_take,if_pos hj];exact hu)
 ·exact List.mem_of_getElem? (show (T.drop i)[0]?=some t by rw [List.getElem?_drop];exact ht)
theorem once_of (h:∀ (i:Nat) t,T[i]?=some t→apartT t∧∀ e∈edg t,leftR T e.1 e.2=i):(edgs T).Nodup:=by
 have key:∀ k,k≤T.length→(edgs (T.take k)).Nodup:=fun k=>by
  induction k with
  | zero=>intro _;exact List.nodup_nil
  | succ k ih =>
   intro hk
   obtain ⟨t,ht⟩:∃ t,T[k]?=some t:=⟨_,List.getElem?_eq_getElem (by omega)⟩
   obtain ⟨ha,hl⟩:=h k t ht
   rw [edgs_succ ht,List.nodup_append]
   refine ⟨ih (by omega),?_,fun e he e' he' ee=>?_⟩
   ·unfold apartT at ha
    unfold edg
    simp only [List.nodup_cons,List.mem_cons,List.not_mem_nil,or_false,Prod.mk.injEq,not_or,not_false_eq_true,List.nodup_nil,and_true]
    omega
   ·subst ee
    obtain ⟨u,hu,hm⟩:=mem_edgs.1 he
    obtain ⟨j,hj,e1⟩:=List.getElem_of_mem hu
    rw [List.length_take] at hj
    rw [List.getElem_take] at e1
    have h2:=(h j u (by rw [List.getElem?_eq_getElem (by omega),e1])).2 e hm
    have h3:=hl e he'
    omega
 have:=key T.length (Nat.le_refl _)
 rw [List.take_length] at this
 exact this
theorem ok_of (hO:Ori o) (h1:∀ t∈T,goodT n o t) (h2:∀ i s t,T[i]?=some s→T[i+1]?=some t→ltT s t)
  (h3:∀ (i:Nat) t,T[i]?=some t→∀ e∈edg t,leftR T e.1 e.2=i∧(leftR T e.2 e.1 < 0→e∈S∨rv e∈S))
  (h4:∀ s∈S,s.1 < s.2∧¬ (leftR T s.1 s.2 < 0∧leftR T s.2 s.1 < 0)) (h5:∀ i s t,S[i]?=some s→S[i+1]?=some t→ltS s t):MeshOK n o T S:=by
 refine ⟨h1,h2,once_of fun i t ht=>⟨(h1 t (List.mem_of_getElem? ht)).apart hO,fun e he=>(h3 i t ht e he).1⟩,fun e he=>?_,fun s hs=>?_,h5⟩
 ·obtain ⟨t,ht,hm⟩:=mem_edgs.1 he
  obtain ⟨i,hi,e1⟩:=List.getElem_of_mem ht
  by_cases hl:leftR T e.2 e.1 < 0
  ·right
   rcases (h3 i t (by rw [List.getElem?_eq_getElem hi,e1]) e hm).2 hl with h|h
   ·have:=(h4 e h).1
    rw [show nrm e=e by unfold nrm;ext<;>simp only<;>omega]
    exact h
   ·have:=(h4 _ h).1
    unfold rv at this
    rw [show nrm e=rv e by unfold nrm rv;ext<;>simp only at *<;>omega]
    exact h
  ·left
   exact Classical.byContradiction fun hc=>hl (left_none.2 hc)
 ·obtain ⟨h6,h7⟩:=h4 s hs
  refine ⟨h6,?_⟩
  by_cases h8:leftR T s.1 s.2 < 0
  ·right
   exact Classical.byContradiction fun hc=>h7 ⟨h8,left_none.2 hc⟩
  ·left
   exact Classical.byContradiction fun hc=>h8 (left_none.2 hc)
end
/-! ### Who crowds a segment -/
def sort2:List Int→List Int
 | [x,y]=>if y < x then [y,x] else [x,y]
 | l=>l
theorem sort2_perm {l l':List Int} (h:l.Perm l') (hl:l.length≤2):sort2 l=sort2 l':=by
 match l,hl with
 | [],_=>rw [List.nil_perm.1 h]
 | [x],_=>rw [List.singleton_perm.1 h]
 | [x,y],_ =>
  match l',h.length_eq with
  | [u,v],_ =>
   have h1:x∈[u,v]:=h.subset (by simp)
   simp only [List.mem_cons,List.not_mem_nil,or_false] at h1
   have h2:([u,v]:List Int).Perm [x,y]:=h.symm
   rcases h1 with rfl|rfl
   ·rw [List.singleton_perm.1 ((List.perm_cons _).1 h)]
   ·have h3:([y]:List Int).Perm [u]:=(List.perm_cons x).1 (h.trans (List.Perm.swap x u []))
    have h4:=List.singleton_perm.1 h3
    simp only [List.cons.injEq,and_true] at h4
    subst h4
    by_cases c1:y < x
    ·show (if y < x then [y,x] else [x,y])=(if x < y then [x,y] else [y,x])
     rw [if_pos c1,if_neg (by omega)]
    ·show (if y < x then [y,x] else [x,y])=(if x < y then [x,y] else [y,x])
     rw [if_neg c1]
     by_cases c2:x < y
     ·rw [if_pos c2]
     ·obtain rfl:x=y:=by omega
      rw [if_neg c2]
def crwR (T:List (Int × Int × Int)) (d:Int→Bool) (a b:Int):List Int:=sort2 ((crwAll T a b).filter d)
def crwD (T:List (Int × Int × Int)) (d:Int→Bool) (a b:Int):List Int:=sort2 ((sideR T a b).toList.filter d++(sideR T b a).toList.filter d)
theorem crw_same {T:List (Int × Int × Int)} (ht:∀ t∈T,apartT t) (hn:(edgs T).Nodup) (d:Int→Bool) {a b:Int} (hab:a≠b):crwR T d a b=crwD T d a b∧(crwR T d a b).length≤2∧((crwAll T a b).filter d).length≤2:=by
 have hp:((crwAll T a b).filter d).Perm ((sideR T a b).toList.filter d++(sideR T b a).toList.filter d):=by
  rw [← List.filter_append]
  exact (all_perm ht hn hab).filter d
 have hl:((crwAll T a b).filter d).length≤2:=by
  rw [hp.length_eq,List.length_append]
  have h1:∀ x:Option Int,(x.toList.filter d).length≤1:=fun x=>Nat.le_trans (List.length_filter_le _ _) (by cases x<;>simp)
  have:=h1 (sideR T a b)
  have:=h1 (sideR T b a)
  omega
 refine ⟨sort2_perm hp hl,?_,hl⟩
 have:∀ l:List Int,(sort2 l).length=l.length:=fun l=>by
  unfold sort2
  split
  ·split<;>rfl
  ·rfl
 unfold crwR
 rw [this]
 exact hl
end Go.Proofs.YtkgagdjogedoiaaGreat

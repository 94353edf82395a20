/- Who crowds a segment: two at most, each a place in its disc; the document's way to them; where a number stands among those that are so. -/
import Derived.Test.YtkgagdjogedoiaaGreatDp9
set_option linter.unusedVariables false
set_option linter.unusedSimpArgs false
namespace Go.Proofs.YtkgagdjogedoiaaGreat
open Go Go.RowKit Go.Proofs.YtkgagdjogedoiaaGreat.Fx Go.Proofs.YtkgagdjogedoiaaGreatW.PrintWords
theorem idxs_split {b:Nat→Bool} {i:Nat}:∀ {n:Nat},i≤n→∃ r:List Int,idxs b n=idxs b i++r∧∀ x∈r,(i:Int)≤x
 | 0,h=>by
  obtain rfl:i=0:=by omega
  exact ⟨[],by simp,by simp⟩
 | n+1,h=>by
  by_cases e:i=n+1
  ·subst e;exact ⟨[],by simp,by simp⟩
  ·obtain ⟨r,h1,h2⟩:=idxs_split (b:=b) (i:=i) (n:=n) (by omega)
   cases hb:b n with
   | false=>exact ⟨r,by rw [idxs_no hb,h1],h2⟩
   | true =>
    refine ⟨r++[(n:Int)],by rw [idxs_yes hb,h1,List.append_assoc],fun x hx=>?_⟩
    rcases List.mem_append.1 hx with hx|hx
    ·exact h2 x hx
    ·rw [List.mem_singleton] at hx
     omega
theorem idxs_at_yes {b:Nat→Bool} {i n:Nat} (hi:i < n) (hb:b i=true):(idxs b n)[(idxs b i).length]?=some (i:Int):=by
 obtain ⟨r,h1,_⟩:=idxs_split (b:=b) (i:=i+1) (n:=n) hi
 rw [h1,idxs_yes hb,List.append_assoc,List.getElem?_append_right (Nat.le_refl _),Nat.sub_self]
 rfl
theorem idxs_at_no {b:Nat→Bool} {i n:Nat} (hi:i < n) (hb:b i=false) {x:Int} (h:(idxs b n)[(idxs b i).length]?=some x):x≠i:=by
 obtain ⟨r,h1,h2⟩:=idxs_split (b:=b) (i:=i+1) (n:=n) hi
 rw [h1,idxs_no hb,List.getElem?_append_right (Nat.le_refl _),Nat.sub_self] at h
 have:=h2 x (List.mem_of_getElem? h)
 omega
theorem sort2_mem {l:List Int} {x:Int}:x∈sort2 l↔x∈l:=by
 unfold sort2
 split
 ·split
  ·simp only [List.mem_cons,List.not_mem_nil,or_false];exact or_comm
  ·exact Iff.rfl
 ·exact Iff.rfl
section
variable {P:List (Int × Int)} {T:List (Int × Int × Int)} {S:List (Int × Int)}
theorem crw_mem (hM:MeshOK P.length (oP P) T S) {s:Int × Int} {c:Int} (h:c∈crw P T s):InP P c∧dP P s.1 s.2 c=true:=by
 unfold crw crwR at h
 obtain ⟨h1,h2⟩:=List.mem_filter.1 (sort2_mem.1 h)
 obtain ⟨t,ht,hc⟩:=List.mem_filterMap.1 h1
 exact ⟨third_in (hM.tri t ht) hc,h2⟩
theorem crw_two (hM:MeshOK P.length (oP P) T S) {s:Int × Int} (hs:s∈S):crw P T s=crwD T (dP P s.1 s.2) s.1 s.2∧(crw P T s).length≤2:=by
 have h:=crw_same hM.apart hM.once (dP P s.1 s.2) (a:=s.1) (b:=s.2) (by have:=(hM.seg s hs).1;omega)
 exact ⟨h.1,h.2.1⟩
def sid (P:List (Int × Int)) (T:List (Int × Int × Int)) (s:Int × Int) (a b:Int):List Int:=(sideR T a b).toList.filter (dP P s.1 s.2)
theorem crw_sides (hM:MeshOK P.length (oP P) T S) {s:Int × Int} (hs:s∈S):crw P T s=sort2 (sid P T s s.1 s.2++sid P T s s.2 s.1):=(crw_two hM hs).1
theorem sid_ways (hM:MeshOK P.length (oP P) T S) (s:Int × Int) (a b:Int):(leftR T a b < 0∧sid P T s a b=[]) ∨
  ∃ (k:Nat) (t:Int × Int × Int) (c:Int),leftR T a b=(k:Int)∧T[k]?=some t∧c=t.1+t.2.1+t.2.2 - a - b∧InP P c∧goodT P.length (oP P) t∧((dP P s.1 s.2 c=true∧sid P T s a b=[c])∨(dP P s.1 s.2 c=false∧sid P T s a b=[])):=by
 by_cases h:leftR T a b < 0
 ·left
  refine ⟨h,?_⟩
  unfold sid
  rw [side_none (left_none.1 h)]
  rfl
 ·right
  have hb:=first_bd (leftB T (a,b)) T.length 0
  obtain ⟨k,e1,e2,e3,e4,e5⟩:=first_pos' (p:=leftB T (a,b)) (n:=T.length) (i:=0) (by unfold leftR at h;omega)
  have e1':leftR T a b=(k:Int):=e1
  obtain ⟨t,ht⟩:∃ t,T[k]?=some t:=⟨_,List.getElem?_eq_getElem (by omega)⟩
  rw [leftB_at ht] at e4
  have he:=of_decide_eq_true e4
  have hg:=hM.tri t (List.mem_of_getElem? ht)
  have hap:=hM.apart t (List.mem_of_getElem? ht)
  have h3:=third_some hap (.inl he)
  have hs:sideR T a b=some (t.1+t.2.1+t.2.2 - a - b):=by
   unfold sideR
   rw [e1',Int.toNat_natCast,ht]
   exact if_neg (by omega)
  refine ⟨k,t,_,e1',ht,rfl,third_in hg h3,hg,?_⟩
  unfold sid
  rw [hs]
  cases hd:dP P s.1 s.2 (t.1+t.2.1+t.2.2 - a - b) with
  | true=>exact .inl ⟨rfl,by simp [List.filter,hd]⟩
  | false=>exact .inr ⟨rfl,by simp [List.filter,hd]⟩
end
end Go.Proofs.YtkgagdjogedoiaaGreat

/- Meshes in plain words: a triangle of three places, as the document finds it. -/
import Derived.Test.YtkgagdjogedoiaaGreatDp2
set_option linter.unusedVariables false
set_option linter.unusedSimpArgs false
namespace Go.Proofs.YtkgagdjogedoiaaGreat
section
variable {n:Nat} {o:Int→Int→Int→Int}
theorem rot_hit {a b c:Int} {t:Int × Int × Int} (h:least t) (ht:t=(a,b,c)∨t=(b,c,a)∨t=(c,a,b)):rot1 (rot1 (a,b,c))=t:=by
 rcases ht with rfl|rfl|rfl
 ·rw [rot1_least h,rot1_least h]
 ·have e:rot1 (a,b,c)=(b,c,a):=by
   unfold least at h
   unfold rot1
   rw [if_pos (by simp only at *;omega)]
  rw [e,rot1_least h]
 ·have e:rot1 (a,b,c)=(b,c,a):=by
   unfold least at h
   unfold rot1
   rw [if_pos (by simp only at *;omega)]
  have e2:rot1 (b,c,a)=(c,a,b):=by
   unfold least at h
   unfold rot1
   rw [if_pos (by simp only at *;omega)]
  rw [e,e2]
theorem rot_in (a b c:Int):rot1 (rot1 (a,b,c))=(a,b,c)∨rot1 (rot1 (a,b,c))=(b,c,a)∨rot1 (rot1 (a,b,c))=(c,a,b):=by
 have e1:rot1 (a,b,c)=if a > b∨a > c then (b,c,a) else (a,b,c):=rfl
 have e2:rot1 (b,c,a)=if b > c∨b > a then (c,a,b) else (b,c,a):=rfl
 rw [e1]
 split
 ·rw [e2]
  split
  ·exact .inr (.inr rfl)
  ·exact .inr (.inl rfl)
 ·rename_i h
  rw [e1,if_neg h]
  exact .inl rfl
def six (a b c:Int):List (Int × Int × Int):=[(a,b,c),(b,c,a),(c,a,b),(a,c,b),(c,b,a),(b,a,c)]
theorem tri_hit (hO:Ori o) {a b c:Int} (hr:(0≤a∧a < n)∧(0≤b∧b < n)∧(0≤c∧c < n)) {t:Int × Int × Int} (ht:t∈six a b c) (hl:least t) (h1:o t.1 t.2.1 t.2.2=1):triR n o a b c=(t,true):=by
 have c1:=hO.cyc a b c
 have c2:=hO.cyc b c a
 have s1:=hO.swp a b c
 have c3:=hO.cyc a c b
 have c4:=hO.cyc c b a
 unfold six at ht
 simp only [List.mem_cons,List.not_mem_nil,or_false] at ht
 have hone:=hO.one a b c
 unfold triR
 by_cases hm:o a b c = -1
 ·rw [if_pos ⟨hr.1,hr.2.1,hr.2.2,by omega⟩,if_pos hm,rot_hit hl]
  rcases ht with rfl|rfl|rfl|rfl|rfl|rfl
  ·simp only at h1;omega
  ·simp only at h1;omega
  ·simp only at h1;omega
  ·exact .inl rfl
  ·exact .inr (.inl rfl)
  ·exact .inr (.inr rfl)
 ·have h0:o a b c≠0:=by
   rcases ht with rfl|rfl|rfl|rfl|rfl|rfl<;>simp only at h1<;>omega
  rw [if_pos ⟨hr.1,hr.2.1,hr.2.2,h0⟩,if_neg hm,rot_hit hl]
  rcases ht with rfl|rfl|rfl|rfl|rfl|rfl
  ·exact .inl rfl
  ·exact .inr (.inl rfl)
  ·exact .inr (.inr rfl)
  ·simp only at h1;omega
  ·simp only at h1;omega
  ·simp only at h1;omega
theorem tri_any (hO:Ori o) {a b c:Int} (hr:(0≤a∧a < n)∧(0≤b∧b < n)∧(0≤c∧c < n)) (h0:o a b c≠0):∃ t∈six a b c,least t∧o t.1 t.2.1 t.2.2=1:=by
 obtain ⟨t,ht⟩:∃ t,triR n o a b c=(t,true):=by
  unfold triR
  rw [if_pos ⟨hr.1,hr.2.1,hr.2.2,h0⟩]
  exact ⟨_,rfl⟩
 obtain ⟨h1,h2⟩:=triR_o hO ht
 refine ⟨t,?_,h2,h1⟩
 unfold triR at ht
 rw [if_pos ⟨hr.1,hr.2.1,hr.2.2,h0⟩] at ht
 simp only [Prod.mk.injEq,and_true] at ht
 subst ht
 unfold six
 simp only [List.mem_cons,List.not_mem_nil,or_false]
 split
 ·rcases rot_in a c b with e|e|e<;>rw [e]<;>simp
 ·rcases rot_in a b c with e|e|e<;>rw [e]<;>simp
theorem tri_out {a b c:Int} (h:¬ ((0≤a∧a < n)∧(0≤b∧b < n)∧(0≤c∧c < n)∧o a b c≠0)):triR n o a b c=((0,0,0),false):=if_neg h
theorem tri_in {a b c:Int} (h:(0≤a∧a < n)∧(0≤b∧b < n)∧(0≤c∧c < n)) (h0:o a b c≠0):triR n o a b c=(rot1 (rot1 (if o a b c = -1 then (a,c,b) else (a,b,c))),true):=if_pos ⟨h.1,h.2.1,h.2.2,h0⟩
end
end Go.Proofs.YtkgagdjogedoiaaGreat

/- One triangle as a mesh: what is crowded, what is skinny; the chapter's example. -/
import Derived.Test.YtkgagdjogedoiaaGreatDp8
set_option linter.unusedVariables false
set_option linter.unusedSimpArgs false
namespace Go.Proofs.YtkgagdjogedoiaaGreat
open Go Go.RowKit Go.Proofs.YtkgagdjogedoiaaGreat.Fx Go.Proofs.YtkgagdjogedoiaaGreatW.PrintWords
def T1:List (Int × Int × Int):=[(0,1,2)]
def S1:List (Int × Int):=[(0,1),(0,2),(1,2)]
section
variable {a b c:Int × Int}
abbrev ori3 (a b c:Int × Int):Int:=oriZ a.1 a.2 b.1 b.2 c.1 c.2
abbrev dis3 (a b c:Int × Int):Bool:=disB a.1 a.2 b.1 b.2 c.1 c.2
abbrev sk3 (a b c:Int × Int):Bool:=skB a.1 a.2 b.1 b.2 c.1 c.2
theorem tri_ok (h:ori3 a b c=1):MeshOK ([a,b,c]:List (Int × Int)).length (oP [a,b,c]) T1 S1:=by
 refine ⟨fun t ht=>?_,fun i s t hs ht=>?_,by decide,by decide,by decide,fun i s t hs ht=>?_⟩
 ·simp only [T1,List.mem_singleton] at ht
  subst ht
  refine ⟨by simp,by simp,by simp,by simp [least],?_⟩
  show oP [a,b,c] 0 1 2=1
  exact h
 ·have:i+1 < 1:=(List.getElem?_eq_some_iff.1 ht).1
  omega
 ·have hi:i+1 < 3:=(List.getElem?_eq_some_iff.1 ht).1
  match i,hs,ht with
  | 0,hs,ht=>cases hs;cases ht;decide
  | 1,hs,ht=>cases hs;cases ht;decide
  | i+2,hs,ht=>omega
theorem tri_mC (h:ori3 a b c=1):mC [a,b,c] T1 S1=0:=chk_ok (tri_ok h)
theorem one_sort (d:Int→Bool) (x:Int):sort2 ([x].filter d)=if d x=true then [x] else []:=by
 cases h:d x<;>simp [List.filter,h,sort2]
theorem crw_0:crw [a,b,c] T1 (0,1)=if dis3 a b c=true then [2] else []:=one_sort (dP [a,b,c] 0 1) 2
theorem crw_1:crw [a,b,c] T1 (0,2)=if dis3 a c b=true then [1] else []:=one_sort (dP [a,b,c] 0 2) 1
theorem crw_2:crw [a,b,c] T1 (1,2)=if dis3 b c a=true then [0] else []:=one_sort (dP [a,b,c] 1 2) 0
theorem crdB_0:crdB [a,b,c] T1 S1 0=dis3 a b c:=by
 show decide (((crw [a,b,c] T1 (0,1)).length:Int) > 0)=_
 rw [crw_0]
 cases dis3 a b c<;>rfl
theorem crdB_1:crdB [a,b,c] T1 S1 1=dis3 a c b:=by
 show decide (((crw [a,b,c] T1 (0,2)).length:Int) > 0)=_
 rw [crw_1]
 cases dis3 a c b<;>rfl
theorem crdB_2:crdB [a,b,c] T1 S1 2=dis3 b c a:=by
 show decide (((crw [a,b,c] T1 (1,2)).length:Int) > 0)=_
 rw [crw_2]
 cases dis3 b c a<;>rfl
def want3 (x y z:Bool):List Int:=(if x then [0] else [])++(if y then [1] else [])++(if z then [2] else [])
theorem crdL_tri (h:ori3 a b c=1):crdL [a,b,c] T1 S1=want3 (dis3 a b c) (dis3 a c b) (dis3 b c a):=by
 rw [crdL_of (tri_mC h)]
 show idxs (crdB [a,b,c] T1 S1) 3=_
 have e:∀ f:Nat→Bool,idxs f 3=want3 (f 0) (f 1) (f 2):=fun f=>by
  unfold want3
  cases h0:f 0<;>cases h1:f 1<;>cases h2:f 2<;>simp [idxs,List.range_succ,h0,h1,h2]
 rw [e,crdB_0,crdB_1,crdB_2]
theorem sknL_tri (h:ori3 a b c=1):sknL [a,b,c] T1 S1=if sk3 a b c then [0] else []:=by
 rw [sknL_of (tri_mC h)]
 show idxs (atB T1 (sP [a,b,c])) 1=_
 have e:atB T1 (sP [a,b,c]) 0=sk3 a b c:=rfl
 cases hs:sk3 a b c
 ·rw [idxs_no (e.trans hs)];rfl
 ·rw [idxs_yes (e.trans hs)];rfl
end
/-! ### The example -/
def P0:List (Int × Int):=[(0,0),(8,0),(4,1)]
theorem kn_ori:ori3 (0,0) (8,0) (4,1)=1:=by decide +kernel
theorem kn_d1:dis3 (0,0) (8,0) (4,1)=true:=by decide +kernel
theorem kn_d2:dis3 (0,0) (4,1) (8,0)=false:=by decide +kernel
theorem kn_d3:dis3 (8,0) (4,1) (0,0)=false:=by decide +kernel
theorem kn_sk:sk3 (0,0) (8,0) (4,1)=true:=by decide +kernel
theorem kn_mC:mC P0 T1 S1=0:=tri_mC kn_ori
theorem kn_crd:crdL P0 T1 S1=[0]:=(crdL_tri kn_ori).trans (by rw [kn_d1,kn_d2,kn_d3];rfl)
theorem kn_skn:sknL P0 T1 S1=[0]:=(sknL_tri kn_ori).trans (by rw [kn_sk];rfl)
theorem kn_crw:crwL P0 T1 S1 (0,1)=[2]:=(if_pos ⟨kn_mC,by decide⟩).trans (crw_0.trans (by rw [kn_d1];rfl))
theorem kn_ner:nerR P0 T1 S1 (4,1)=(0,true):=(nerR_of kn_mC).trans (fst_at (k:=0) (by decide) (show nP P0 (4,1) (0,1)=true from kn_d1) (fun j h=>absurd h (Nat.not_lt_zero _)))
theorem kn_good:goodR P0 T1 S1=false:=by
 unfold goodR
 rw [kn_crd,kn_skn,Bool.and_eq_false_iff]
 exact .inr (by decide)
theorem kn_bad:mC [] [(0,0,0)] []=2:=chk_no fun hM=>by
 have:=(hM.tri (0,0,0) (by simp)).1.2
 simp at this
end Go.Proofs.YtkgagdjogedoiaaGreat

/- Words for an input and its flaws; how two segments meet, where a place lies: in plain words. -/
import Derived.Test.YtkgagdjogedoiaaGreatDfc
import Derived.Test.YtkgagdjogedoiaaGreatRf2
set_option linter.unusedVariables false
set_option linter.unusedSimpArgs false
namespace Go.Proofs.YtkgagdjogedoiaaGreat
open Go Go.RowKit Go.Proofs.YtkgagdjogedoiaaGreat.Fx Go.Proofs.YtkgagdjogedoiaaGreatW.PrintWords
theorem and_ways2 (A B:Prop):¬A∨(A∧¬B)∨(A∧B):=by
 by_cases a:A<;>by_cases b:B<;>simp [a,b]
theorem and_ways3 (A B C:Prop):¬A∨(A∧¬B)∨(A∧B∧¬C)∨(A∧B∧C):=by
 by_cases a:A<;>by_cases b:B<;>by_cases c:C<;>simp [a,b,c]
theorem and_ways4 (A B C D:Prop):¬A∨(A∧¬B)∨(A∧B∧¬C)∨(A∧B∧C∧¬D)∨(A∧B∧C∧D):=by
 by_cases a:A<;>by_cases b:B<;>by_cases c:C<;>by_cases d:D<;>simp [a,b,c,d]
theorem or_ways2 (A B:Prop):A∨(¬A∧B)∨(¬A∧¬B):=by
 by_cases a:A<;>by_cases b:B<;>simp [a,b]
theorem or_ways3 (A B C:Prop):A∨(¬A∧B)∨(¬A∧¬B∧C)∨(¬A∧¬B∧¬C):=by
 by_cases a:A<;>by_cases b:B<;>by_cases c:C<;>simp [a,b,c]
theorem or_ways4 (A B C D:Prop):A∨(¬A∧B)∨(¬A∧¬B∧C)∨(¬A∧¬B∧¬C∧D)∨(¬A∧¬B∧¬C∧¬D):=by
 by_cases a:A<;>by_cases b:B<;>by_cases c:C<;>by_cases d:D<;>simp [a,b,c,d]
/-! ### How two segments meet -/
structure nea (x y:Int):Prop where
 x1 : -8388608≤x
 x2:x≤8388608
 y1 : -8388608≤y
 y2:y≤8388608
theorem nea.f {x y:Int} (h:nea x y):fit x y:=⟨by have:=h.x1;omega,by have:=h.x2;omega,by have:=h.y1;omega,by have:=h.y2;omega⟩
theorem nea.bx {x y:Int} (h:nea x y):Bd 24 x:=by have:=h.x1;have:=h.x2;unfold Bd;omega
theorem nea.by_ {x y:Int} (h:nea x y):Bd 24 y:=by have:=h.y1;have:=h.y2;unfold Bd;omega
def dotZ (ax ay bx b_y px py:Int):Int:=(px - ax) * (bx - px)+(py - ay) * (b_y - py)
def onZ (ax ay bx b_y px py:Int):Bool:=!same ax ay bx b_y && (decide (areaZ ax ay bx b_y px py=0) && decide (dotZ ax ay bx b_y px py ≥ 0))
def insZ (ax ay bx b_y px py:Int):Bool:=onZ ax ay bx b_y px py && (!same px py ax ay && !same px py bx b_y)
def b2i (b:Bool):Int:=if b then 1 else 0
def cntZ (ax ay bx b_y cx cy dx dy:Int):Int :=
 b2i (onZ ax ay bx b_y cx cy)+b2i (onZ ax ay bx b_y dx dy)+b2i (onZ cx cy dx dy ax ay && (!same ax ay cx cy && !same ax ay dx dy))+b2i (onZ cx cy dx dy bx b_y && (!same bx b_y cx cy && !same bx b_y dx dy))
def segZ (ax ay bx b_y cx cy dx dy:Int):Int :=
 if sgn (areaZ ax ay bx b_y cx cy)=0∧sgn (areaZ ax ay bx b_y dx dy)=0 then (if cntZ ax ay bx b_y cx cy dx dy ≥ 2 then 4 else if cntZ ax ay bx b_y cx cy dx dy=1 then 1 else 0)
 else if same ax ay cx cy=true∨same ax ay dx dy=true∨same bx b_y cx cy=true∨same bx b_y dx dy=true then 1
 else if onZ ax ay bx b_y cx cy=true∨onZ ax ay bx b_y dx dy=true∨onZ cx cy dx dy ax ay=true∨onZ cx cy dx dy bx b_y=true then 2
 else if sgn (areaZ ax ay bx b_y cx cy)≠sgn (areaZ ax ay bx b_y dx dy)∧sgn (areaZ cx cy dx dy ax ay)≠sgn (areaZ cx cy dx dy bx b_y) then 3 else 0
def metR (ax ay bx b_y cx cy dx dy:Int):Int × Int:=if same ax ay bx b_y=true∨same cx cy dx dy=true then (0,2) else (segZ ax ay bx b_y cx cy dx dy,0)
/-! ### Where a place lies -/
def farZ (ax ay bx b_y qx qy:Int):Bool:=decide (sgn (ax * (b_y - ay)+(bx - ax) * (qy - ay)+-(qx * (b_y - ay))) * sgn (b_y - ay) > 0)
def crsZ (ax ay bx b_y qx qy:Int):Bool:=(decide (ay > qy) != decide (b_y > qy)) && farZ ax ay bx b_y qx qy
section
variable (P:List (Int × Int))
def atS (g:Int→Int→Int→Int→Int→Int→Bool) (k:Int) (q:Int × Int) (s:Int × Int):Bool:=g (k * (atP P s.1).1) (k * (atP P s.1).2) (k * (atP P s.2).1) (k * (atP P s.2).2) q.1 q.2
def whrR (L:List (Int × Int)) (k:Int) (q:Int × Int):Int :=
 if L.any (atS P onZ k q)=true then 0 else if ((L.countP (atS P crsZ k q):Nat):Int).tmod 2=1 then 1 else -1
def sumP:List Int→Int × Int
 | []=>(0,0)
 | i :: l=>((atP P i).1+(sumP l).1,(atP P i).2+(sumP l).2)
def midR (L:List (Int × Int)) (l:List Int):Int:=whrR P L l.length (sumP P l)
end
/-! ### An input -/
def SP.poly (P L I:List (Int × Int)):SP :=
 ⟨fun ok v W=>∃ a b c,v = .agg #[a,b,c]∧Args ok W [pvec P,svec L,svec I] [a,b,c],fun hk ⟨a,b,c,e,h⟩=>⟨a,b,c,e,h.mono hk⟩,fun ⟨a,b,c,e,h⟩=>⟨a,b,c,e,h.bound⟩,fun ⟨a,b,c,e,h⟩ hm=>⟨a,b,c,e,h.step hm⟩⟩
section
variable {P L I:List (Int × Int)}
instance : AggSP (SP.poly P L I) 3:=⟨fun ⟨a,b,c,e,h⟩=>by
 obtain ⟨A,n,e1⟩:=SP.vec_val h.1
 obtain ⟨A',n',e2⟩:=SP.vec_val h.2.1
 obtain ⟨A2,n2,e3⟩:=SP.vec_val h.2.2.1
 exact ⟨_,e,rfl,by simp [e1,e2,e3,Value.oneCell']⟩⟩
instance : CellOf (SP.poly P L I) 0 (pvec P):=⟨fun ⟨a,b,c,e,h⟩=>⟨a,by cases e;rfl,h.1⟩⟩
instance : CellOf (SP.poly P L I) 1 (svec L):=⟨fun ⟨a,b,c,e,h⟩=>⟨b,by cases e;rfl,h.2.1⟩⟩
instance : CellOf (SP.poly P L I) 2 (svec I):=⟨fun ⟨a,b,c,e,h⟩=>⟨c,by cases e;rfl,h.2.2.1⟩⟩
end
theorem tyQ:AggTy Tryz.prog 47 3:=⟨⟨_,Tryz.underlying47,rfl⟩,by kernel_rfl⟩
theorem fQP:FieldTy Tryz.prog 47 0 0:=⟨⟨_,_,Tryz.underlying47,rfl,fun _ _=>by kernel_rfl⟩⟩
theorem fQL:FieldTy Tryz.prog 47 1 1:=⟨⟨_,_,Tryz.underlying47,rfl,fun _ _=>by kernel_rfl⟩⟩
theorem fQI:FieldTy Tryz.prog 47 2 2:=⟨⟨_,_,Tryz.underlying47,rfl,fun _ _=>by kernel_rfl⟩⟩
theorem tyF:AggTy Tryz.prog 164 3:=⟨⟨_,Tryz.underlying164,rfl⟩,by kernel_rfl⟩
theorem fFK:FieldTy Tryz.prog 164 0 0:=⟨⟨_,_,Tryz.underlying164,rfl,fun _ _=>by kernel_rfl⟩⟩
theorem zF (W:World):(zeroValue 164).run Tryz.prog W = .ok (trv (0,0,0)) W:=by kernel_rfl
theorem bF3 (x y z:Int):Tryz.prog.built 164 [(0,.int .i64 x),(1,.int .i64 y),(2,.int .i64 z)]=some (trv (x,y,z)).cells:=by kernel_rfl
theorem bF2 (x y:Int):Tryz.prog.built 164 [(0,.int .i64 x),(1,.int .i64 y)]=some (trv (x,y,0)).cells:=by kernel_rfl
theorem bF1 (x:Int):Tryz.prog.built 164 [(0,.int .i64 x)]=some (trv (x,0,0)).cells:=by kernel_rfl
theorem bF0:Tryz.prog.built 164 []=some (trv (0,0,0)).cells:=by kernel_rfl
/-! ### The first of some -/
open Classical in
noncomputable def fst1 (q:Nat→Prop):Option Nat:=if h:∃ i,q i∧∀ j,j < i→¬ q j then some h.choose else none
theorem fst1_some {q:Nat→Prop} {i:Nat} (h:q i) (hn:∀ j,j < i→¬ q j):fst1 q=some i:=by
 have hh:∃ i,q i∧∀ j,j < i→¬ q j:=⟨i,h,hn⟩
 unfold fst1
 rw [dif_pos hh]
 have hc:=hh.choose_spec
 congr 1
 rcases Nat.lt_trichotomy hh.choose i with h'|h'|h'
 ·exact absurd hc.1 (hn _ h')
 ·exact h'
 ·exact absurd h (hc.2 _ h')
theorem fst1_none {q:Nat→Prop} (h:∀ i,¬ q i):fst1 q=none:=by
 unfold fst1
 rw [dif_neg (fun ⟨i,hi,_⟩=>h i hi)]
theorem fst1_no {q:Nat→Prop} (h:fst1 q=none):∀ i,¬ q i:=by
 unfold fst1 at h
 split at h
 ·cases h
 ·rename_i hn
  intro i
  induction i using Nat.strongRecOn with
  | ind i ih=>exact fun hi=>hn ⟨i,hi,ih⟩
open Classical in
noncomputable def fst2 (q:Nat→Nat→Prop):Option (Nat × Nat) :=
 match fst1 (fun i=>∃ k,q i k) with
 | none=>none
 | some i=>match fst1 (q i) with
  | none=>none
  | some k=>some (i,k)
theorem fst2_some {q:Nat→Nat→Prop} {i k:Nat} (h:q i k) (h1:∀ j,j < i→∀ m,¬ q j m) (h2:∀ m,m < k→¬ q i m):fst2 q=some (i,k):=by
 unfold fst2
 rw [fst1_some (i:=i) ⟨k,h⟩ (fun j hj ⟨m,hm⟩=>h1 j hj m hm)]
 simp only
 rw [fst1_some h h2]
theorem fst2_none {q:Nat→Nat→Prop} (h:∀ i k,¬ q i k):fst2 q=none:=by
 unfold fst2
 rw [fst1_none (fun i ⟨k,hk⟩=>h i k hk)]
theorem fst2_no {q:Nat→Nat→Prop} (h:fst2 q=none):∀ i k,¬ q i k:=by
 unfold fst2 at h
 split at h
 ·rename_i h1
  exact fun i k hk=>fst1_no h1 i ⟨k,hk⟩
 ·rename_i i h1
  split at h
  ·rename_i h2
   have:∃ i',fst1 (fun i=>∃ k,q i k)=some i'∧¬ ∃ k,q i' k:=⟨i,h1,fun ⟨k,hk⟩=>fst1_no h2 k hk⟩
   unfold fst1 at h1
   split at h1
   ·rename_i hc
    cases h1
    exact absurd hc.choose_spec.1 (fun ⟨k,hk⟩=>fst1_no h2 k hk)
   ·cases h1
  ·cases h
end Go.Proofs.YtkgagdjogedoiaaGreat

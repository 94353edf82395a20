/- Rings, in plain words: how many ends are at each place; and what the walks ask of these rows. -/
import Derived.IntWalk
set_option linter.unusedVariables false
set_option linter.unusedSimpArgs false
namespace Go.Proofs.YtkgagdjogedoiaaGreat
theorem take_succ' {α:Type} {l:List α} {k:Nat} {x:α} (h:l[k]?=some x):l.take (k+1)=l.take k++[x]:=by
 rw [List.take_add_one,h];rfl
def firstFrom (p:Nat→Bool):Nat→Nat→Int
 | _,0 => -1
 | k,n+1=>if p k then k else firstFrom p (k+1) n
theorem first_at {p:Nat→Bool}:∀ {n i k:Nat},(∀ j,i≤j→j < k→p j=false)→p k=true→i≤k→k < i+n→firstFrom p i n=k
 | 0,i,k,_,_,h1,h2=>by omega
 | n+1,i,k,h,hk,h1,h2=>by
  unfold firstFrom
  by_cases e:i=k
  ·subst e;rw [if_pos hk]
  ·rw [if_neg (by rw [h i (Nat.le_refl _) (by omega)];decide)]
   exact first_at (fun j hj1 hj2=>h j (by omega) hj2) hk (by omega) (by omega)
theorem first_none {p:Nat→Bool}:∀ {n i:Nat},(∀ j,i≤j→j < i+n→p j=false)→firstFrom p i n = -1
 | 0,i,_=>rfl
 | n+1,i,h=>by
  unfold firstFrom
  rw [if_neg (by rw [h i (Nat.le_refl _) (by omega)];decide)]
  exact first_none fun j hj1 hj2=>h j (by omega) (by omega)
theorem none_succ {p:Nat→Bool} {k:Nat} (h:∀ j,0≤j→j < k→p j=false) (hk:p k=false):∀ j,0≤j→j < k+1→p j=false:=fun j h0 hj=>by
 by_cases e:j=k
 ·rw [e];exact hk
 ·exact h j h0 (by omega)
def nrm (s:Int × Int):Int × Int:=(min s.1 s.2,max s.1 s.2)
theorem three (p q:Prop):p∨(¬ p∧q)∨(¬ p∧¬ q):=by
 rcases Classical.em p with h|h
 ·exact .inl h
 ·rcases Classical.em q with h2|h2
  ·exact .inr (.inl ⟨h,h2⟩)
  ·exact .inr (.inr ⟨h,h2⟩)
/-! ### Rows against each other -/
theorem take_same {α:Type} {l m:List α} {k:Nat} {x y:α} (h:l.take k=m.take k) (h1:l[k]?=some x) (h2:m[k]?=some y) (e:x=y):l.take (k+1)=m.take (k+1):=by
 rw [take_succ' h1,take_succ' h2,h,e]
theorem at_apart {α:Type} {l m:List α} {k:Nat} {x y:α} (h1:l[k]?=some x) (h2:m[k]?=some y) (e:x≠y):l≠m:=fun h=>by
 subst h
 rw [h1] at h2
 cases h2
 exact e rfl
theorem take_whole {α:Type} {l m:List α} (hl:l.length=m.length) (h:l.take l.length=m.take l.length):l=m:=by
 rw [List.take_length,hl,List.take_length] at h
 exact h
end Go.Proofs.YtkgagdjogedoiaaGreat

/- What the law of sight asks, in plain words. -/
import Derived.Test.YtkgagdjogedoiaaGreatDs7
import Derived.Test.YtkgagdjogedoiaaGreatSw7
set_option linter.unusedVariables false
set_option linter.unusedSimpArgs false
namespace Go.Proofs.YtkgagdjogedoiaaGreat
open Go Go.RowKit Go.Proofs.YtkgagdjogedoiaaGreat.Fx Go.Proofs.YtkgagdjogedoiaaGreatW.PrintWords
section
variable {P L I:List (Int × Int)} {T:List (Int × Int × Int)} {S:List (Int × Int)}
theorem del_shape (hf:FitP P):∀ (k:Nat) (T:List (Int × Int × Int)) (m:Int),MeshOK P.length (oP P) T S→phi (atP P) T < k→(∃ T' m',delN P S k T m=(some T',m',0))∨∃ m',delN P S k T m=(none,m',130)
 | 0,T,m,M,h=>by have:=phi_ok hf M;omega
 | k+1,T,m,M,h=>by
  rcases opt_ways (nextR P T S) with hs|⟨s,hs⟩
  ·exact .inl ⟨T,m,del_none hs⟩
  ·by_cases hm:mayP P T S (s.1:Int) (s.2:Int)
   ·rw [del_may hs hm]
    obtain ⟨f1,f2,_,_⟩:=flip_step hf M (next_some hs).2.2.2 hm
    exact del_shape hf k _ _ f1 (by omega)
   ·exact .inr ⟨0,del_not hs hm⟩
theorem fuel_lt (hf:FitP P) (M:MeshOK P.length (oP P) T S):phi (atP P) T < fuel P T:=by
 have:=phi_ok hf M
 unfold fuel
 omega
def innP (P:List (Int × Int)) (T:List (Int × Int × Int)) (s:Int × Int) (q:Int):Prop:=(oP P s.1 s.2 q > 0∧leftR T s.1 s.2 ≥ 0)∨(oP P s.1 s.2 q < 0∧leftR T s.2 s.1 ≥ 0)
instance (P:List (Int × Int)) (T:List (Int × Int × Int)) (s:Int × Int) (q:Int):Decidable (innP P T s q):=by unfold innP;infer_instance
instance (P:List (Int × Int)) (a b q:Int) (o:Int × Int):Decidable (seenP P a b q o):=by unfold seenP;infer_instance
instance (P:List (Int × Int)) (S:List (Int × Int)) (s:Int × Int) (q:Int):Decidable (seesP P S s q):=by unfold seesP;infer_instance
theorem seesP_no {s o:Int × Int} {q:Int} {k:Nat} (h:S[k]?=some o) (h1:¬ o=s) (h2:¬ o.1=q) (h3:¬ o.2=q) (h4:¬ seenP P s.1 s.2 q o):decide (seesP P S s q)=false:=decide_eq_false fun hh=>by
 rcases hh o (List.mem_of_getElem? h) with h'|h'|h'|h'
 ·exact h1 h'
 ·exact h2 h'
 ·exact h3 h'
 ·exact h4 h'
theorem wf_small {x:Int} (h0:0≤x) (h1:x < 1000):(Lit.int .i64 x).wf=true:=by
 simp [Lit.wf,IntKind.min,IntKind.max,IntKind.signed,IntKind.bits]
 omega
/-! ### What the program tells -/
def anyI (l:List Int) (i:Int):Bool:=l.any (·==i)
theorem any_succ {l:List Int} {k:Nat} {x i:Int} (h:l[k]?=some x):anyI (l.take (k+1)) i=(anyI (l.take k) i || x==i):=by
 unfold anyI
 rw [take_succ' h,List.any_append]
 simp
theorem any_idxs {b:Nat→Bool} {n i:Nat} (hi:i < n):anyI (idxs b n) i=b i:=by
 unfold anyI idxs
 cases h:b i with
 | true =>
  rw [List.any_eq_true]
  exact ⟨i,List.mem_map.2 ⟨i,List.mem_filter.2 ⟨List.mem_range.2 hi,h⟩,rfl⟩,by simp⟩
 | false =>
  rw [List.any_eq_false]
  intro x hx
  obtain ⟨k,hk,rfl⟩:=List.mem_map.1 hx
  have hb:=(List.mem_filter.1 hk).2
  intro e
  have e2:((k:Int))=(i:Int):=by simpa using e
  have:k=i:=by omega
  rw [this,h] at hb
  cases hb
theorem tell_crw (M:MeshOK P.length (oP P) T S) {i:Nat} {s:Int × Int} (hs:S[i]?=some s) (h:anyI (crdL P T S) i=false):crw P T s=[]:=by
 have hi:=(List.getElem?_eq_some_iff.1 hs).1
 have hc:mC P T S=0:=chk_ok M
 unfold crdL at h
 rw [if_pos hc,any_idxs hi] at h
 unfold crdB atB at h
 rw [hs] at h
 have:=of_decide_eq_false h
 cases hh:crw P T s with
 | nil=>rfl
 | cons x l=>rw [hh] at this;simp at this
theorem told_so (hr:rightB P L I=true) (M0:MeshOK P.length (oP P) (mkT P L I) S) {T':List (Int × Int × Int)} {m:Int} {k:Nat} (hd:delN P S k (mkT P L I) 0=(some T',m,0)) :
  MeshOK P.length (oP P) T' S∧T'.length=(mkT P L I).length∧∀ (i:Nat) (s:Int × Int) (q:Nat),S[i]?=some s→q < P.length→anyI (crdL P T' S) i=false→¬ (dP P s.1 s.2 q=true∧innP P T' s q∧seesP P S s q):=by
 obtain ⟨hok,_,_⟩:=right_ok hr
 have hf:=fit_of hok.1
 obtain ⟨M,K,hn,hl⟩:=del_spec hf _ _ _ _ _ _ M0 (mesh_kept hr) hd
 refine ⟨M,hl,fun i s q hs hq ht ⟨h1,h2,h3⟩=>?_⟩
 have hdis:=(dis_of hok (right_no hr)).1
 exact sight hf M K hn (fun i k hi hk hne=>hdis i k hi hk hne) (List.mem_of_getElem? hs) ⟨by omega,by omega⟩ h1 h2 h3 (tell_crw M hs ht)
theorem three_ways {A B C:Prop} (h:¬ (A∧B∧C)):¬A∨(A∧¬B)∨(A∧B∧¬C):=by
 by_cases a:A<;>by_cases b:B<;>by_cases c:C<;>simp_all
end
end Go.Proofs.YtkgagdjogedoiaaGreat

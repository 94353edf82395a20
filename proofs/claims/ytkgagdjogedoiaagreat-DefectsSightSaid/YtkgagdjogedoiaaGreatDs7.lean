/- An input's mesh: no place lies in a triangle, no two sides cross. -/
import Derived.Test.YtkgagdjogedoiaaGreatSx4
set_option linter.unusedVariables false
set_option linter.unusedSimpArgs false
namespace Go.Proofs.YtkgagdjogedoiaaGreat
section
variable {P L I:List (Int × Int)}
theorem sgn_prod {x y:Int} (h:x * y < 0):sgn x≠0∧sgn y≠0∧sgn x≠sgn y∧x≠0∧y≠0:=by
 have hx:x≠0:=fun e=>by rw [e,Int.zero_mul] at h;omega
 have hy:y≠0:=fun e=>by rw [e,Int.mul_zero] at h;omega
 refine ⟨fun e=>hx (sgn_eq.1 e),fun e=>hy (sgn_eq.1 e),fun e=>?_,hx,hy⟩
 rcases sgn_cases x with ⟨e1,h1⟩|⟨e1,h1⟩|⟨e1,h1⟩<;>rcases sgn_cases y with ⟨e2,h2⟩|⟨e2,h2⟩|⟨e2,h2⟩<;>rw [e1,e2] at e<;>first|omega|skip
 ·have:=Int.mul_pos_of_neg_of_neg h1 h2;omega
 ·have:=Int.mul_pos h1 h2;omega
theorem cross_met {a b c d:Pt} (h:Cross a b c d):metR a.1 a.2 b.1 b.2 c.1 c.2 d.1 d.2=(3,0):=by
 obtain ⟨p1,p2,p3,p4,p5⟩:=sgn_prod h.1
 obtain ⟨r1,r2,r3,r4,r5⟩:=sgn_prod h.2
 have e1:areaZ a.1 a.2 b.1 b.2 c.1 c.2=ar a b c:=rfl
 have e2:areaZ a.1 a.2 b.1 b.2 d.1 d.2=ar a b d:=rfl
 have e3:areaZ c.1 c.2 d.1 d.2 a.1 a.2=ar c d a:=rfl
 have e4:areaZ c.1 c.2 d.1 d.2 b.1 b.2=ar c d b:=rfl
 have z:∀ x y:Pt,ar x x y=0:=fun x y=>by unfold ar areaZ;grind
 have ns:∀ x y:Pt,x≠y→¬ same x.1 x.2 y.1 y.2=true:=fun x y hne hs=>hne (same_eq hs)
 have nab:a≠b:=fun e=>by rw [e,z] at p4;exact p4 rfl
 have ncd:c≠d:=fun e=>by rw [e,z] at r4;exact r4 rfl
 have nac:a≠c:=fun e=>by rw [e,ar_aba] at p4;exact p4 rfl
 have nad:a≠d:=fun e=>by rw [e,ar_aba] at p5;exact p5 rfl
 have nbc:b≠c:=fun e=>by rw [e,ar_aab] at p4;exact p4 rfl
 have nbd:b≠d:=fun e=>by rw [e,ar_aab] at p5;exact p5 rfl
 have no:∀ x y w:Pt,ar x y w≠0→¬ onZ x.1 x.2 y.1 y.2 w.1 w.2=true:=fun x y w hne ho=>by
  unfold onZ at ho
  simp only [Bool.and_eq_true,decide_eq_true_eq] at ho
  exact hne ho.2.1
 unfold metR
 rw [if_neg (not_or.2 ⟨ns _ _ nab,ns _ _ ncd⟩)]
 unfold segZ
 rw [e1,e2,e3,e4,if_neg (fun h=>p1 h.1),if_neg (not_or.2 ⟨ns _ _ nac,not_or.2 ⟨ns _ _ nad,not_or.2 ⟨ns _ _ nbc,ns _ _ nbd⟩⟩⟩),if_neg (not_or.2 ⟨no _ _ _ p4,not_or.2 ⟨no _ _ _ p5,not_or.2 ⟨no _ _ _ r4,no _ _ _ r5⟩⟩⟩),if_pos ⟨p3,r3⟩]
def CrS (P:List (Int × Int)) (s t:Int × Int):Prop:=Cross (atP P s.1) (atP P s.2) (atP P t.1) (atP P t.2)
def NCr (P:List (Int × Int)) (l:List (Int × Int)):Prop:=∀ s∈l,∀ t∈l,¬ CrS P s t
theorem crS_met {s t:Int × Int} (h:CrS P s t):metS P s t=3:=by unfold metS;rw [cross_met h]
theorem crS_self (s:Int × Int):¬ CrS P s s:=fun h=>by have:=h.1;rw [ar_aba,Int.zero_mul] at this;omega
theorem crS_rev {s t:Int × Int} (h:CrS P (s.2,s.1) t):CrS P s t:=cross_flip h
theorem crS_comm {s t:Int × Int} (h:CrS P s t):CrS P t s:=cross_comm h
theorem crS_nrm {s t:Int × Int} (h:CrS P (nrm s) t):CrS P s t:=by
 rcases nrm_or s with e|e<;>rw [e] at h
 ·exact h
 ·exact crS_rev h
theorem ncr_lay {l:List (Int × Int)} {s:Int × Int} (h:NCr P l) (hs:∀ t∈l,¬ CrS P s t):NCr P (layS l s):=by
 intro x hx y hy hc
 rcases lay_mem hx with hx|rfl
 ·rcases lay_mem hy with hy|rfl
  ·exact h x hx y hy hc
  ·exact hs x hx (crS_nrm (crS_comm hc))
 ·rcases lay_mem hy with hy|rfl
  ·exact hs y hy (crS_nrm hc)
  ·exact crS_self _ hc
theorem ncr_segL {l:List (Int × Int)} (h:NCr P l):NCr P (segL l):=by
 have key:∀ (m r:List (Int × Int)),(∀ s∈m,s∈l)→NCr P r→(∀ s∈l,∀ t∈r,¬ CrS P s t)→NCr P (m.foldl layS r):=fun m=>by
  induction m with
  | nil=>exact fun r _ hr _=>hr
  | cons s m ih =>
   intro r hm hr hx
   have hs:=hm s (List.mem_cons_self ..)
   refine ih (layS r s) (fun x hx=>hm x (List.mem_cons_of_mem _ hx)) (ncr_lay hr (hx s hs)) (fun x hxl t ht hc=>?_)
   rcases lay_mem ht with ht|rfl
   ·exact hx x hxl t ht hc
   ·exact h s hs x hxl (crS_nrm (crS_comm hc))
 exact key l [] (fun s hs=>hs) (fun s hs=>by cases hs) (fun s _ t ht=>by cases ht)
theorem ncr_all {l:List (Int × Int)} (h:∀ i k,¬ q3 P l i k):NCr P l:=by
 have key:∀ i k:Nat,∀ s t,i < k→l[i]?=some s→l[k]?=some t→¬ CrS P s t:=fun i k s t hik hs ht hc=>h i k ⟨hik,s,t,hs,ht,by rw [crS_met hc];decide⟩
 intro s hs t ht hc
 obtain ⟨i,hi,e1⟩:=List.getElem_of_mem hs
 obtain ⟨k,hk,e2⟩:=List.getElem_of_mem ht
 have g1:l[i]?=some s:=by rw [List.getElem?_eq_getElem hi,e1]
 have g2:l[k]?=some t:=by rw [List.getElem?_eq_getElem hk,e2]
 rcases Nat.lt_trichotomy i k with h'|h'|h'
 ·exact key i k s t h' g1 g2 hc
 ·subst h'
  rw [g1] at g2
  cases g2
  exact crS_self _ hc
 ·exact key k i t s h' g2 g1 (crS_comm hc)
theorem ncr_goes {l:List (Int × Int)} {a b:Int} (h:goesB P L l a b=true):∀ t∈l,¬ CrS P (a,b) t:=fun t ht hc=>by
 have hg:goesP P L l a b:=by
  refine Classical.byContradiction fun hn=>?_
  rw [goes_no hn] at h
  cases h
 have e:=crS_met hc
 rcases hg.2.2.1 t ht with h'|h'<;>omega
theorem ncr_edgB {a:Nat} {l:List (Int × Int)} (h:NCr P l):∀ j,NCr P (edgB P L a j l)
 | 0=>h
 | j+1=>by
  have ih:=ncr_edgB (a:=a) h j
  cases hg:goesB P L (edgB P L a j l) a ((a+1+j:Nat):Int) with
  | true=>rw [edgB_yes hg];exact ncr_lay ih (ncr_goes hg)
  | false=>rw [edgB_no hg];exact ih
theorem ncr_edgA {l:List (Int × Int)} (h:NCr P l):∀ a,NCr P (edgA P L a l)
 | 0=>h
 | a+1=>ncr_edgB (ncr_edgA h a) _
/-! ### The triangles -/
def madeT (P L l:List (Int × Int)) (t:Int × Int × Int):Prop:=∃ a b c:Int,hasP l a b∧hitM P L l a b c∧t=(triR P.length (oP P) a b c).1
theorem made_put {T:List (Int × Int × Int)} {l:List (Int × Int)} {t:Int × Int × Int} (h:∀ t∈T,madeT P L l t) (ht:madeT P L l t):∀ t'∈putT T t,madeT P L l t':=fun t' h'=>by
 rw [(put_perm T t).mem_iff] at h'
 rcases List.mem_cons.1 h' with rfl|h'
 ·exact ht
 ·exact h t' h'
theorem made_C {T:List (Int × Int × Int)} {l:List (Int × Int)} {a b:Nat} (hab:hasP l a b) (h:∀ t∈T,madeT P L l t):∀ j,∀ t∈mkC P L l a b j T,madeT P L l t
 | 0=>h
 | j+1=>by
  have ih:=made_C hab h j
  by_cases hh:hitM P L l a b ((b+1+j:Nat):Int)
  ·rw [mkC_yes hh];exact made_put ih ⟨_,_,_,hab,hh,rfl⟩
  ·rw [mkC_no hh];exact ih
theorem made_B {T:List (Int × Int × Int)} {l:List (Int × Int)} {a:Nat} (h:∀ t∈T,madeT P L l t):∀ j,∀ t∈mkB P L l a j T,madeT P L l t
 | 0=>h
 | j+1=>by
  have ih:=made_B (a:=a) h j
  by_cases hh:hasP l a ((a+1+j:Nat):Int)
  ·rw [mkB_yes hh];exact made_C hh ih _
  ·rw [mkB_no hh];exact ih
theorem made_A {T:List (Int × Int × Int)} {l:List (Int × Int)} (h:∀ t∈T,madeT P L l t):∀ a,∀ t∈mkA P L l a T,madeT P L l t
 | 0=>h
 | a+1=>made_B (made_A h a) _
theorem tri_six {n:Nat} {o:Int→Int→Int→Int} {a b c:Int} (h:(triR n o a b c).2=true):(triR n o a b c).1∈six a b c:=by
 unfold triR at h ⊢
 split at h
 ·rename_i hc
  rw [if_pos hc]
  unfold six
  simp only [List.mem_cons,List.not_mem_nil,or_false]
  split
  ·rcases rot_in a c b with e|e|e<;>rw [e]<;>simp
  ·rcases rot_in a b c with e|e|e<;>rw [e]<;>simp
 ·cases h
theorem has_comm {l:List (Int × Int)} {a b:Int} (h:hasP l a b):hasP l b a:=h.symm
theorem made_sides {l:List (Int × Int)} {t:Int × Int × Int} (h:madeT P L l t) {x y z:Int} (hi:is3 t x y z):hasP l x y:=by
 obtain ⟨a,b,c,hab,hh,rfl⟩:=h
 have hs:=tri_six hh.1
 have hac:=hh.2.2.1
 have hbc:=hh.2.2.2.1
 unfold six at hs
 simp only [List.mem_cons,List.not_mem_nil,or_false] at hs
 rcases hs with e|e|e|e|e|e<;>rw [e] at hi<;>rcases hi with e'|e'|e'<;>simp only [Prod.mk.injEq] at e'<;>obtain ⟨rfl,rfl,rfl⟩:=e'<;>first|exact hab|exact hac|exact hbc|exact has_comm hab|exact has_comm hac|exact has_comm hbc
theorem made_cor {l:List (Int × Int)} {t:Int × Int × Int} (h:madeT P L l t):goodT P.length (oP P) t∧∀ v:Nat,v < P.length→(v:Int)≠t.1→(v:Int)≠t.2.1→(v:Int)≠t.2.2→¬ in3P P t v:=by
 obtain ⟨a,b,c,hab,hh,rfl⟩:=h
 have e:triR P.length (oP P) a b c=((triR P.length (oP P) a b c).1,true):=Prod.ext rfl hh.1
 obtain ⟨o1,o2⟩:=triR_o (oP_ori P) e
 obtain ⟨i1,i2,i3⟩:=tri_in3 hh.1
 refine ⟨⟨inP_lt i1,inP_lt i2,inP_lt i3,o2,o1⟩,fun v hv n1 n2 n3=>?_⟩
 have hs:=tri_six hh.1
 rcases hh.2.2.2.2 v hv with h'|h'|h'|h'
 ·unfold six at hs
  simp only [List.mem_cons,List.not_mem_nil,or_false] at hs
  rcases hs with e|e|e|e|e|e<;>rw [e] at n1 n2 n3<;>first|exact absurd h' n1|exact absurd h' n2|exact absurd h' n3
 ·unfold six at hs
  simp only [List.mem_cons,List.not_mem_nil,or_false] at hs
  rcases hs with e|e|e|e|e|e<;>rw [e] at n1 n2 n3<;>first|exact absurd h' n1|exact absurd h' n2|exact absurd h' n3
 ·unfold six at hs
  simp only [List.mem_cons,List.not_mem_nil,or_false] at hs
  rcases hs with e|e|e|e|e|e<;>rw [e] at n1 n2 n3<;>first|exact absurd h' n1|exact absurd h' n2|exact absurd h' n3
 ·exact h'
theorem made_kept (hf:FitP P) {l:List (Int × Int)} {T:List (Int × Int × Int)} (hn:NCr P l) (h:∀ t∈T,madeT P L l t):Kept (atP P) (VP P) T:=by
 have nm:∀ z:Int,sgn z ≠ -1↔0≤z:=fun z=>by rcases sgn_cases z with ⟨e,h⟩|⟨e,h⟩|⟨e,h⟩<;>rw [e]<;>omega
 refine ⟨fun {a b c} ht=>?_,fun {a b c} ht=>?_,fun {a b c} ht v hv n1 n2 n3 hin=>?_,fun {x y z u w v} h1 h2 hc=>?_⟩
 ·obtain ⟨t,hm,hi⟩:=tr3_is ht
  exact is3_in hi (made_cor (h t hm)).1
 ·obtain ⟨t,hm,hi⟩:=tr3_is ht
  exact hf.pos.1 (is3_o (oP_ori P) hi (made_cor (h t hm)).1)
 ·obtain ⟨t,hm,hi⟩:=tr3_is ht
  obtain ⟨k,rfl⟩:=Int.eq_ofNat_of_zero_le hv.1
  have hh:=(made_cor (h t hm)).2 k (by have:=hv.2;omega)
  obtain ⟨i1,i2,i3⟩:=hin
  unfold in3P at hh
  rw [hf.o,hf.o,hf.o,nm,nm,nm] at hh
  rcases hi with e|e|e
  ·rw [e] at hh;exact hh n1 n2 n3 ⟨i1,i2,i3⟩
  ·rw [e] at hh;exact hh n2 n3 n1 ⟨i2,i3,i1⟩
  ·rw [e] at hh;exact hh n3 n1 n2 ⟨i3,i1,i2⟩
 ·obtain ⟨t,hm,hi⟩:=tr3_is h1
  obtain ⟨t',hm',hi'⟩:=tr3_is h2
  rcases made_sides (h t hm) hi with s1|s1<;>rcases made_sides (h t' hm') hi' with s2|s2
  ·exact hn _ s1 _ s2 hc
  ·exact hn _ s1 _ s2 (cross_flip2 hc)
  ·exact hn _ s1 _ s2 (cross_flip hc)
  ·exact hn _ s1 _ s2 (cross_flip (cross_flip2 hc))
theorem right_no (h:rightB P L I=true):(flwP P (L++I)).1=0:=by
 unfold rightB at h
 rw [Bool.and_eq_true,decide_eq_true_eq,decide_eq_true_eq] at h
 by_cases c:(flwP P (L++I)).1=0
 ·exact c
 ·rw [first_p h.1 c] at h
  exact h.2
theorem mesh_kept (h:rightB P L I=true):Kept (atP P) (VP P) (mkT P L I):=by
 obtain ⟨hok,_,_⟩:=right_ok h
 obtain ⟨_,_,n3,_⟩:=flw_no (right_no h)
 have hn:NCr P (edgR P L I):=by
  rw [(edg_e h).1]
  exact ncr_edgA (ncr_segL (ncr_all n3)) _
 exact made_kept (fit_of hok.1) hn (made_A (fun t ht=>by cases ht) _)
end
end Go.Proofs.YtkgagdjogedoiaaGreat

/- How places of a row turn, by their numbers; the places of a triangle are among some. -/
import Derived.Test.YtkgagdjogedoiaaGreatDp3
import Derived.Test.YtkgagdjogedoiaaGreatDp4
set_option linter.unusedVariables false
set_option linter.unusedSimpArgs false
namespace Go.Proofs.YtkgagdjogedoiaaGreat
open Go Go.RowKit Go.Proofs.YtkgagdjogedoiaaGreat.Fx Go.Proofs.YtkgagdjogedoiaaGreatW.PrintWords
def atP (P:List (Int × Int)) (i:Int):Int × Int:=(P[i.toNat]?).getD (0,0)
def oP (P:List (Int × Int)) (a b c:Int):Int:=oriZ (atP P a).1 (atP P a).2 (atP P b).1 (atP P b).2 (atP P c).1 (atP P c).2
theorem oP_ori (P:List (Int × Int)):Ori (oP P):=⟨fun a b c=>ori_cyc _ _ _ _ _ _,fun a b c=>by
 unfold oP
 rw [← ori_cyc (atP P a).1,ori_flip,← ori_cyc (atP P b).1,← ori_cyc (atP P c).1],fun a b c=>ori_one _ _ _ _ _ _⟩
theorem atP_of {P:List (Int × Int)} {k:Nat} {p:Int × Int} (h:P[k]?=some p):atP P k=p:=by unfold atP;rw [Int.toNat_natCast,h];rfl
def InP (P:List (Int × Int)) (a:Int):Prop:=∃ (u:Nat) (p:Int × Int),a=u∧P[u]?=some p
theorem inP {P:List (Int × Int)} {a:Int} (h:0≤a∧a < P.length):InP P a:=by
 obtain ⟨u,rfl⟩:=Int.eq_ofNat_of_zero_le h.1
 exact ⟨u,_,rfl,List.getElem?_eq_getElem (by omega)⟩
theorem inP_lt {P:List (Int × Int)} {a:Int} (h:InP P a):0≤a∧a < P.length:=by
 obtain ⟨u,p,rfl,hu⟩:=h
 have:=(List.getElem?_eq_some_iff.1 hu).1
 omega
theorem six_at {P:List (Int × Int)} {a b c:Int} (ha:InP P a) (hb:InP P b) (hc:InP P c) {t:Int × Int × Int} (ht:t∈six a b c):InP P t.1∧InP P t.2.1∧InP P t.2.2:=by
 unfold six at ht
 simp only [List.mem_cons,List.not_mem_nil,or_false] at ht
 rcases ht with rfl|rfl|rfl|rfl|rfl|rfl<;>exact ⟨by assumption,by assumption,by assumption⟩
theorem oP_at {P:List (Int × Int)} {a b c:Int} {u v w:Nat} {p q r:Int × Int} (ha:a=u) (hb:b=v) (hc:c=w) (hp:P[u]?=some p) (hq:P[v]?=some q) (hr:P[w]?=some r):oriZ p.1 p.2 q.1 q.2 r.1 r.2=oP P a b c:=by
 subst ha hb hc
 unfold oP
 rw [atP_of hp,atP_of hq,atP_of hr]
def hitT (P:List (Int × Int)) (t:Int × Int × Int):Prop:=least t∧oP P t.1 t.2.1 t.2.2=1
theorem tri_end {P:List (Int × Int)} {a b c:Int} (ha:InP P a) (hb:InP P b) (hc:InP P c) (h0:oP P a b c≠0) (h:∀ t∈(six a b c).take 6,¬ hitT P t):False:=by
 obtain ⟨t,ht,h1,h2⟩:=tri_any (oP_ori P) ⟨inP_lt ha,inP_lt hb,inP_lt hc⟩ h0
 exact h t ht ⟨h1,h2⟩
theorem tri_hit' {P:List (Int × Int)} {a b c:Int} (ha:InP P a) (hb:InP P b) (hc:InP P c) {k:Nat} {t:Int × Int × Int} (ht:(six a b c)[k]?=some t) (h:hitT P t):triR P.length (oP P) a b c=(t,true) :=
 tri_hit (oP_ori P) ⟨inP_lt ha,inP_lt hb,inP_lt hc⟩ (List.mem_of_getElem? ht) h.1 h.2
theorem miss_succ {α:Type} {q:α→Prop} {l:List α} {k:Nat} {t:α} (h:l[k]?=some t) (hn:¬ q t) (hi:∀ x∈l.take k,¬ q x):∀ x∈l.take (k+1),¬ q x:=fun x hx=>by
 rw [take_succ' h,List.mem_append,List.mem_singleton] at hx
 rcases hx with hx|rfl
 ·exact hi x hx
 ·exact hn
end Go.Proofs.YtkgagdjogedoiaaGreat

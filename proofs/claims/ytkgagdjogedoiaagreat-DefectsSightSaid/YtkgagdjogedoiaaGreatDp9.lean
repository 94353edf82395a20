import Derived.Test.YtkgagdjogedoiaaGreatRf2
import Derived.Test.YtkgagdjogedoiaaGreatDp3
set_option linter.unusedVariables false
set_option linter.unusedSimpArgs false
namespace Go.Proofs.YtkgagdjogedoiaaGreat
open Go Go.RowKit Go.Proofs.YtkgagdjogedoiaaGreat.Fx Go.Proofs.YtkgagdjogedoiaaGreatW.PrintWords
theorem sgn_negz (z:Int):sgn (-z) = -sgn z:=by rcases sgn_cases z with ⟨e,h⟩|⟨e,h⟩|⟨e,h⟩<;>rcases sgn_cases (-z) with ⟨e',h'⟩|⟨e',h'⟩|⟨e',h'⟩<;>rw [e,e']<;>omega
theorem area_cyc (ax ay bx b_y cx cy:Int):areaZ bx b_y cx cy ax ay=areaZ ax ay bx b_y cx cy:=by unfold areaZ;grind
theorem area_flip (ax ay bx b_y cx cy:Int):areaZ bx b_y ax ay cx cy = -areaZ ax ay bx b_y cx cy:=by unfold areaZ;grind
theorem ori_cyc (ax ay bx b_y cx cy:Int):oriZ bx b_y cx cy ax ay=oriZ ax ay bx b_y cx cy:=by
 unfold oriZ
 rw [area_cyc]
 by_cases h1:fit ax ay<;>by_cases h2:fit bx b_y<;>by_cases h3:fit cx cy<;>simp [h1,h2,h3]
theorem ori_flip (ax ay bx b_y cx cy:Int):oriZ bx b_y ax ay cx cy = -oriZ ax ay bx b_y cx cy:=by
 unfold oriZ
 rw [area_flip,sgn_negz]
 by_cases h1:fit ax ay<;>by_cases h2:fit bx b_y<;>by_cases h3:fit cx cy<;>simp [h1,h2,h3]
theorem ori_one (ax ay bx b_y cx cy:Int):oriZ ax ay bx b_y cx cy = -1∨oriZ ax ay bx b_y cx cy=0∨oriZ ax ay bx b_y cx cy=1:=by
 unfold oriZ
 split
 ·rcases sgn_cases (areaZ ax ay bx b_y cx cy) with ⟨e,_⟩|⟨e,_⟩|⟨e,_⟩<;>simp [e]
 ·simp
section
variable {ax ay bx b_y cx cy:Int}
variable (ha:fit (-2 * ay) (2 * ax)) (hb:fit (-2 * b_y) (2 * bx)) (hc:fit (-2 * cy) (2 * cx))
include ha hb hc
end
end Go.Proofs.YtkgagdjogedoiaaGreat

set_option linter.unusedVariables false
set_option linter.unusedSimpArgs false
namespace Go.Proofs.YtkgagdjogedoiaaGreat
open Go Go.RowKit Go.Proofs.YtkgagdjogedoiaaGreat.Fx Go.Proofs.YtkgagdjogedoiaaGreatW.PrintWords
def atP (P:List (Int × Int)) (i:Int):Int × Int:=(P[i.toNat]?).getD (0,0)
def oP (P:List (Int × Int)) (a b c:Int):Int:=oriZ (atP P a).1 (atP P a).2 (atP P b).1 (atP P b).2 (atP P c).1 (atP P c).2
theorem oP_ori (P:List (Int × Int)):Ori (oP P):=⟨fun a b c=>ori_cyc _ _ _ _ _ _,fun a b c=>by
 unfold oP
 rw [← ori_cyc (atP P a).1,ori_flip,← ori_cyc (atP P b).1,← ori_cyc (atP P c).1],fun a b c=>ori_one _ _ _ _ _ _⟩
theorem atP_of {P:List (Int × Int)} {k:Nat} {p:Int × Int} (h:P[k]?=some p):atP P k=p:=by unfold atP;rw [Int.toNat_natCast,h];rfl
def InP (P:List (Int × Int)) (a:Int):Prop:=∃ (u:Nat) (p:Int × Int),a=u∧P[u]?=some p
theorem inP {P:List (Int × Int)} {a:Int} (h:0≤a∧a < P.length):InP P a:=by
 obtain ⟨u,rfl⟩:=Int.eq_ofNat_of_zero_le h.1
 exact ⟨u,_,rfl,List.getElem?_eq_getElem (by omega)⟩
theorem inP_lt {P:List (Int × Int)} {a:Int} (h:InP P a):0≤a∧a < P.length:=by
 obtain ⟨u,p,rfl,hu⟩:=h
 have:=(List.getElem?_eq_some_iff.1 hu).1
 omega
theorem six_at {P:List (Int × Int)} {a b c:Int} (ha:InP P a) (hb:InP P b) (hc:InP P c) {t:Int × Int × Int} (ht:t∈six a b c):InP P t.1∧InP P t.2.1∧InP P t.2.2:=by
 unfold six at ht
 simp only [List.mem_cons,List.not_mem_nil,or_false] at ht
 rcases ht with rfl|rfl|rfl|rfl|rfl|rfl<;>exact ⟨by assumption,by assumption,by assumption⟩
theorem oP_at {P:List (Int × Int)} {a b c:Int} {u v w:Nat} {p q r:Int × Int} (ha:a=u) (hb:b=v) (hc:c=w) (hp:P[u]?=some p) (hq:P[v]?=some q) (hr:P[w]?=some r):oriZ p.1 p.2 q.1 q.2 r.1 r.2=oP P a b c:=by
 subst ha hb hc
 unfold oP
 rw [atP_of hp,atP_of hq,atP_of hr]
def hitT (P:List (Int × Int)) (t:Int × Int × Int):Prop:=least t∧oP P t.1 t.2.1 t.2.2=1
theorem tri_end {P:List (Int × Int)} {a b c:Int} (ha:InP P a) (hb:InP P b) (hc:InP P c) (h0:oP P a b c≠0) (h:∀ t∈(six a b c).take 6,¬ hitT P t):False:=by
 obtain ⟨t,ht,h1,h2⟩:=tri_any (oP_ori P) ⟨inP_lt ha,inP_lt hb,inP_lt hc⟩ h0
 exact h t ht ⟨h1,h2⟩
theorem tri_hit' {P:List (Int × Int)} {a b c:Int} (ha:InP P a) (hb:InP P b) (hc:InP P c) {k:Nat} {t:Int × Int × Int} (ht:(six a b c)[k]?=some t) (h:hitT P t):triR P.length (oP P) a b c=(t,true) :=
 tri_hit (oP_ori P) ⟨inP_lt ha,inP_lt hb,inP_lt hc⟩ (List.mem_of_getElem? ht) h.1 h.2
theorem miss_succ {α:Type} {q:α→Prop} {l:List α} {k:Nat} {t:α} (h:l[k]?=some t) (hn:¬ q t) (hi:∀ x∈l.take k,¬ q x):∀ x∈l.take (k+1),¬ q x:=fun x hx=>by
 rw [take_succ' h,List.mem_append,List.mem_singleton] at hx
 rcases hx with hx|rfl
 ·exact hi x hx
 ·exact hn
end Go.Proofs.YtkgagdjogedoiaaGreat

set_option linter.unusedVariables false
set_option linter.unusedSimpArgs false
namespace Go.Proofs.YtkgagdjogedoiaaGreat
section
variable {n:Nat} {o:Int→Int→Int→Int} {T:List (Int × Int × Int)} {S:List (Int × Int)}
def sideOK (T:List (Int × Int × Int)) (S:List (Int × Int)) (j:Nat) (e:Int × Int):Prop:=leftR T e.1 e.2=j∧(leftR T e.2 e.1 < 0→e∈S∨rv e∈S)
structure ChkA (n:Nat) (o:Int→Int→Int→Int) (T:List (Int × Int × Int)) (S:List (Int × Int)) (k:Nat):Prop where
 le:k≤T.length
 tri:∀ (j:Nat) t,j < k→T[j]?=some t→goodT n o t
 ris:∀ (j:Nat) s t,j+1 < k→T[j]?=some s→T[j+1]?=some t→ltT s t
 lef:∀ (j:Nat) t,j < k→T[j]?=some t→∀ e∈edg t,sideOK T S j e
theorem ChkA.zero:ChkA n o T S 0:=⟨Nat.zero_le _,fun j t h=>absurd h (Nat.not_lt_zero _),fun j s t h=>absurd h (Nat.not_lt_zero _),fun j t h=>absurd h (Nat.not_lt_zero _)⟩
theorem ChkA.succ {k:Nat} {t:Int × Int × Int} (h:ChkA n o T S k) (ht:T[k]?=some t) (h1:goodT n o t) (h2:∀ j s,k=j+1→T[j]?=some s→ltT s t) (h3:∀ e∈(edg t).take 3,sideOK T S k e):ChkA n o T S (k+1):=by
 have hk:=(List.getElem?_eq_some_iff.1 ht).1
 refine ⟨hk,fun j u hj hu=>?_,fun j s u hj hs hu=>?_,fun j u hj hu=>?_⟩
 ·by_cases e:j=k
  ·subst e;rw [ht] at hu;cases hu;exact h1
  ·exact h.tri j u (by omega) hu
 ·by_cases e:j+1=k
  ·subst e;rw [ht] at hu;cases hu;exact h2 j s rfl hs
  ·exact h.ris j s u (by omega) hs hu
 ·by_cases e:j=k
  ·subst e;rw [ht] at hu;cases hu;exact h3
  ·exact h.lef j u (by omega) hu
structure ChkB (T:List (Int × Int × Int)) (S:List (Int × Int)) (k:Nat):Prop where
 le:k≤S.length
 seg:∀ (j:Nat) s,j < k→S[j]?=some s→s.1 < s.2∧¬ (leftR T s.1 s.2 < 0∧leftR T s.2 s.1 < 0)
 ris:∀ (j:Nat) s t,j+1 < k→S[j]?=some s→S[j+1]?=some t→ltS s t
theorem ChkB.zero:ChkB T S 0:=⟨Nat.zero_le _,fun j t h=>absurd h (Nat.not_lt_zero _),fun j s t h=>absurd h (Nat.not_lt_zero _)⟩
theorem ChkB.succ {k:Nat} {s:Int × Int} (h:ChkB T S k) (ht:S[k]?=some s) (h1:s.1 < s.2∧¬ (leftR T s.1 s.2 < 0∧leftR T s.2 s.1 < 0)) (h2:∀ j u,k=j+1→S[j]?=some u→ltS u s):ChkB T S (k+1):=by
 have hk:=(List.getElem?_eq_some_iff.1 ht).1
 refine ⟨hk,fun j u hj hu=>?_,fun j s u hj hs hu=>?_⟩
 ·by_cases e:j=k
  ·subst e;rw [ht] at hu;cases hu;exact h1
  ·exact h.seg j u (by omega) hu
 ·by_cases e:j+1=k
  ·subst e;rw [ht] at hu;cases hu;exact h2 j s rfl hs
  ·exact h.ris j s u (by omega) hs hu
theorem chk_end (hO:Ori o) (hA:ChkA n o T S T.length) (hB:ChkB T S S.length):chkR n o T S=0:=by
 have lt:∀ {α:Type} {l:List α} {i:Nat} {x:α},l[i]?=some x→i < l.length:=fun h=>(List.getElem?_eq_some_iff.1 h).1
 refine chk_ok (ok_of hO (fun t ht=>?_) (fun i s t hs ht=>hA.ris i s t (lt ht) hs ht) (fun i t ht e he=>hA.lef i t (lt ht) ht e he) (fun s hs=>?_) (fun i s t hs ht=>hB.ris i s t (lt ht) hs ht))
 ·obtain ⟨i,hi,e⟩:=List.getElem_of_mem ht
  exact hA.tri i t hi (by rw [List.getElem?_eq_getElem hi,e])
 ·obtain ⟨i,hi,e⟩:=List.getElem_of_mem hs
  exact hB.seg i s hi (by rw [List.getElem?_eq_getElem hi,e])
/-! ### How it fails -/
theorem chk_tri (hO:Ori o) {k:Nat} {t u:Int × Int × Int} {b:Bool} (ht:T[k]?=some t) (he:triR n o t.1 t.2.1 t.2.2=(u,b)) (h:b=false∨u≠t):chkR n o T S=2 :=
 chk_no (no_tri (List.mem_of_getElem? ht) fun hg=>by
  rw [(goodT_iff hO).2 hg] at he
  cases he
  rcases h with h|h
  ·cases h
  ·exact h rfl)
theorem chk_good (hO:Ori o) {t:Int × Int × Int} (he:triR n o t.1 t.2.1 t.2.2=(t,true)):goodT n o t:=(goodT_iff hO).1 he
theorem chk_ris {k:Nat} {s t:Int × Int × Int} (hs:T[k]?=some s) (ht:T[k+1]?=some t) (h:¬ ltT s t):chkR n o T S=2:=chk_no (no_ris hs ht h)
theorem chk_left {k:Nat} {t:Int × Int × Int} (ht:T[k]?=some t) {j:Nat} {e:Int × Int} (he:(edg t)[j]?=some e) (h:leftR T e.1 e.2≠k):chkR n o T S=2:=chk_no fun M=>h (left_of M.once ht (List.mem_of_getElem? he))
theorem chk_rim {k:Nat} {t:Int × Int × Int} (ht:T[k]?=some t) {j:Nat} {e:Int × Int} (he:(edg t)[j]?=some e) (h1:leftR T e.2 e.1 < 0) (h2:¬ ((e.1,e.2)∈S∨(e.2,e.1)∈S)):chkR n o T S=2 :=
 chk_no (no_rim (mem_edgs.2 ⟨t,List.mem_of_getElem? ht,List.mem_of_getElem? he⟩) (left_none.1 h1) fun hm=>h2 (by
  unfold nrm at hm
  rcases Int.le_total e.1 e.2 with h|h
  ·left;rwa [Int.min_eq_left h,Int.max_eq_right h] at hm
  ·right;rwa [Int.min_eq_right h,Int.max_eq_left h] at hm))
theorem chk_seg {k:Nat} {s:Int × Int} (hs:S[k]?=some s) (h:¬ s.1 < s.2∨(leftR T s.1 s.2 < 0∧leftR T s.2 s.1 < 0)):chkR n o T S=2 :=
 chk_no (no_seg (List.mem_of_getElem? hs) (h.imp id fun h=>⟨left_none.1 h.1,left_none.1 h.2⟩))
theorem chk_segs {k:Nat} {s t:Int × Int} (hs:S[k]?=some s) (ht:S[k+1]?=some t) (h:¬ ltS s t):chkR n o T S=2:=chk_no (no_segs hs ht h)
end
end Go.Proofs.YtkgagdjogedoiaaGreat

set_option linter.unusedVariables false
set_option linter.unusedSimpArgs false
namespace Go.Proofs.YtkgagdjogedoiaaGreat
section
variable {n:Nat} {o:Int→Int→Int→Int} {T:List (Int × Int × Int)} {S:List (Int × Int)}
structure ChkP (n:Nat) (o:Int→Int→Int→Int) (T:List (Int × Int × Int)) (k:Nat) (L:List (Int × Int)):Prop where
 le:k≤T.length
 tri:∀ (j:Nat) t,j < k→T[j]?=some t→goodT n o t
 ris:∀ (j:Nat) s t,j+1 < k→T[j]?=some s→T[j+1]?=some t→ltT s t
 once:(edgs (T.take k)).Nodup
 mem:∀ x,x∈L↔x∈edgs (T.take k)
structure ChkQ (T:List (Int × Int × Int)) (k:Nat) (t:Int × Int × Int) (m:Nat) (M:List (Int × Int)):Prop where
 le:m≤3
 once:(edgs (T.take k)++(edg t).take m).Nodup
 mem:∀ x,x∈M↔x∈edgs (T.take k)++(edg t).take m
theorem ChkP.zero:ChkP n o T 0 []:=⟨Nat.zero_le _,fun j t h=>absurd h (Nat.not_lt_zero _),fun j s t h=>absurd h (Nat.not_lt_zero _),by simp [edgs],by simp [edgs]⟩
theorem ChkQ.zero {k:Nat} {t:Int × Int × Int} {L:List (Int × Int)} (h:ChkP n o T k L):ChkQ T k t 0 L:=⟨Nat.zero_le _,by simpa using h.once,by simpa using h.mem⟩
theorem ChkQ.succ {k m:Nat} {t:Int × Int × Int} {M:List (Int × Int)} {e:Int × Int} (h:ChkQ T k t m M) (he:(edg t)[m]?=some e) (hno:e ∉ M):ChkQ T k t (m+1) (e :: M):=by
 have hm:m < 3:=(List.getElem?_eq_some_iff.1 he).1
 refine ⟨hm,?_,fun x=>?_⟩
 ·rw [take_succ' he,← List.append_assoc,List.nodup_append]
  refine ⟨h.once,by simp,fun a ha b hb=>?_⟩
  rw [List.mem_singleton] at hb
  subst hb
  exact fun e1=>hno ((h.mem _).2 (e1 ▸ ha))
 ·rw [take_succ' he,← List.append_assoc,List.mem_append,← h.mem x,List.mem_cons,List.mem_singleton]
  exact or_comm
theorem ChkP.succ {k:Nat} {t:Int × Int × Int} {L M:List (Int × Int)} (h:ChkP n o T k L) (ht:T[k]?=some t) (h1:goodT n o t) (h2:∀ j s,k=j+1→T[j]?=some s→ltT s t) (h3:ChkQ T k t 3 M):ChkP n o T (k+1) M:=by
 have hk:=(List.getElem?_eq_some_iff.1 ht).1
 refine ⟨hk,fun j u hj hu=>?_,fun j s u hj hs hu=>?_,?_,?_⟩
 ·by_cases e:j=k
  ·subst e;rw [ht] at hu;cases hu;exact h1
  ·exact h.tri j u (by omega) hu
 ·by_cases e:j+1=k
  ·subst e;rw [ht] at hu;cases hu;exact h2 j s rfl hs
  ·exact h.ris j s u (by omega) hs hu
 ·rw [edgs_succ ht];exact h3.once
 ·rw [edgs_succ ht];exact h3.mem
structure ChkS (T:List (Int × Int × Int)) (S:List (Int × Int)) (k:Nat) (L:List (Int × Int)):Prop where
 le:k≤S.length
 seg:∀ (j:Nat) s,j < k→S[j]?=some s→s.1 < s.2∧(s∈edgs T∨rv s∈edgs T)
 ris:∀ (j:Nat) s t,j+1 < k→S[j]?=some s→S[j+1]?=some t→ltS s t
 mem:∀ x,x∈L↔x∈S.take k
theorem ChkS.zero:ChkS T S 0 []:=⟨Nat.zero_le _,fun j t h=>absurd h (Nat.not_lt_zero _),fun j s t h=>absurd h (Nat.not_lt_zero _),by simp⟩
theorem ChkS.succ {k:Nat} {s:Int × Int} {L:List (Int × Int)} (h:ChkS T S k L) (ht:S[k]?=some s) (h1:s.1 < s.2) (h1':s∈edgs T∨rv s∈edgs T) (h2:∀ j u,k=j+1→S[j]?=some u→ltS u s):ChkS T S (k+1) (s :: L):=by
 have hk:=(List.getElem?_eq_some_iff.1 ht).1
 refine ⟨hk,fun j u hj hu=>?_,fun j s u hj hs hu=>?_,fun x=>?_⟩
 ·by_cases e:j=k
  ·subst e;rw [ht] at hu;cases hu;exact ⟨h1,h1'⟩
  ·exact h.seg j u (by omega) hu
 ·by_cases e:j+1=k
  ·subst e;rw [ht] at hu;cases hu;exact h2 j s rfl hs
  ·exact h.ris j s u (by omega) hs hu
 ·rw [take_succ' ht,List.mem_append,← h.mem x,List.mem_cons,List.mem_singleton]
  exact or_comm
theorem chk_fin {L M:List (Int × Int)} (hA:ChkP n o T T.length L) (hB:ChkS T S S.length M) (hr:∀ e∈L,rv e∈L∨nrm e∈M):chkR n o T S=0:=by
 have lt:∀ {α:Type} {l:List α} {i:Nat} {x:α},l[i]?=some x→i < l.length:=fun h=>(List.getElem?_eq_some_iff.1 h).1
 have hm:=hA.mem
 have hn:=hA.once
 have hm2:=hB.mem
 rw [List.take_length] at hm hn hm2
 refine chk_ok ⟨fun t ht=>?_,fun i s t hs ht=>hA.ris i s t (lt ht) hs ht,hn,fun e he=>?_,fun s hs=>?_,fun i s t hs ht=>hB.ris i s t (lt ht) hs ht⟩
 ·obtain ⟨i,hi,e⟩:=List.getElem_of_mem ht
  exact hA.tri i t hi (by rw [List.getElem?_eq_getElem hi,e])
 ·rcases hr e ((hm e).2 he) with h|h
  ·exact .inl ((hm _).1 h)
  ·exact .inr ((hm2 _).1 h)
 ·obtain ⟨i,hi,e⟩:=List.getElem_of_mem hs
  exact hB.seg i s hi (by rw [List.getElem?_eq_getElem hi,e])
theorem chk_twice {k m:Nat} {t:Int × Int × Int} {M:List (Int × Int)} {e:Int × Int} (ht:T[k]?=some t) (he:(edg t)[m]?=some e) (h:ChkQ T k t m M) (hin:e∈M):chkR n o T S=2:=chk_no (no_once ht he ((h.mem e).1 hin))
theorem chk_sege {k:Nat} {s:Int × Int} {L:List (Int × Int)} (hA:ChkP n o T T.length L) (hs:S[k]?=some s) (h:¬ s.1 < s.2∨(s ∉ L∧rv s ∉ L)):chkR n o T S=2:=by
 have hm:=hA.mem
 rw [List.take_length] at hm
 exact chk_no (no_seg (List.mem_of_getElem? hs) (h.imp id fun h=>⟨fun x=>h.1 ((hm _).2 x),fun x=>h.2 ((hm _).2 x)⟩))
theorem chk_rime {e:Int × Int} {L M:List (Int × Int)} (hA:ChkP n o T T.length L) (hB:ChkS T S S.length M) (he:e∈L) (h1:rv e ∉ L) (h2:nrm e ∉ M):chkR n o T S=2:=by
 have hm:=hA.mem
 have hm2:=hB.mem
 rw [List.take_length] at hm hm2
 exact chk_no (no_rim ((hm e).1 he) (fun x=>h1 ((hm _).2 x)) (fun x=>h2 ((hm2 _).2 x)))
theorem edg_wf {t:Int × Int × Int} (h:goodT n o t) {e:Int × Int} (he:e∈edg t):(0≤e.1∧e.1 < n)∧(0≤e.2∧e.2 < n):=by
 obtain ⟨h1,h2,h3,_⟩:=h
 unfold edg at he
 simp only [List.mem_cons,List.not_mem_nil,or_false] at he
 rcases he with rfl|rfl|rfl<;>exact ⟨by assumption,by assumption⟩
theorem all_wf {L:List (Int × Int)} (hA:ChkP n o T T.length L) {e:Int × Int} (he:e∈L):(0≤e.1∧e.1 < n)∧(0≤e.2∧e.2 < n):=by
 have h:=(hA.mem e).1 he
 obtain ⟨t,ht,hm⟩:=mem_edgs.1 h
 rw [List.take_length] at ht
 obtain ⟨i,hi,e1⟩:=List.getElem_of_mem ht
 exact edg_wf (hA.tri i t hi (by rw [List.getElem?_eq_getElem hi,e1])) hm
end
end Go.Proofs.YtkgagdjogedoiaaGreat

set_option linter.unusedVariables false
set_option linter.unusedSimpArgs false
namespace Go.Proofs.YtkgagdjogedoiaaGreat
open Go Go.RowKit Go.Proofs.YtkgagdjogedoiaaGreat.Fx Go.Proofs.YtkgagdjogedoiaaGreatW.PrintWords
def dP (P:List (Int × Int)) (a b c:Int):Bool:=disB (atP P a).1 (atP P a).2 (atP P b).1 (atP P b).2 (atP P c).1 (atP P c).2
theorem dP_at {P:List (Int × Int)} {a b c:Int} {u v w:Nat} {p q r:Int × Int} (ha:a=u) (hb:b=v) (hc:c=w) (hp:P[u]?=some p) (hq:P[v]?=some q) (hr:P[w]?=some r):disB p.1 p.2 q.1 q.2 r.1 r.2=dP P a b c:=by
 subst ha hb hc
 unfold dP
 rw [atP_of hp,atP_of hq,atP_of hr]
def sP (P:List (Int × Int)) (t:Int × Int × Int):Bool:=skB (atP P t.1).1 (atP P t.1).2 (atP P t.2.1).1 (atP P t.2.1).2 (atP P t.2.2).1 (atP P t.2.2).2
theorem sP_at {P:List (Int × Int)} {t:Int × Int × Int} {u v w:Nat} {p q r:Int × Int} (ha:t.1=u) (hb:t.2.1=v) (hc:t.2.2=w) (hp:P[u]?=some p) (hq:P[v]?=some q) (hr:P[w]?=some r):skB p.1 p.2 q.1 q.2 r.1 r.2=sP P t:=by
 unfold sP
 rw [ha,hb,hc,atP_of hp,atP_of hq,atP_of hr]
def nP (P:List (Int × Int)) (q:Int × Int) (s:Int × Int):Bool:=disB (atP P s.1).1 (atP P s.1).2 (atP P s.2).1 (atP P s.2).2 q.1 q.2
theorem nP_at {P:List (Int × Int)} {s q0:Int × Int} {u v:Nat} {p q:Int × Int} (ha:s.1=u) (hb:s.2=v) (hp:P[u]?=some p) (hq:P[v]?=some q):disB p.1 p.2 q.1 q.2 q0.1 q0.2=nP P q0 s:=by
 unfold nP
 rw [ha,hb,atP_of hp,atP_of hq]
/-! ### Across an edge -/
def rots (t:Int × Int × Int):List (Int × Int × Int):=[(t.1,t.2.1,t.2.2),(t.2.1,t.2.2,t.1),(t.2.2,t.1,t.2.1)]
def hits (a b:Int) (s:Int × Int × Int):Prop:=(s.1=a∧s.2.1=b)∨(s.1=b∧s.2.1=a)
theorem third_hit {t s:Int × Int × Int} {a b:Int} {k:Nat} (hk:(rots t)[k]?=some s) (hh:hits a b s) (hn:∀ x∈(rots t).take k,¬ hits a b x):thirdR t a b=some s.2.2:=by
 match k,hk with
 | 0,hk=>cases hk;exact if_pos hh
 | 1,hk =>
  cases hk
  have h0:=hn _ (show (t.1,t.2.1,t.2.2)∈(rots t).take 1 by simp [rots])
  exact (if_neg h0).trans (if_pos hh)
 | 2,hk =>
  cases hk
  have h0:=hn _ (show (t.1,t.2.1,t.2.2)∈(rots t).take 2 by simp [rots])
  have h1:=hn _ (show (t.2.1,t.2.2,t.1)∈(rots t).take 2 by simp [rots])
  exact (if_neg h0).trans ((if_neg h1).trans (if_pos hh))
theorem third_miss {t:Int × Int × Int} {a b:Int} (hn:∀ x∈(rots t).take 3,¬ hits a b x):thirdR t a b=none:=by
 have h0:=hn _ (show (t.1,t.2.1,t.2.2)∈(rots t).take 3 by simp [rots])
 have h1:=hn _ (show (t.2.1,t.2.2,t.1)∈(rots t).take 3 by simp [rots])
 have h2:=hn _ (show (t.2.2,t.1,t.2.1)∈(rots t).take 3 by simp [rots])
 exact (if_neg h0).trans ((if_neg h1).trans (if_neg h2))
theorem third_mem {t:Int × Int × Int} {a b c:Int} (h:thirdR t a b=some c):c=t.1∨c=t.2.1∨c=t.2.2:=by
 unfold thirdR at h
 split at h
 ·cases h;simp
 split at h
 ·cases h;simp
 split at h
 ·cases h;simp
 ·cases h
theorem third_in {P:List (Int × Int)} {t:Int × Int × Int} {a b c:Int} (hg:goodT P.length (oP P) t) (h:thirdR t a b=some c):InP P c:=by
 obtain ⟨h1,h2,h3,_⟩:=hg
 rcases third_mem h with rfl|rfl|rfl
 ·exact inP h1
 ·exact inP h2
 ·exact inP h3
theorem good_in {P:List (Int × Int)} {t:Int × Int × Int} (hg:goodT P.length (oP P) t):InP P t.1∧InP P t.2.1∧InP P t.2.2:=⟨inP hg.1,inP hg.2.1,inP hg.2.2.1⟩
theorem seg_in {P:List (Int × Int)} {T:List (Int × Int × Int)} {S:List (Int × Int)} (hM:MeshOK P.length (oP P) T S) {s:Int × Int} (hs:s∈S):InP P s.1∧InP P s.2:=by
 rcases (hM.seg s hs).2 with h|h
 ·obtain ⟨t,ht,he⟩:=mem_edgs.1 h
  obtain ⟨h1,h2⟩:=edg_wf (hM.tri t ht) he
  exact ⟨inP h1,inP h2⟩
 ·obtain ⟨t,ht,he⟩:=mem_edgs.1 h
  obtain ⟨h1,h2⟩:=edg_wf (hM.tri t ht) he
  exact ⟨inP h2,inP h1⟩
/-! ### Indices of those that are so -/
def idxs (b:Nat→Bool) (n:Nat):List Int:=((List.range n).filter b).map fun (i:Nat)=>(i:Int)
theorem idxs_yes {b:Nat→Bool} {k:Nat} (h:b k=true):idxs b (k+1)=idxs b k++[(k:Int)]:=by simp [idxs,List.range_succ,h]
theorem idxs_no {b:Nat→Bool} {k:Nat} (h:b k=false):idxs b (k+1)=idxs b k:=by simp [idxs,List.range_succ,h]
theorem idxs_len (b:Nat→Bool) (n:Nat):(idxs b n).length≤n:=by
 unfold idxs
 rw [List.length_map]
 exact Nat.le_trans (List.length_filter_le _ _) (by simp)
theorem idxs_first {b:Nat→Bool}:∀ {n:Nat},(idxs b n=[]∧∀ j,j < n→b j=false)∨∃ (k:Nat) (r:List Int),idxs b n=(k:Int) :: r∧k < n∧b k=true∧∀ j,j < k→b j=false
 | 0 => .inl ⟨rfl,fun j h=>absurd h (Nat.not_lt_zero _)⟩
 | n+1=>by
  rcases idxs_first (b:=b) (n:=n) with ⟨h1,h2⟩|⟨k,r,h1,h2,h3,h4⟩
  ·cases hb:b n with
   | true=>exact .inr ⟨n,[],by rw [idxs_yes hb,h1];rfl,by omega,hb,h2⟩
   | false =>
    refine .inl ⟨by rw [idxs_no hb,h1],fun j hj=>?_⟩
    by_cases e:j=n
    ·rw [e];exact hb
    ·exact h2 j (by omega)
  ·cases hb:b n with
   | true=>exact .inr ⟨k,r++[(n:Int)],by rw [idxs_yes hb,h1];rfl,by omega,h3,h4⟩
   | false=>exact .inr ⟨k,r,by rw [idxs_no hb,h1],by omega,h3,h4⟩
def atB {α:Type} (l:List α) (p:α→Bool) (i:Nat):Bool:=match l[i]? with
 | some s=>p s
 | none=>false
theorem atB_of {α:Type} {l:List α} {p:α→Bool} {i:Nat} {s:α} (h:l[i]?=some s):atB l p i=p s:=by unfold atB;rw [h]
def fstR (b:Nat→Bool) (n:Nat):Int × Bool:=if firstFrom b 0 n < 0 then (0,false) else (firstFrom b 0 n,true)
theorem fst_at {b:Nat→Bool} {n k:Nat} (h:k < n) (hb:b k=true) (hn:∀ j,j < k→b j=false):fstR b n=((k:Int),true):=by
 unfold fstR
 rw [first_at (k:=k) (fun j _ hj=>hn j hj) hb (Nat.zero_le _) (by omega),if_neg (by omega)]
theorem fst_no {b:Nat→Bool} {n:Nat} (hn:∀ j,j < n→b j=false):fstR b n=(0,false):=by
 unfold fstR
 rw [first_none (fun j _ hj=>hn j (by omega)),if_pos (by decide)]
/-! ### The answers -/
section
variable (P:List (Int × Int)) (T:List (Int × Int × Int)) (S:List (Int × Int))
def crw (s:Int × Int):List Int:=crwR T (dP P s.1 s.2) s.1 s.2
def crdB (i:Nat):Bool:=atB S (fun s=>decide (((crw P T s).length:Int) > 0)) i
noncomputable def mC:Int:=chkR P.length (oP P) T S
noncomputable def crdL:List Int:=if mC P T S=0 then idxs (crdB P T S) S.length else []
noncomputable def sknL:List Int:=if mC P T S=0 then idxs (atB T (sP P)) T.length else []
noncomputable def nerR (q:Int × Int):Int × Bool:=if mC P T S=0 then fstR (atB S (nP P q)) S.length else (0,false)
noncomputable def crwL (s:Int × Int):List Int:=if mC P T S=0∧s∈S then crw P T s else []
noncomputable def goodR:Bool:=decide (mC P T S=0) && (((crdL P T S).length:Int)+((sknL P T S).length:Int)==0)
end
section
variable {P:List (Int × Int)} {T:List (Int × Int × Int)} {S:List (Int × Int)}
theorem mC_two:mC P T S=0∨mC P T S=2:=by
 unfold mC chkR
 split<;>simp
theorem mC_ok (h:mC P T S=0):MeshOK P.length (oP P) T S:=Classical.byContradiction fun hn=>by
 unfold mC at h
 rw [chk_no hn] at h
 cases h
theorem crdL_of (h:mC P T S=0):crdL P T S=idxs (crdB P T S) S.length:=if_pos h
theorem crdL_no (h:mC P T S=2):crdL P T S=[]:=if_neg (by omega)
theorem sknL_of (h:mC P T S=0):sknL P T S=idxs (atB T (sP P)) T.length:=if_pos h
theorem sknL_no (h:mC P T S=2):sknL P T S=[]:=if_neg (by omega)
theorem nerR_of {q:Int × Int} (h:mC P T S=0):nerR P T S q=fstR (atB S (nP P q)) S.length:=if_pos h
theorem nerR_no {q:Int × Int} (h:mC P T S=2):nerR P T S q=(0,false):=if_neg (by omega)
theorem all_succ' {k:Nat} {t:Int × Int × Int} {a b:Int} (h:T[k]?=some t):crwAll (T.take (k+1)) a b=crwAll (T.take k) a b++(thirdR t a b).toList:=by
 rw [take_succ' h]
 unfold crwAll
 rw [List.filterMap_append]
 cases h2:thirdR t a b<;>simp [h2]
def crF (P:List (Int × Int)) (T:List (Int × Int × Int)) (s:Int × Int) (k:Nat):List Int:=(crwAll (T.take k) s.1 s.2).filter (dP P s.1 s.2)
theorem crF_len (P:List (Int × Int)) (T:List (Int × Int × Int)) (s:Int × Int) (k:Nat):(crF P T s k).length≤k:=by
 unfold crF crwAll
 exact Nat.le_trans (List.length_filter_le _ _) (Nat.le_trans (List.length_filterMap_le _ _) (by rw [List.length_take];exact Nat.min_le_left _ _))
theorem crF_none {k:Nat} {t:Int × Int × Int} {s:Int × Int} (h:T[k]?=some t) (h2:thirdR t s.1 s.2=none):crF P T s (k+1)=crF P T s k:=by
 unfold crF
 rw [all_succ' h,h2]
 simp
theorem crF_out {k:Nat} {t:Int × Int × Int} {s:Int × Int} {c:Int} (h:T[k]?=some t) (h2:thirdR t s.1 s.2=some c) (hd:dP P s.1 s.2 c=false):crF P T s (k+1)=crF P T s k:=by
 unfold crF
 rw [all_succ' h,h2]
 simp [hd]
theorem crF_in {k:Nat} {t:Int × Int × Int} {s:Int × Int} {c:Int} (h:T[k]?=some t) (h2:thirdR t s.1 s.2=some c) (hd:dP P s.1 s.2 c=true):crF P T s (k+1)=crF P T s k++[c]:=by
 unfold crF
 rw [all_succ' h,h2]
 simp [hd]
theorem MeshOK.apart (hM:MeshOK P.length (oP P) T S):∀ t∈T,apartT t:=fun t ht=>(hM.tri t ht).apart (oP_ori P)
theorem crw_ways (hM:MeshOK P.length (oP P) T S) {s:Int × Int} (hs:s∈S):(crw P T s=crF P T s T.length∧(crF P T s T.length).length≤2∧∀ x y,crF P T s T.length=[x,y]→¬ y < x)∨∃ x y,crF P T s T.length=[x,y]∧y < x∧crw P T s=[y,x]:=by
 have h:=(crw_same hM.apart hM.once (dP P s.1 s.2) (a:=s.1) (b:=s.2) (by have:=(hM.seg s hs).1;omega)).2.2
 have e:crF P T s T.length=(crwAll T s.1 s.2).filter (dP P s.1 s.2):=by unfold crF;rw [List.take_length]
 rw [← e] at h
 unfold crw crwR
 rw [← e]
 match hl:crF P T s T.length,h with
 | [],_=>exact .inl ⟨rfl,by simp,by simp⟩
 | [x],_=>exact .inl ⟨rfl,by simp,by simp⟩
 | [x,y],_ =>
  by_cases c:y < x
  ·exact .inr ⟨x,y,rfl,c,if_pos c⟩
  ·refine .inl ⟨if_neg c,by simp,fun x' y' e=>?_⟩
   simp only [List.cons.injEq,and_true] at e
   obtain ⟨rfl,rfl⟩:=e
   exact c
 | x :: y :: z :: l,h=>exact absurd h (by simp)
end
end Go.Proofs.YtkgagdjogedoiaaGreat

set_option linter.unusedVariables false
set_option linter.unusedSimpArgs false
namespace Go.Proofs.YtkgagdjogedoiaaGreat
open Go Go.RowKit Go.Proofs.YtkgagdjogedoiaaGreat.Fx Go.Proofs.YtkgagdjogedoiaaGreatW.PrintWords
def T1:List (Int × Int × Int):=[(0,1,2)]
def S1:List (Int × Int):=[(0,1),(0,2),(1,2)]
section
variable {a b c:Int × Int}
abbrev ori3 (a b c:Int × Int):Int:=oriZ a.1 a.2 b.1 b.2 c.1 c.2
abbrev dis3 (a b c:Int × Int):Bool:=disB a.1 a.2 b.1 b.2 c.1 c.2
abbrev sk3 (a b c:Int × Int):Bool:=skB a.1 a.2 b.1 b.2 c.1 c.2
theorem tri_ok (h:ori3 a b c=1):MeshOK ([a,b,c]:List (Int × Int)).length (oP [a,b,c]) T1 S1:=by
 refine ⟨fun t ht=>?_,fun i s t hs ht=>?_,by decide,by decide,by decide,fun i s t hs ht=>?_⟩
 ·simp only [T1,List.mem_singleton] at ht
  subst ht
  refine ⟨by simp,by simp,by simp,by simp [least],?_⟩
  show oP [a,b,c] 0 1 2=1
  exact h
 ·have:i+1 < 1:=(List.getElem?_eq_some_iff.1 ht).1
  omega
 ·have hi:i+1 < 3:=(List.getElem?_eq_some_iff.1 ht).1
  match i,hs,ht with
  | 0,hs,ht=>cases hs;cases ht;decide
  | 1,hs,ht=>cases hs;cases ht;decide
  | i+2,hs,ht=>omega
theorem tri_mC (h:ori3 a b c=1):mC [a,b,c] T1 S1=0:=chk_ok (tri_ok h)
theorem one_sort (d:Int→Bool) (x:Int):sort2 ([x].filter d)=if d x=true then [x] else []:=by
 cases h:d x<;>simp [List.filter,h,sort2]
theorem crw_0:crw [a,b,c] T1 (0,1)=if dis3 a b c=true then [2] else []:=one_sort (dP [a,b,c] 0 1) 2
theorem crw_1:crw [a,b,c] T1 (0,2)=if dis3 a c b=true then [1] else []:=one_sort (dP [a,b,c] 0 2) 1
theorem crw_2:crw [a,b,c] T1 (1,2)=if dis3 b c a=true then [0] else []:=one_sort (dP [a,b,c] 1 2) 0
theorem crdB_0:crdB [a,b,c] T1 S1 0=dis3 a b c:=by
 show decide (((crw [a,b,c] T1 (0,1)).length:Int) > 0)=_
 rw [crw_0]
 cases dis3 a b c<;>rfl
theorem crdB_1:crdB [a,b,c] T1 S1 1=dis3 a c b:=by
 show decide (((crw [a,b,c] T1 (0,2)).length:Int) > 0)=_
 rw [crw_1]
 cases dis3 a c b<;>rfl
theorem crdB_2:crdB [a,b,c] T1 S1 2=dis3 b c a:=by
 show decide (((crw [a,b,c] T1 (1,2)).length:Int) > 0)=_
 rw [crw_2]
 cases dis3 b c a<;>rfl
def want3 (x y z:Bool):List Int:=(if x then [0] else [])++(if y then [1] else [])++(if z then [2] else [])
theorem crdL_tri (h:ori3 a b c=1):crdL [a,b,c] T1 S1=want3 (dis3 a b c) (dis3 a c b) (dis3 b c a):=by
 rw [crdL_of (tri_mC h)]
 show idxs (crdB [a,b,c] T1 S1) 3=_
 have e:∀ f:Nat→Bool,idxs f 3=want3 (f 0) (f 1) (f 2):=fun f=>by
  unfold want3
  cases h0:f 0<;>cases h1:f 1<;>cases h2:f 2<;>simp [idxs,List.range_succ,h0,h1,h2]
 rw [e,crdB_0,crdB_1,crdB_2]
theorem sknL_tri (h:ori3 a b c=1):sknL [a,b,c] T1 S1=if sk3 a b c then [0] else []:=by
 rw [sknL_of (tri_mC h)]
 show idxs (atB T1 (sP [a,b,c])) 1=_
 have e:atB T1 (sP [a,b,c]) 0=sk3 a b c:=rfl
 cases hs:sk3 a b c
 ·rw [idxs_no (e.trans hs)];rfl
 ·rw [idxs_yes (e.trans hs)];rfl
end
/-! ### The example -/
def P0:List (Int × Int):=[(0,0),(8,0),(4,1)]
theorem kn_ori:ori3 (0,0) (8,0) (4,1)=1:=by decide +kernel
theorem kn_d1:dis3 (0,0) (8,0) (4,1)=true:=by decide +kernel
theorem kn_d2:dis3 (0,0) (4,1) (8,0)=false:=by decide +kernel
theorem kn_d3:dis3 (8,0) (4,1) (0,0)=false:=by decide +kernel
theorem kn_sk:sk3 (0,0) (8,0) (4,1)=true:=by decide +kernel
theorem kn_mC:mC P0 T1 S1=0:=tri_mC kn_ori
theorem kn_crd:crdL P0 T1 S1=[0]:=(crdL_tri kn_ori).trans (by rw [kn_d1,kn_d2,kn_d3];rfl)
theorem kn_skn:sknL P0 T1 S1=[0]:=(sknL_tri kn_ori).trans (by rw [kn_sk];rfl)
theorem kn_crw:crwL P0 T1 S1 (0,1)=[2]:=(if_pos ⟨kn_mC,by decide⟩).trans (crw_0.trans (by rw [kn_d1];rfl))
theorem kn_ner:nerR P0 T1 S1 (4,1)=(0,true):=(nerR_of kn_mC).trans (fst_at (k:=0) (by decide) (show nP P0 (4,1) (0,1)=true from kn_d1) (fun j h=>absurd h (Nat.not_lt_zero _)))
theorem kn_good:goodR P0 T1 S1=false:=by
 unfold goodR
 rw [kn_crd,kn_skn,Bool.and_eq_false_iff]
 exact .inr (by decide)
theorem kn_bad:mC [] [(0,0,0)] []=2:=chk_no fun hM=>by
 have:=(hM.tri (0,0,0) (by simp)).1.2
 simp at this
end Go.Proofs.YtkgagdjogedoiaaGreat

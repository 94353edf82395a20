/- Meshes in plain words: how far the program's check has come, and how it fails. -/
import Derived.Test.YtkgagdjogedoiaaGreatDp6
set_option linter.unusedVariables false
set_option linter.unusedSimpArgs false
namespace Go.Proofs.YtkgagdjogedoiaaGreat
section
variable {n:Nat} {o:Int→Int→Int→Int} {T:List (Int × Int × Int)} {S:List (Int × Int)}
structure ChkP (n:Nat) (o:Int→Int→Int→Int) (T:List (Int × Int × Int)) (k:Nat) (L:List (Int × Int)):Prop where
 le:k≤T.length
 tri:∀ (j:Nat) t,j < k→T[j]?=some t→goodT n o t
 ris:∀ (j:Nat) s t,j+1 < k→T[j]?=some s→T[j+1]?=some t→ltT s t
 once:(edgs (T.take k)).Nodup
 mem:∀ x,x∈L↔x∈edgs (T.take k)
structure ChkQ (T:List (Int × Int × Int)) (k:Nat) (t:Int × Int × Int) (m:Nat) (M:List (Int × Int)):Prop where
 le:m≤3
 once:(edgs (T.take k)++(edg t).take m).Nodup
 mem:∀ x,x∈M↔x∈edgs (T.take k)++(edg t).take m
theorem ChkP.zero:ChkP n o T 0 []:=⟨Nat.zero_le _,fun j t h=>absurd h (Nat.not_lt_zero _),fun j s t h=>absurd h (Nat.not_lt_zero _),by simp [edgs],by simp [edgs]⟩
theorem ChkQ.zero {k:Nat} {t:Int × Int × Int} {L:List (Int × Int)} (h:ChkP n o T k L):ChkQ T k t 0 L:=⟨Nat.zero_le _,by simpa using h.once,by simpa using h.mem⟩
theorem ChkQ.succ {k m:Nat} {t:Int × Int × Int} {M:List (Int × Int)} {e:Int × Int} (h:ChkQ T k t m M) (he:(edg t)[m]?=some e) (hno:e ∉ M):ChkQ T k t (m+1) (e :: M):=by
 have hm:m < 3:=(List.getElem?_eq_some_iff.1 he).1
 refine ⟨hm,?_,fun x=>?_⟩
 ·rw [take_succ' he,← List.append_assoc,List.nodup_append]
  refine ⟨h.once,by simp,fun a ha b hb=>?_⟩
  rw [List.mem_singleton] at hb
  subst hb
  exact fun e1=>hno ((h.mem _).2 (e1 ▸ ha))
 ·rw [take_succ' he,← List.append_assoc,List.mem_append,← h.mem x,List.mem_cons,List.mem_singleton]
  exact or_comm
theorem ChkP.succ {k:Nat} {t:Int × Int × Int} {L M:List (Int × Int)} (h:ChkP n o T k L) (ht:T[k]?=some t) (h1:goodT n o t) (h2:∀ j s,k=j+1→T[j]?=some s→ltT s t) (h3:ChkQ T k t 3 M):ChkP n o T (k+1) M:=by
 have hk:=(List.getElem?_eq_some_iff.1 ht).1
 refine ⟨hk,fun j u hj hu=>?_,fun j s u hj hs hu=>?_,?_,?_⟩
 ·by_cases e:j=k
  ·subst e;rw [ht] at hu;cases hu;exact h1
  ·exact h.tri j u (by omega) hu
 ·by_cases e:j+1=k
  ·subst e;rw [ht] at hu;cases hu;exact h2 j s rfl hs
  ·exact h.ris j s u (by omega) hs hu
 ·rw [edgs_succ ht];exact h3.once
 ·rw [edgs_succ ht];exact h3.mem
structure ChkS (T:List (Int × Int × Int)) (S:List (Int × Int)) (k:Nat) (L:List (Int × Int)):Prop where
 le:k≤S.length
 seg:∀ (j:Nat) s,j < k→S[j]?=some s→s.1 < s.2∧(s∈edgs T∨rv s∈edgs T)
 ris:∀ (j:Nat) s t,j+1 < k→S[j]?=some s→S[j+1]?=some t→ltS s t
 mem:∀ x,x∈L↔x∈S.take k
theorem ChkS.zero:ChkS T S 0 []:=⟨Nat.zero_le _,fun j t h=>absurd h (Nat.not_lt_zero _),fun j s t h=>absurd h (Nat.not_lt_zero _),by simp⟩
theorem ChkS.succ {k:Nat} {s:Int × Int} {L:List (Int × Int)} (h:ChkS T S k L) (ht:S[k]?=some s) (h1:s.1 < s.2) (h1':s∈edgs T∨rv s∈edgs T) (h2:∀ j u,k=j+1→S[j]?=some u→ltS u s):ChkS T S (k+1) (s :: L):=by
 have hk:=(List.getElem?_eq_some_iff.1 ht).1
 refine ⟨hk,fun j u hj hu=>?_,fun j s u hj hs hu=>?_,fun x=>?_⟩
 ·by_cases e:j=k
  ·subst e;rw [ht] at hu;cases hu;exact ⟨h1,h1'⟩
  ·exact h.seg j u (by omega) hu
 ·by_cases e:j+1=k
  ·subst e;rw [ht] at hu;cases hu;exact h2 j s rfl hs
  ·exact h.ris j s u (by omega) hs hu
 ·rw [take_succ' ht,List.mem_append,← h.mem x,List.mem_cons,List.mem_singleton]
  exact or_comm
theorem chk_fin {L M:List (Int × Int)} (hA:ChkP n o T T.length L) (hB:ChkS T S S.length M) (hr:∀ e∈L,rv e∈L∨nrm e∈M):chkR n o T S=0:=by
 have lt:∀ {α:Type} {l:List α} {i:Nat} {x:α},l[i]?=some x→i < l.length:=fun h=>(List.getElem?_eq_some_iff.1 h).1
 have hm:=hA.mem
 have hn:=hA.once
 have hm2:=hB.mem
 rw [List.take_length] at hm hn hm2
 refine chk_ok ⟨fun t ht=>?_,fun i s t hs ht=>hA.ris i s t (lt ht) hs ht,hn,fun e he=>?_,fun s hs=>?_,fun i s t hs ht=>hB.ris i s t (lt ht) hs ht⟩
 ·obtain ⟨i,hi,e⟩:=List.getElem_of_mem ht
  exact hA.tri i t hi (by rw [List.getElem?_eq_getElem hi,e])
 ·rcases hr e ((hm e).2 he) with h|h
  ·exact .inl ((hm _).1 h)
  ·exact .inr ((hm2 _).1 h)
 ·obtain ⟨i,hi,e⟩:=List.getElem_of_mem hs
  exact hB.seg i s hi (by rw [List.getElem?_eq_getElem hi,e])
theorem chk_twice {k m:Nat} {t:Int × Int × Int} {M:List (Int × Int)} {e:Int × Int} (ht:T[k]?=some t) (he:(edg t)[m]?=some e) (h:ChkQ T k t m M) (hin:e∈M):chkR n o T S=2:=chk_no (no_once ht he ((h.mem e).1 hin))
theorem chk_sege {k:Nat} {s:Int × Int} {L:List (Int × Int)} (hA:ChkP n o T T.length L) (hs:S[k]?=some s) (h:¬ s.1 < s.2∨(s ∉ L∧rv s ∉ L)):chkR n o T S=2:=by
 have hm:=hA.mem
 rw [List.take_length] at hm
 exact chk_no (no_seg (List.mem_of_getElem? hs) (h.imp id fun h=>⟨fun x=>h.1 ((hm _).2 x),fun x=>h.2 ((hm _).2 x)⟩))
theorem chk_rime {e:Int × Int} {L M:List (Int × Int)} (hA:ChkP n o T T.length L) (hB:ChkS T S S.length M) (he:e∈L) (h1:rv e ∉ L) (h2:nrm e ∉ M):chkR n o T S=2:=by
 have hm:=hA.mem
 have hm2:=hB.mem
 rw [List.take_length] at hm hm2
 exact chk_no (no_rim ((hm e).1 he) (fun x=>h1 ((hm _).2 x)) (fun x=>h2 ((hm2 _).2 x)))
theorem edg_wf {t:Int × Int × Int} (h:goodT n o t) {e:Int × Int} (he:e∈edg t):(0≤e.1∧e.1 < n)∧(0≤e.2∧e.2 < n):=by
 obtain ⟨h1,h2,h3,_⟩:=h
 unfold edg at he
 simp only [List.mem_cons,List.not_mem_nil,or_false] at he
 rcases he with rfl|rfl|rfl<;>exact ⟨by assumption,by assumption⟩
theorem all_wf {L:List (Int × Int)} (hA:ChkP n o T T.length L) {e:Int × Int} (he:e∈L):(0≤e.1∧e.1 < n)∧(0≤e.2∧e.2 < n):=by
 have h:=(hA.mem e).1 he
 obtain ⟨t,ht,hm⟩:=mem_edgs.1 h
 rw [List.take_length] at ht
 obtain ⟨i,hi,e1⟩:=List.getElem_of_mem ht
 exact edg_wf (hA.tri i t hi (by rw [List.getElem?_eq_getElem hi,e1])) hm
end
end Go.Proofs.YtkgagdjogedoiaaGreat

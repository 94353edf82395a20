/- Meshes in plain words: how far the document's check has come, and how it fails. -/
import Derived.Test.YtkgagdjogedoiaaGreatDp5
set_option linter.unusedVariables false
set_option linter.unusedSimpArgs false
namespace Go.Proofs.YtkgagdjogedoiaaGreat
section
variable {n:Nat} {o:Int→Int→Int→Int} {T:List (Int × Int × Int)} {S:List (Int × Int)}
def sideOK (T:List (Int × Int × Int)) (S:List (Int × Int)) (j:Nat) (e:Int × Int):Prop:=leftR T e.1 e.2=j∧(leftR T e.2 e.1 < 0→e∈S∨rv e∈S)
structure ChkA (n:Nat) (o:Int→Int→Int→Int) (T:List (Int × Int × Int)) (S:List (Int × Int)) (k:Nat):Prop where
 le:k≤T.length
 tri:∀ (j:Nat) t,j < k→T[j]?=some t→goodT n o t
 ris:∀ (j:Nat) s t,j+1 < k→T[j]?=some s→T[j+1]?=some t→ltT s t
 lef:∀ (j:Nat) t,j < k→T[j]?=some t→∀ e∈edg t,sideOK T S j e
theorem ChkA.zero:ChkA n o T S 0:=⟨Nat.zero_le _,fun j t h=>absurd h (Nat.not_lt_zero _),fun j s t h=>absurd h (Nat.not_lt_zero _),fun j t h=>absurd h (Nat.not_lt_zero _)⟩
theorem ChkA.succ {k:Nat} {t:Int × Int × Int} (h:ChkA n o T S k) (ht:T[k]?=some t) (h1:goodT n o t) (h2:∀ j s,k=j+1→T[j]?=some s→ltT s t) (h3:∀ e∈(edg t).take 3,sideOK T S k e):ChkA n o T S (k+1):=by
 have hk:=(List.getElem?_eq_some_iff.1 ht).1
 refine ⟨hk,fun j u hj hu=>?_,fun j s u hj hs hu=>?_,fun j u hj hu=>?_⟩
 ·by_cases e:j=k
  ·subst e;rw [ht] at hu;cases hu;exact h1
  ·exact h.tri j u (by omega) hu
 ·by_cases e:j+1=k
  ·subst e;rw [ht] at hu;cases hu;exact h2 j s rfl hs
  ·exact h.ris j s u (by omega) hs hu
 ·by_cases e:j=k
  ·subst e;rw [ht] at hu;cases hu;exact h3
  ·exact h.lef j u (by omega) hu
structure ChkB (T:List (Int × Int × Int)) (S:List (Int × Int)) (k:Nat):Prop where
 le:k≤S.length
 seg:∀ (j:Nat) s,j < k→S[j]?=some s→s.1 < s.2∧¬ (leftR T s.1 s.2 < 0∧leftR T s.2 s.1 < 0)
 ris:∀ (j:Nat) s t,j+1 < k→S[j]?=some s→S[j+1]?=some t→ltS s t
theorem ChkB.zero:ChkB T S 0:=⟨Nat.zero_le _,fun j t h=>absurd h (Nat.not_lt_zero _),fun j s t h=>absurd h (Nat.not_lt_zero _)⟩
theorem ChkB.succ {k:Nat} {s:Int × Int} (h:ChkB T S k) (ht:S[k]?=some s) (h1:s.1 < s.2∧¬ (leftR T s.1 s.2 < 0∧leftR T s.2 s.1 < 0)) (h2:∀ j u,k=j+1→S[j]?=some u→ltS u s):ChkB T S (k+1):=by
 have hk:=(List.getElem?_eq_some_iff.1 ht).1
 refine ⟨hk,fun j u hj hu=>?_,fun j s u hj hs hu=>?_⟩
 ·by_cases e:j=k
  ·subst e;rw [ht] at hu;cases hu;exact h1
  ·exact h.seg j u (by omega) hu
 ·by_cases e:j+1=k
  ·subst e;rw [ht] at hu;cases hu;exact h2 j s rfl hs
  ·exact h.ris j s u (by omega) hs hu
theorem chk_end (hO:Ori o) (hA:ChkA n o T S T.length) (hB:ChkB T S S.length):chkR n o T S=0:=by
 have lt:∀ {α:Type} {l:List α} {i:Nat} {x:α},l[i]?=some x→i < l.length:=fun h=>(List.getElem?_eq_some_iff.1 h).1
 refine chk_ok (ok_of hO (fun t ht=>?_) (fun i s t hs ht=>hA.ris i s t (lt ht) hs ht) (fun i t ht e he=>hA.lef i t (lt ht) ht e he) (fun s hs=>?_) (fun i s t hs ht=>hB.ris i s t (lt ht) hs ht))
 ·obtain ⟨i,hi,e⟩:=List.getElem_of_mem ht
  exact hA.tri i t hi (by rw [List.getElem?_eq_getElem hi,e])
 ·obtain ⟨i,hi,e⟩:=List.getElem_of_mem hs
  exact hB.seg i s hi (by rw [List.getElem?_eq_getElem hi,e])
/-! ### How it fails -/
theorem chk_tri (hO:Ori o) {k:Nat} {t u:Int × Int × Int} {b:Bool} (ht:T[k]?=some t) (he:triR n o t.1 t.2.1 t.2.2=(u,b)) (h:b=false∨u≠t):chkR n o T S=2 :=
 chk_no (no_tri (List.mem_of_getElem? ht) fun hg=>by
  rw [(goodT_iff hO).2 hg] at he
  cases he
  rcases h with h|h
  ·cases h
  ·exact h rfl)
theorem chk_good (hO:Ori o) {t:Int × Int × Int} (he:triR n o t.1 t.2.1 t.2.2=(t,true)):goodT n o t:=(goodT_iff hO).1 he
theorem chk_ris {k:Nat} {s t:Int × Int × Int} (hs:T[k]?=some s) (ht:T[k+1]?=some t) (h:¬ ltT s t):chkR n o T S=2:=chk_no (no_ris hs ht h)
theorem chk_left {k:Nat} {t:Int × Int × Int} (ht:T[k]?=some t) {j:Nat} {e:Int × Int} (he:(edg t)[j]?=some e) (h:leftR T e.1 e.2≠k):chkR n o T S=2:=chk_no fun M=>h (left_of M.once ht (List.mem_of_getElem? he))
theorem chk_rim {k:Nat} {t:Int × Int × Int} (ht:T[k]?=some t) {j:Nat} {e:Int × Int} (he:(edg t)[j]?=some e) (h1:leftR T e.2 e.1 < 0) (h2:¬ ((e.1,e.2)∈S∨(e.2,e.1)∈S)):chkR n o T S=2 :=
 chk_no (no_rim (mem_edgs.2 ⟨t,List.mem_of_getElem? ht,List.mem_of_getElem? he⟩) (left_none.1 h1) fun hm=>h2 (by
  unfold nrm at hm
  rcases Int.le_total e.1 e.2 with h|h
  ·left;rwa [Int.min_eq_left h,Int.max_eq_right h] at hm
  ·right;rwa [Int.min_eq_right h,Int.max_eq_left h] at hm))
theorem chk_seg {k:Nat} {s:Int × Int} (hs:S[k]?=some s) (h:¬ s.1 < s.2∨(leftR T s.1 s.2 < 0∧leftR T s.2 s.1 < 0)):chkR n o T S=2 :=
 chk_no (no_seg (List.mem_of_getElem? hs) (h.imp id fun h=>⟨left_none.1 h.1,left_none.1 h.2⟩))
theorem chk_segs {k:Nat} {s t:Int × Int} (hs:S[k]?=some s) (ht:S[k+1]?=some t) (h:¬ ltS s t):chkR n o T S=2:=chk_no (no_segs hs ht h)
end
end Go.Proofs.YtkgagdjogedoiaaGreat

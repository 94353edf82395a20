/- Who crowds a segment, which segments, which triangles: in plain words. -/
import Derived.Test.YtkgagdjogedoiaaGreatDp7
set_option linter.unusedVariables false
set_option linter.unusedSimpArgs false
namespace Go.Proofs.YtkgagdjogedoiaaGreat
open Go Go.RowKit Go.Proofs.YtkgagdjogedoiaaGreat.Fx Go.Proofs.YtkgagdjogedoiaaGreatW.PrintWords
def dP (P:List (Int × Int)) (a b c:Int):Bool:=disB (atP P a).1 (atP P a).2 (atP P b).1 (atP P b).2 (atP P c).1 (atP P c).2
theorem dP_at {P:List (Int × Int)} {a b c:Int} {u v w:Nat} {p q r:Int × Int} (ha:a=u) (hb:b=v) (hc:c=w) (hp:P[u]?=some p) (hq:P[v]?=some q) (hr:P[w]?=some r):disB p.1 p.2 q.1 q.2 r.1 r.2=dP P a b c:=by
 subst ha hb hc
 unfold dP
 rw [atP_of hp,atP_of hq,atP_of hr]
def sP (P:List (Int × Int)) (t:Int × Int × Int):Bool:=skB (atP P t.1).1 (atP P t.1).2 (atP P t.2.1).1 (atP P t.2.1).2 (atP P t.2.2).1 (atP P t.2.2).2
theorem sP_at {P:List (Int × Int)} {t:Int × Int × Int} {u v w:Nat} {p q r:Int × Int} (ha:t.1=u) (hb:t.2.1=v) (hc:t.2.2=w) (hp:P[u]?=some p) (hq:P[v]?=some q) (hr:P[w]?=some r):skB p.1 p.2 q.1 q.2 r.1 r.2=sP P t:=by
 unfold sP
 rw [ha,hb,hc,atP_of hp,atP_of hq,atP_of hr]
def nP (P:List (Int × Int)) (q:Int × Int) (s:Int × Int):Bool:=disB (atP P s.1).1 (atP P s.1).2 (atP P s.2).1 (atP P s.2).2 q.1 q.2
theorem nP_at {P:List (Int × Int)} {s q0:Int × Int} {u v:Nat} {p q:Int × Int} (ha:s.1=u) (hb:s.2=v) (hp:P[u]?=some p) (hq:P[v]?=some q):disB p.1 p.2 q.1 q.2 q0.1 q0.2=nP P q0 s:=by
 unfold nP
 rw [ha,hb,atP_of hp,atP_of hq]
/-! ### Across an edge -/
def rots (t:Int × Int × Int):List (Int × Int × Int):=[(t.1,t.2.1,t.2.2),(t.2.1,t.2.2,t.1),(t.2.2,t.1,t.2.1)]
def hits (a b:Int) (s:Int × Int × Int):Prop:=(s.1=a∧s.2.1=b)∨(s.1=b∧s.2.1=a)
theorem third_hit {t s:Int × Int × Int} {a b:Int} {k:Nat} (hk:(rots t)[k]?=some s) (hh:hits a b s) (hn:∀ x∈(rots t).take k,¬ hits a b x):thirdR t a b=some s.2.2:=by
 match k,hk with
 | 0,hk=>cases hk;exact if_pos hh
 | 1,hk =>
  cases hk
  have h0:=hn _ (show (t.1,t.2.1,t.2.2)∈(rots t).take 1 by simp [rots])
  exact (if_neg h0).trans (if_pos hh)
 | 2,hk =>
  cases hk
  have h0:=hn _ (show (t.1,t.2.1,t.2.2)∈(rots t).take 2 by simp [rots])
  have h1:=hn _ (show (t.2.1,t.2.2,t.1)∈(rots t).take 2 by simp [rots])
  exact (if_neg h0).trans ((if_neg h1).trans (if_pos hh))
theorem third_miss {t:Int × Int × Int} {a b:Int} (hn:∀ x∈(rots t).take 3,¬ hits a b x):thirdR t a b=none:=by
 have h0:=hn _ (show (t.1,t.2.1,t.2.2)∈(rots t).take 3 by simp [rots])
 have h1:=hn _ (show (t.2.1,t.2.2,t.1)∈(rots t).take 3 by simp [rots])
 have h2:=hn _ (show (t.2.2,t.1,t.2.1)∈(rots t).take 3 by simp [rots])
 exact (if_neg h0).trans ((if_neg h1).trans (if_neg h2))
theorem third_mem {t:Int × Int × Int} {a b c:Int} (h:thirdR t a b=some c):c=t.1∨c=t.2.1∨c=t.2.2:=by
 unfold thirdR at h
 split at h
 ·cases h;simp
 split at h
 ·cases h;simp
 split at h
 ·cases h;simp
 ·cases h
theorem third_in {P:List (Int × Int)} {t:Int × Int × Int} {a b c:Int} (hg:goodT P.length (oP P) t) (h:thirdR t a b=some c):InP P c:=by
 obtain ⟨h1,h2,h3,_⟩:=hg
 rcases third_mem h with rfl|rfl|rfl
 ·exact inP h1
 ·exact inP h2
 ·exact inP h3
theorem good_in {P:List (Int × Int)} {t:Int × Int × Int} (hg:goodT P.length (oP P) t):InP P t.1∧InP P t.2.1∧InP P t.2.2:=⟨inP hg.1,inP hg.2.1,inP hg.2.2.1⟩
theorem seg_in {P:List (Int × Int)} {T:List (Int × Int × Int)} {S:List (Int × Int)} (hM:MeshOK P.length (oP P) T S) {s:Int × Int} (hs:s∈S):InP P s.1∧InP P s.2:=by
 rcases (hM.seg s hs).2 with h|h
 ·obtain ⟨t,ht,he⟩:=mem_edgs.1 h
  obtain ⟨h1,h2⟩:=edg_wf (hM.tri t ht) he
  exact ⟨inP h1,inP h2⟩
 ·obtain ⟨t,ht,he⟩:=mem_edgs.1 h
  obtain ⟨h1,h2⟩:=edg_wf (hM.tri t ht) he
  exact ⟨inP h2,inP h1⟩
/-! ### Indices of those that are so -/
def idxs (b:Nat→Bool) (n:Nat):List Int:=((List.range n).filter b).map fun (i:Nat)=>(i:Int)
theorem idxs_yes {b:Nat→Bool} {k:Nat} (h:b k=true):idxs b (k+1)=idxs b k++[(k:Int)]:=by simp [idxs,List.range_succ,h]
theorem idxs_no {b:Nat→Bool} {k:Nat} (h:b k=false):idxs b (k+1)=idxs b k:=by simp [idxs,List.range_succ,h]
theorem idxs_len (b:Nat→Bool) (n:Nat):(idxs b n).length≤n:=by
 unfold idxs
 rw [List.length_map]
 exact Nat.le_trans (List.length_filter_le _ _) (by simp)
theorem idxs_first {b:Nat→Bool}:∀ {n:Nat},(idxs b n=[]∧∀ j,j < n→b j=false)∨∃ (k:Nat) (r:List Int),idxs b n=(k:Int) :: r∧k < n∧b k=true∧∀ j,j < k→b j=false
 | 0 => .inl ⟨rfl,fun j h=>absurd h (Nat.not_lt_zero _)⟩
 | n+1=>by
  rcases idxs_first (b:=b) (n:=n) with ⟨h1,h2⟩|⟨k,r,h1,h2,h3,h4⟩
  ·cases hb:b n with
   | true=>exact .inr ⟨n,[],by rw [idxs_yes hb,h1];rfl,by omega,hb,h2⟩
   | false =>
    refine .inl ⟨by rw [idxs_no hb,h1],fun j hj=>?_⟩
    by_cases e:j=n
    ·rw [e];exact hb
    ·exact h2 j (by omega)
  ·cases hb:b n with
   | true=>exact .inr ⟨k,r++[(n:Int)],by rw [idxs_yes hb,h1];rfl,by omega,h3,h4⟩
   | false=>exact .inr ⟨k,r,by rw [idxs_no hb,h1],by omega,h3,h4⟩
def atB {α:Type} (l:List α) (p:α→Bool) (i:Nat):Bool:=match l[i]? with
 | some s=>p s
 | none=>false
theorem atB_of {α:Type} {l:List α} {p:α→Bool} {i:Nat} {s:α} (h:l[i]?=some s):atB l p i=p s:=by unfold atB;rw [h]
def fstR (b:Nat→Bool) (n:Nat):Int × Bool:=if firstFrom b 0 n < 0 then (0,false) else (firstFrom b 0 n,true)
theorem fst_at {b:Nat→Bool} {n k:Nat} (h:k < n) (hb:b k=true) (hn:∀ j,j < k→b j=false):fstR b n=((k:Int),true):=by
 unfold fstR
 rw [first_at (k:=k) (fun j _ hj=>hn j hj) hb (Nat.zero_le _) (by omega),if_neg (by omega)]
theorem fst_no {b:Nat→Bool} {n:Nat} (hn:∀ j,j < n→b j=false):fstR b n=(0,false):=by
 unfold fstR
 rw [first_none (fun j _ hj=>hn j (by omega)),if_pos (by decide)]
/-! ### The answers -/
section
variable (P:List (Int × Int)) (T:List (Int × Int × Int)) (S:List (Int × Int))
def crw (s:Int × Int):List Int:=crwR T (dP P s.1 s.2) s.1 s.2
def crdB (i:Nat):Bool:=atB S (fun s=>decide (((crw P T s).length:Int) > 0)) i
noncomputable def mC:Int:=chkR P.length (oP P) T S
noncomputable def crdL:List Int:=if mC P T S=0 then idxs (crdB P T S) S.length else []
noncomputable def sknL:List Int:=if mC P T S=0 then idxs (atB T (sP P)) T.length else []
noncomputable def nerR (q:Int × Int):Int × Bool:=if mC P T S=0 then fstR (atB S (nP P q)) S.length else (0,false)
noncomputable def crwL (s:Int × Int):List Int:=if mC P T S=0∧s∈S then crw P T s else []
noncomputable def goodR:Bool:=decide (mC P T S=0) && (((crdL P T S).length:Int)+((sknL P T S).length:Int)==0)
end
section
variable {P:List (Int × Int)} {T:List (Int × Int × Int)} {S:List (Int × Int)}
theorem mC_two:mC P T S=0∨mC P T S=2:=by
 unfold mC chkR
 split<;>simp
theorem mC_ok (h:mC P T S=0):MeshOK P.length (oP P) T S:=Classical.byContradiction fun hn=>by
 unfold mC at h
 rw [chk_no hn] at h
 cases h
theorem crdL_of (h:mC P T S=0):crdL P T S=idxs (crdB P T S) S.length:=if_pos h
theorem crdL_no (h:mC P T S=2):crdL P T S=[]:=if_neg (by omega)
theorem sknL_of (h:mC P T S=0):sknL P T S=idxs (atB T (sP P)) T.length:=if_pos h
theorem sknL_no (h:mC P T S=2):sknL P T S=[]:=if_neg (by omega)
theorem nerR_of {q:Int × Int} (h:mC P T S=0):nerR P T S q=fstR (atB S (nP P q)) S.length:=if_pos h
theorem nerR_no {q:Int × Int} (h:mC P T S=2):nerR P T S q=(0,false):=if_neg (by omega)
theorem all_succ' {k:Nat} {t:Int × Int × Int} {a b:Int} (h:T[k]?=some t):crwAll (T.take (k+1)) a b=crwAll (T.take k) a b++(thirdR t a b).toList:=by
 rw [take_succ' h]
 unfold crwAll
 rw [List.filterMap_append]
 cases h2:thirdR t a b<;>simp [h2]
def crF (P:List (Int × Int)) (T:List (Int × Int × Int)) (s:Int × Int) (k:Nat):List Int:=(crwAll (T.take k) s.1 s.2).filter (dP P s.1 s.2)
theorem crF_len (P:List (Int × Int)) (T:List (Int × Int × Int)) (s:Int × Int) (k:Nat):(crF P T s k).length≤k:=by
 unfold crF crwAll
 exact Nat.le_trans (List.length_filter_le _ _) (Nat.le_trans (List.length_filterMap_le _ _) (by rw [List.length_take];exact Nat.min_le_left _ _))
theorem crF_none {k:Nat} {t:Int × Int × Int} {s:Int × Int} (h:T[k]?=some t) (h2:thirdR t s.1 s.2=none):crF P T s (k+1)=crF P T s k:=by
 unfold crF
 rw [all_succ' h,h2]
 simp
theorem crF_out {k:Nat} {t:Int × Int × Int} {s:Int × Int} {c:Int} (h:T[k]?=some t) (h2:thirdR t s.1 s.2=some c) (hd:dP P s.1 s.2 c=false):crF P T s (k+1)=crF P T s k:=by
 unfold crF
 rw [all_succ' h,h2]
 simp [hd]
theorem crF_in {k:Nat} {t:Int × Int × Int} {s:Int × Int} {c:Int} (h:T[k]?=some t) (h2:thirdR t s.1 s.2=some c) (hd:dP P s.1 s.2 c=true):crF P T s (k+1)=crF P T s k++[c]:=by
 unfold crF
 rw [all_succ' h,h2]
 simp [hd]
theorem MeshOK.apart (hM:MeshOK P.length (oP P) T S):∀ t∈T,apartT t:=fun t ht=>(hM.tri t ht).apart (oP_ori P)
theorem crw_ways (hM:MeshOK P.length (oP P) T S) {s:Int × Int} (hs:s∈S):(crw P T s=crF P T s T.length∧(crF P T s T.length).length≤2∧∀ x y,crF P T s T.length=[x,y]→¬ y < x)∨∃ x y,crF P T s T.length=[x,y]∧y < x∧crw P T s=[y,x]:=by
 have h:=(crw_same hM.apart hM.once (dP P s.1 s.2) (a:=s.1) (b:=s.2) (by have:=(hM.seg s hs).1;omega)).2.2
 have e:crF P T s T.length=(crwAll T s.1 s.2).filter (dP P s.1 s.2):=by unfold crF;rw [List.take_length]
 rw [← e] at h
 unfold crw crwR
 rw [← e]
 match hl:crF P T s T.length,h with
 | [],_=>exact .inl ⟨rfl,by simp,by simp⟩
 | [x],_=>exact .inl ⟨rfl,by simp,by simp⟩
 | [x,y],_ =>
  by_cases c:y < x
  ·exact .inr ⟨x,y,rfl,c,if_pos c⟩
  ·refine .inl ⟨if_neg c,by simp,fun x' y' e=>?_⟩
   simp only [List.cons.injEq,and_true] at e
   obtain ⟨rfl,rfl⟩:=e
   exact c
 | x :: y :: z :: l,h=>exact absurd h (by simp)
end
end Go.Proofs.YtkgagdjogedoiaaGreat

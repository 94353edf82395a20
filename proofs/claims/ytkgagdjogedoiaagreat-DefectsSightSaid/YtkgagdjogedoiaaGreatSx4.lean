/- Flips in plain words, for the walks. -/
import Derived.Test.YtkgagdjogedoiaaGreatSw6
import Derived.Test.YtkgagdjogedoiaaGreatDs6
set_option linter.unusedVariables false
set_option linter.unusedSimpArgs false
namespace Go.Proofs.YtkgagdjogedoiaaGreat
open Go Go.RowKit Go.Proofs.YtkgagdjogedoiaaGreat.Fx Go.Proofs.YtkgagdjogedoiaaGreatW.PrintWords
section
variable {P:List (Int × Int)} {T:List (Int × Int × Int)} {S:List (Int × Int)} {a b:Int}
theorem acC_of {k:Nat} {t:Int × Int × Int} (h:leftR T a b=k) (ht:T[k]?=some t):acC T a b=thd t a b:=by unfold acC;rw [h,atT_of ht]
theorem acD_of {k:Nat} {t:Int × Int × Int} (h:leftR T b a=k) (ht:T[k]?=some t):acD T a b=thd t a b:=by unfold acD;rw [h,atT_of ht]
instance (c d:Int):Decidable (joinP T c d):=by unfold joinP;infer_instance
theorem join_iff (c d:Int):decide (joinP T c d)=(decide (leftR T c d ≥ 0) || decide (leftR T d c ≥ 0)):=by
  unfold joinP
  by_cases h1:0≤leftR T c d<;>by_cases h2:0≤leftR T d c<;>simp [h1,h2]
theorem ac_in (M:MeshOK P.length (oP P) T S) (h:both T a b):InP P (acC T a b)∧InP P (acD T a b)∧InP P a∧InP P b:=by
  obtain ⟨s,t,hs,ht,_,_,i1,i2,_,_⟩:=across_tri (oP_ori P) M h
  have n1:=is3_in i1 (M.tri s hs)
  have n2:=is3_in i2 (M.tri t ht)
  exact ⟨inP n1.2.2,inP n2.2.2,inP n1.1,inP n1.2.1⟩
theorem conv4 {a b c d:Int} {p q r s:Int × Int} (ha:atP P a=p) (hb:atP P b=q) (hc:atP P c=r) (hd:atP P d=s):convB [p,s,q,r]=true↔convP (oP P) a d b c:=by
  subst ha hb hc hd
  unfold convP oP convB oriL
  simp [List.range_succ]
noncomputable def nxtS (P:List (Int × Int)) (T:List (Int × Int × Int)) (S:List (Int × Int)):Int × Int:=match nextR P T S with
  | some s=>((s.1:Int),(s.2:Int))
  | none=>(0,0)
noncomputable def nxtB (P:List (Int × Int)) (T:List (Int × Int × Int)) (S:List (Int × Int)):Bool:=(nextR P T S).isSome
theorem nxt_hit (M:MeshOK P.length (oP P) T S) {i k:Nat} (h:hitN P T S i k) (h1:∀ j,j < i→∀ m,¬ hitN P T S j m) (h2:∀ m,m < k→¬ hitN P T S i m):nxtS P T S=((i:Int),(k:Int))∧nxtB P T S=true:=by
  have e:nextR P T S=some (i,k):=by unfold nextR;rw [if_pos M,fst2_some h h1 h2]
  unfold nxtS nxtB
  rw [e]
  exact ⟨rfl,rfl⟩
theorem nxt_no (h:nextR P T S=none):nxtS P T S=(0,0)∧nxtB P T S=false:=by
  unfold nxtS nxtB
  rw [h]
  exact ⟨rfl,rfl⟩
theorem nxt_so {s:Nat × Nat} (h:nextR P T S=some s):nxtS P T S=((s.1:Int),(s.2:Int))∧nxtB P T S=true:=by
  unfold nxtS nxtB
  rw [h]
  exact ⟨rfl,rfl⟩
theorem next_bad (M:¬ MeshOK P.length (oP P) T S):nextR P T S=none:=if_neg M
theorem next_all (h:∀ i k,¬ hitN P T S i k):nextR P T S=none:=by
  unfold nextR
  split
  · exact fst2_none h
  · rfl
theorem hit_end {i:Nat} (m:Nat) (h:P.length≤m):¬ hitN P T S i m:=fun hh=>by have:=hh.2.1;omega
theorem hit_allN {n:Nat} (hn:P.length≤n) (h:∀ j,j < n→∀ m,¬ hitN P T S j m):∀ j m,¬ hitN P T S j m:=fun j m hh=>h j (by have:=hh.1;have:=hh.2.1;omega) m hh
def delM (P:List (Int × Int)) (S:List (Int × Int)):Option (List (Int × Int × Int))→SP
  | some T=>SP.mesh P T S
  | none => .is (.agg #[.slice none 0 0,.slice none 0 0,.slice none 0 0])
noncomputable def fuel (P:List (Int × Int)) (T:List (Int × Int × Int)):Nat:=(phi (atP P) T).toNat+1
theorem del_none {k:Nat} {m:Int} (h:nextR P T S=none):delN P S (k+1) T m=(some T,m,0):=by rw [delN,h]
theorem del_may {k:Nat} {m:Int} {s:Nat × Nat} (h:nextR P T S=some s) (hm:mayP P T S s.1 s.2):delN P S (k+1) T m=delN P S k (flipT P.length (oP P) T s.1 s.2) (Go.IntKind.i64.wrap (m+1)):=by
  rw [delN,h]
  exact if_pos hm
theorem del_not {k:Nat} {m:Int} {s:Nat × Nat} (h:nextR P T S=some s) (hm:¬ mayP P T S s.1 s.2):delN P S (k+1) T m=(none,0,130):=by
  rw [delN,h]
  exact if_neg hm
theorem fit_of (h:p20s P):FitP P:=fun p hp=>(h p hp).nea1.f
theorem mkB_len {L l:List (Int × Int)} (hP:P.length≤14) (a:Nat) (T:List (Int × Int × Int)):∀ j,(mkB P L l a j T).length≤T.length+14 * j
  | 0=>Nat.le_refl _
  | j+1=>by
    have ih:=mkB_len (L:=L) (l:=l) hP a T j
    unfold mkB
    split
    · have:=mkC_len (P:=P) (L:=L) l a (a+1+j) (mkB P L l a j T) (P.length - (a+1+j+1))
      omega
    · omega
theorem mkA_len {L l:List (Int × Int)} (hP:P.length≤14) (T:List (Int × Int × Int)):∀ j,(mkA P L l j T).length≤T.length+196 * j
  | 0=>Nat.le_refl _
  | j+1=>by
    have ih:=mkA_len (L:=L) (l:=l) hP T j
    unfold mkA
    have:=mkB_len (L:=L) (l:=l) hP j (mkA P L l j T) (P.length - (j+1))
    omega
theorem mkT_len {L I:List (Int × Int)} (hP:P.length≤14):(mkT P L I).length≤2744:=by
  unfold mkT
  have:=mkA_len (L:=L) (l:=edgR P L I) hP [] P.length
  simp only [List.length_nil] at this
  omega
end
section
variable {w0:World} {ok0:Nat→Prop} {N:Nat} {ops:Array Oper} {Q:Exit→Act→World→Prop} {i:Nat} {F:List Fact} {K:Act→World→Prop} {r:List Oper}
theorem Nx.openM {t:Tmp} {P:List (Int × Int)} {T:List (Int × Int × Int)} {S:List (Int × Int)} (k:Nat) (hk:F[k]?=some (.s t (SP.mesh P T S)))
    (h:∀ A c B d C e,Nx w0 ok0 N (.s t (.is (.agg #[.slice A (P.map pc).length c,.slice B (T.map trc).length d,.slice C (S.map sgc).length e])) :: .v [.slice A (P.map pc).length c] [pvec P] :: .v [.slice B (T.map trc).length d] [tvec T] :: .v [.slice C (S.map sgc).length e] [svec S] :: F) K):Nx w0 ok0 N F K:=fun a W hS=>by
  obtain ⟨ok,h1,h2,h3⟩:=hS.ex
  have hm:=h3 _ (List.mem_of_getElem? hk)
  obtain ⟨x,y,z,e,hx,hy,hz,_⟩:=(show (SP.mesh P T S).H ok (a.tmps.getD t undef) W from hm)
  obtain ⟨A,c,e1⟩:=SP.vec_val hx
  obtain ⟨B,d,e2⟩:=SP.vec_val hy
  obtain ⟨C,e',e3⟩:=SP.vec_val hz
  rw [e1] at hx e
  rw [e2] at hy e
  rw [e3] at hz e
  refine h A c B d C e' a W ?_
  refine ⟨hS.hb,hS.h0,hS.hd,hS.hn,⟨ok,h1,h2,fun f hf=>?_⟩,fun f f' t t' hf hf' e e'=>?_,fun f f' l g t hf hf' e e'=>?_,fun f f' l g l' g' hf hf' e e'=>?_⟩
  · rcases List.mem_cons.1 hf with rfl|hf
    · exact e
    rcases List.mem_cons.1 hf with rfl|hf
    · exact ⟨hx,trivial⟩
    rcases List.mem_cons.1 hf with rfl|hf
    · exact ⟨hy,trivial⟩
    rcases List.mem_cons.1 hf with rfl|hf
    · exact ⟨hz,trivial⟩
    exact h3 f hf
  all_goals
    (rcases List.mem_cons.1 hf with rfl|hf
     · cases e
     rcases List.mem_cons.1 hf with rfl|hf
     · cases e
     rcases List.mem_cons.1 hf with rfl|hf
     · cases e
     rcases List.mem_cons.1 hf with rfl|hf
     · cases e
     rcases List.mem_cons.1 hf' with rfl|hf'
     · cases e'
     rcases List.mem_cons.1 hf' with rfl|hf'
     · cases e'
     rcases List.mem_cons.1 hf' with rfl|hf'
     · cases e'
     rcases List.mem_cons.1 hf' with rfl|hf'
     · cases e'
     first|exact hS.far _ _ _ _ hf hf' e e'|exact hS.farh _ _ _ _ _ hf hf' e e'|exact hS.farl _ _ _ _ _ _ hf hf' e e')
theorem Go.openM {t:Tmp} {P:List (Int × Int)} {T:List (Int × Int × Int)} {S:List (Int × Int)} (k:Nat) (hk:F[k]?=some (.s t (SP.mesh P T S)))
    (h:∀ x:Option Addr × Nat × Option Addr × Nat × Option Addr × Nat,Go Tryz.prog w0 ok0 N ops Q i r (.s t (.is (.agg #[.slice x.1 (P.map pc).length x.2.1,.slice x.2.2.1 (T.map trc).length x.2.2.2.1,.slice x.2.2.2.2.1 (S.map sgc).length x.2.2.2.2.2])) :: .v [.slice x.1 (P.map pc).length x.2.1] [pvec P] :: .v [.slice x.2.2.1 (T.map trc).length x.2.2.2.1] [tvec T] :: .v [.slice x.2.2.2.2.1 (S.map sgc).length x.2.2.2.2.2] [svec S] :: F)):Go Tryz.prog w0 ok0 N ops Q i r F :=
  Go.ghost (fun K hh=>Nx.openM k hk fun A c B d C e=>hh (A,c,B,d,C,e)) h
end
theorem end_cell_tmp2 {P:Program} {w0:World} {ok0:Nat→Prop} {N:Nat} {F:List Fact} {fn:Func} {t1 t2 t3 n:Nat} {T:TypeId} {q q2 q3:SP} (k1 k2 k3:Nat) (hr:fn.results=#[.cell t1 T,.tmp t2,.tmp t3]) (hk1:F[k1]?=some (.b t1 q T n)) (hk2:F[k2]?=some (.s t2 q2)) (hk3:F[k3]?=some (.s t3 q3)) (hT:AggTy P T n) :
    Nx w0 ok0 N F (fun a W=>bodyPost P fn (Ret w0 ok0 (.tup [q,q2,q3])) .ret a W):=fun a W hS=>by
  obtain ⟨ok,h1,h2,h3⟩:=hS.ex
  obtain ⟨g,cs,e1,_,_,e4,e5,e6⟩:=h3 _ (List.mem_of_getElem? hk1)
  have v2:q2.H ok (a.tmps.getD t2 undef) W:=h3 _ (List.mem_of_getElem? hk2)
  have v3:q3.H ok (a.tmps.getD t3 undef) W:=h3 _ (List.mem_of_getElem? hk3)
  obtain ⟨dd,hu,hdd⟩:=hT.u
  refine ⟨hS.hd,.tuple #[.agg cs,a.tmps.getD t2 undef,a.tmps.getD t3 undef],?_,⟨_,rfl,⟨[_,_,_],rfl,q.mono h1 e6,q2.mono h1 v2,q3.mono h1 v3,trivial⟩,hS.hb⟩⟩
  have hl:=run_loadVar_row (P:=P) W g T T cs (0,0) dd e4 hu (by cases dd<;>first|exact hdd|cases hdd) (by rw [hT.i,e5])
  have hp':a.tmps[t1]?.getD undef = .pointer (some ⟨g,0,none⟩):=by simpa using e1
  simp [results,hr,hp',asAddr,hl]
end Go.Proofs.YtkgagdjogedoiaaGreat

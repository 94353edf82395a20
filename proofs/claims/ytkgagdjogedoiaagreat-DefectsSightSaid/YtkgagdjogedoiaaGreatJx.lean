/- Functions that write into a caller's block: their walks, and their contracts. -/
import Derived.Test.YtkgagdjogedoiaaGreatIx
set_option linter.unusedVariables false
set_option linter.unusedSimpArgs false
namespace Go.Proofs.YtkgagdjogedoiaaGreat.Fx
open Go Go.RowKit Go.Proofs.YtkgagdjogedoiaaGreatW.PrintWords
def SP.same (W0:World) (g:Nat):SP :=
  ⟨fun ok _ W=>∀ k,k < W0.heap.size→k≠g→ok k∧W.heap[k]?=W0.heap[k]?,fun hk h k h1 h2=>⟨hk k (h k h1 h2).1,(h k h1 h2).2⟩,
   fun h k h1 h2=>⟨⟨(h k h1 h2).1,by
     have e:=(h k h1 h2).2
     rw [Array.getElem?_eq_getElem h1] at e
     exact (Array.getElem?_eq_some_iff.1 e).1⟩,(h k h1 h2).2⟩,
   fun h hm k h1 h2=>⟨(h k h1 h2).1,by
     have e:=(h k h1 h2).2
     have hlt:=e
     rw [Array.getElem?_eq_getElem h1] at hlt
     exact (hm k (h k h1 h2).1 (Array.getElem?_eq_some_iff.1 hlt).1).trans e⟩⟩
def Wrt (W0:World) (g:Nat) (E:TypeId) (sz cap n:Nat) (xs:List Value):Ending→World→Prop :=
  fun e W'=>∃ r,e = .returned r∧W0.grownBy W' (some g)∧∃ ob',W'.heap[g]?=some ob'∧∀ ok,(HP.own E sz cap n xs).H ok ob' W'
theorem end_wr {P:Program} {W0:World} {N g l n sz cap:Nat} {E:TypeId} {xs:List Value} {F:List Fact} {fn:Func} (k j:Nat) (hr:fn.results=#[]) (hk:F[k]?=some (.h l g (HP.own E sz cap n xs))) (hj:F[j]?=some (.v [undef] [SP.same W0 g])) :
    Nx { W0 with heap:=#[] } (fun _=>True) N F (fun a W=>bodyPost P fn (Wrt W0 g E sz cap n xs) .normal a W):=fun a W hS=>by
  obtain ⟨ok,h1,h2,h3⟩:=hS.ex
  obtain ⟨ob,e1,_,_,e4⟩:=h3 _ (List.mem_of_getElem? hk)
  have hs:(SP.same W0 g).H ok undef W:=(show Args ok W [SP.same W0 g] [undef] from h3 _ (List.mem_of_getElem? hj)).1
  refine ⟨hS.hd,.tuple #[],by simp [results,hr],⟨_,rfl,⟨hS.hb.os,hS.hb.tape,hS.hb.output,?_,fun k hk hne=>(hs k hk (fun e=>hne (by rw [e]))).2⟩,ob,e1,fun ok=>e4⟩⟩
  rcases Nat.lt_or_ge W.heap.size W0.heap.size with h|h
  · exfalso
    by_cases e:W.heap.size=g
    · have:=(Array.getElem?_eq_some_iff.1 e1).1;omega
    · have:=(hs _ h e).2
      rw [Array.getElem?_eq_getElem h] at this
      have:=(Array.getElem?_eq_some_iff.1 this).1;omega
  · exact h
theorem WrC.of {P:Program} {f:FuncId} {fn:Func} {c:Code} {N g sz cap n:Nat} {E:TypeId} {xs xs':List Value} {vs:List Value} (hf:P.funcs[f]?=some fn) (hb:fn.body=some c) (hN:fn.ntmps=N) (hl:vs.length≤N)
    (h:∀ W0:World,Tr P { W0 with heap:=#[] } (fun _=>True) N (.h 1 g (HP.own E sz cap n xs) :: .v [undef] [SP.same W0 g] :: argF 0 (vs.map SP.is)) c (bodyPost P fn (Wrt W0 g E sz cap n xs')))
    (ok:Nat→Prop) (W:World) (ob:Obj) (h1:W.heap[g]?=some ob) (h2:(HP.own E sz cap n xs).H ok ob W) :
    Calls P f vs.toArray W fun e W'=>∃ r,e = .returned r∧W.grownBy W' (some g)∧∃ ob',W'.heap[g]?=some ob'∧(HP.own E sz cap n xs').H ok ob' W':=by
  have hA:Args (fun k=>k≠g) W (vs.map SP.is) vs:=by
    have:∀ vs:List Value,Args (fun k=>k≠g) W (vs.map SP.is) vs:=fun vs=>by
      induction vs with
      | nil=>trivial
      | cons v vs ih=>exact ⟨rfl,ih⟩
    exact this vs
  have hlt:=(Array.getElem?_eq_some_iff.1 h1).1
  have key:=calls_of_wp (args:=vs.toArray) hf hb (h W _ W ⟨⟨rfl,rfl,rfl,Nat.zero_le _,fun k hk=>absurd hk (Nat.not_lt_zero k)⟩,fun k _=>trivial,rfl,by simp;omega,⟨fun k=>k≠g,fun _ _=>trivial,fun k hk=>by omega,fun f hf=>?_⟩,fun f f' t t' hf' _ e=>?_,fun f f' l g' t hf' hf2 e e'=>?_,fun f f' l g1 l' g2 hf' hf2 e e'=>?_⟩)
  · exact key.mono fun e W' ⟨r,e1,e2,ob',e3,e4⟩=>⟨r,e1,e2,ob',e3,e4 ok⟩
  · rcases List.mem_cons.1 hf with rfl|hf
    · exact ⟨ob,h1,fun h=>h rfl,Nat.zero_le _,h2⟩
    rcases List.mem_cons.1 hf with rfl|hf
    · exact ⟨fun k hk hne=>⟨hne,rfl⟩,trivial⟩
    refine args_facts hA (fun j v hv=>?_) f hf
    have hj:=(List.getElem?_eq_some_iff.1 hv).1
    simp only [Nat.zero_add,Array.getD_eq_getD_getElem?]
    rw [Array.getElem?_append_left (by simpa using hj)]
    simp [hv]
  · rcases List.mem_cons.1 hf' with rfl|hf'
    · cases e
    rcases List.mem_cons.1 hf' with rfl|hf'
    · cases e
    rw [argF_box hf'] at e;cases e
  · rcases List.mem_cons.1 hf2 with rfl|hf2
    · cases e'
    rcases List.mem_cons.1 hf2 with rfl|hf2
    · cases e'
    rw [argF_box hf2] at e';cases e'
  · rcases List.mem_cons.1 hf' with rfl|hf'
    · rcases List.mem_cons.1 hf2 with rfl|hf2
      · intro hne;cases e;cases e';exact absurd rfl hne
      rcases List.mem_cons.1 hf2 with rfl|hf2
      · cases e'
      rw [argF_lab hf2] at e';cases e'
    rcases List.mem_cons.1 hf' with rfl|hf'
    · cases e
    rw [argF_lab hf'] at e;cases e
section
variable {P:Program} {w0:World} {ok0:Nat→Prop} {N:Nat} {R:Rg} {ops:Array Oper} {Q:Exit→Act→World→Prop} {i:Nat} {o:Oper}
theorem add_zero' (ad:Addr):ad.add 0=ad:=by simp [Addr.add]
theorem slcH {d:Tmp} {x y:Operand} {T E:TypeId} {sz k:Nat} {kk:Int} {rows:List (List Value)} (hh:Pl R ops i o (some d) (.slice T x none (some y) none) true) (hR:RowTy P T E sz) (hx:Vl R i x (.vec sz rows)) (hy:Vl R i y (ii kk)) (hk:kk=k) (hl:k≤rows.length):Does P w0 ok0 N R ops Q i o (some (.s d (.vec sz (rows.take k)))) :=
  does_s hh fun ok a W hf hk' K hK=>by
    have hT:=hR.u
    obtain ⟨A,c,e,hc,hF⟩:=hx.H hf
    have e2:a.eval y = .int .i64 k:=by rw [← hk];exact hy.H hf
    obtain ⟨ie,hie⟩:∃ ie,P.info? E=some ie:=by
      have hs:=hR.i
      cases h:P.info? E with
      | none=>rw [h] at hs;cases hs
      | some ie=>exact ⟨ie,rfl⟩
    have hA:(if c=0 then A else A.map fun ad=>ad.add (0 * ie.size))=A:=by
      split
      · rfl
      · rw [Nat.zero_mul];cases A<;>simp [add_zero']
    have h1:(0:Int)≤(k:Int)∧(k:Int)≤(c:Nat):=⟨by omega,by omega⟩
    have er:(execOp a.eval o).run P W = .ok (.value (.slice A k c)) W:=by
      unfold execOp
      simp only [hh.op,e,Option.map_none,Option.map_some,e2,Instr.sliceAt,Sem.run_bind,run_underlying hT W,Result.andThen_ok,Instr.slice,Instr.sliceBounds,Instr.sliceBound,asIntOf,Sem.run_pure,if_pos h1,sizeOf,typeInfo,program,Sem.run,hie]
      simp [add_zero']
    unfold Oper.wp
    rw [er]
    have htl:(rows.take k).length=k:=by rw [List.length_take];omega
    refine hK _ W (Below.refl _ _) ⟨A,c,by rw [htl],by rw [htl];omega,hF.imp fun W' hW hn=>?_⟩
    rw [htl] at hn
    obtain ⟨ad,ea,hr⟩:=hW (by omega)
    refine ⟨ad,ea,fun j c hj=>hr j c ?_⟩
    rw [List.getElem?_take] at hj
    split at hj
    · exact hj
    · cases hj
theorem slcL {d:Tmp} {x y:Operand} {T E:TypeId} {sz k:Nat} {kk:Int} {rows:List (List Value)} (hh:Pl R ops i o (some d) (.slice T x (some y) none none) true) (hR:RowTy P T E sz) (hx:Vl R i x (.vec sz rows)) (hy:Vl R i y (ii kk)) (hk:kk=k) (hl:k≤rows.length):Does P w0 ok0 N R ops Q i o (some (.s d (.vec sz (rows.drop k)))) :=
  does_s hh fun ok a W hf hk' K hK=>by
    have hT:=hR.u
    obtain ⟨A,c,e,hc,hF⟩:=hx.H hf
    have e2:a.eval y = .int .i64 k:=by rw [← hk];exact hy.H hf
    obtain ⟨ie,hie,his⟩:∃ ie,P.info? E=some ie∧ie.size=sz:=by
      have hs:=hR.i
      cases h:P.info? E with
      | none=>rw [h] at hs;cases hs
      | some ie=>rw [h] at hs;exact ⟨ie,rfl,by simpa using hs⟩
    have h1:(0:Int)≤(k:Int)∧(k:Int)≤(rows.length:Nat):=⟨by omega,by omega⟩
    have er:(execOp a.eval o).run P W = .ok (.value (.slice (if c=k then A else A.map fun ad=>ad.add (k * sz)) (rows.length - k) (c - k))) W:=by
      unfold execOp
      simp only [hh.op,e,Option.map_none,Option.map_some,e2,Instr.sliceAt,Sem.run_bind,run_underlying hT W,Result.andThen_ok,Instr.slice,Instr.sliceBounds,Instr.sliceBound,asIntOf,Sem.run_pure,if_pos h1,sizeOf,typeInfo,program,Sem.run,hie,his,Int.toNat_natCast]
    unfold Oper.wp
    rw [er]
    have htl:(rows.drop k).length=rows.length - k:=List.length_drop
    refine hK _ W (Below.refl _ _) ⟨_,_,by rw [htl],by rw [htl];omega,hF.imp fun W' hW hn=>?_⟩
    rw [htl] at hn
    obtain ⟨ad,ea,hr⟩:=hW (by omega)
    rw [if_neg (by omega),ea]
    refine ⟨_,rfl,fun j c hj=>?_⟩
    rw [List.getElem?_drop] at hj
    obtain ⟨r1,r2⟩:=hr (k+j) c hj
    refine ⟨r1,fun i u hu=>?_⟩
    rw [Addr.add_add,show k * sz+(j * sz+i)=(k+j) * sz+i by rw [Nat.add_mul];omega]
    exact r2 i u hu
end
end Go.Proofs.YtkgagdjogedoiaaGreat.Fx

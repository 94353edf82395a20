/- Pointers to boxes that nobody writes any more, closures that hold such ones, elements of array values. -/
import Derived.Test.YtkgagdjogedoiaaGreatJx
set_option linter.unusedVariables false
set_option linter.unusedSimpArgs false
namespace Go.Proofs.YtkgagdjogedoiaaGreat.Fx
open Go Go.RowKit Go.Proofs.YtkgagdjogedoiaaGreatW.PrintWords
def SP.ptr (q:SP) (T:TypeId) (n:Nat):SP :=
  ⟨fun ok v W=>∃ g cs,v=Go.Proofs.YtkgagdjogedoiaaGreat.Fx.ptr g 0∧ok g∧W.heap[g]?=some (.cells cs T (0,0))∧cs.size=n∧q.H ok (.agg cs) W,
   fun hk ⟨g,cs,e,h1,h2,h3,h4⟩=>⟨g,cs,e,hk _ h1,h2,h3,q.mono hk h4⟩,
   fun ⟨g,cs,e,h1,h2,h3,h4⟩=>⟨g,cs,e,⟨h1,(Array.getElem?_eq_some_iff.1 h2).1⟩,h2,h3,q.bound h4⟩,
   fun ⟨g,cs,e,h1,h2,h3,h4⟩ hm=>⟨g,cs,e,h1,(hm g h1 (Array.getElem?_eq_some_iff.1 h2).1).trans h2,h3,q.step h4 hm⟩⟩
def SP.fnc (f:FuncId) (ps:List SP):SP :=
  ⟨fun ok v W=>∃ us:List Value,v = .func (.func f) #[] us.toArray∧Args ok W ps us,fun hk ⟨us,e,h⟩=>⟨us,e,h.mono hk⟩,fun ⟨us,e,h⟩=>⟨us,e,h.bound⟩,fun ⟨us,e,h⟩ hm=>⟨us,e,h.step hm⟩⟩
theorem Args.app {ok:Nat→Prop} {W:World}:∀ {ps:List SP} {vs:List Value} {qs:List SP} {us:List Value},Args ok W ps vs→Args ok W qs us→Args ok W (ps++qs) (vs++us)
  | [],[],_,_,_,h=>h
  | _ :: _,_ :: _,_,_,h,h'=>⟨h.1,Args.app h.2 h'⟩
section
variable {P:Program} {w0:World} {ok0:Nat→Prop} {N:Nat} {F:List Fact} {c:Code} {Q:Exit→Act→World→Prop}
theorem Tr.frzb {F1:List Fact} {t:Tmp} {q:SP} {T:TypeId} {n:Nat} (k:Nat) (ks:List Nat) (hk:F[k]?=some (.b t q T n)) (hp:pickB F (fun f=>f.box==some t) ks=some F1)
    (h:Tr P w0 ok0 N (.s t (SP.ptr q T n) :: F1) c Q):Tr P w0 ok0 N F c Q:=fun a W hS=>by
  have hmk:=List.mem_of_getElem? hk
  obtain ⟨ok1,h1,h2,h31⟩:=hS.ex
  obtain ⟨g,cs,e1,e2,e3,e4,e5,e6⟩:=h31 _ hmk
  refine h a W (hS.freeze (g:=g) e3 fun ok h3 f hf=>?_)
  rcases List.mem_cons.1 hf with rfl|hf
  · right
    refine ⟨rfl,rfl,?_⟩
    obtain ⟨g',cs',a1,a2,a3,a4,a5,a6⟩:=h3 _ hmk
    have hg:g'=g:=by rw [a1] at e1;simpa [Go.Proofs.YtkgagdjogedoiaaGreat.Fx.ptr] using e1
    subst hg
    exact ⟨g',cs',a1,.inr rfl,a4,a5,q.mono (fun k hk => .inl hk) a6⟩
  · left
    obtain ⟨hF,hbf⟩:=pickB_mem hp f hf
    refine ⟨hF,fun t' ht' e=>?_,fun l g' hl' e=>?_⟩
    · by_cases ht:t=t'
      · subst ht
        rw [ht'] at hbf
        simp at hbf
      · exact hS.far _ f t t' hmk hF rfl ht' ht g (by rw [e1];rfl) e
    · subst e
      exact hS.farh f _ l _ t hF hmk hl' rfl (by rw [e1];rfl)
end
section
variable {P:Program} {w0:World} {ok0:Nat→Prop} {N:Nat} {R:Rg} {ops:Array Oper} {Q:Exit→Act→World→Prop} {i:Nat} {o:Oper}
theorem ldp {d:Tmp} {x:Operand} {q:SP} {T:TypeId} {n:Nat} (hh:Pl R ops i o (some d) (.load T x) true) (hx:Vl R i x (.ptr q T n)) (hT:AggTy P T n):Does P w0 ok0 N R ops Q i o (some (.s d q)) :=
  does_s hh fun ok a W hf hk K hK=>by
    obtain ⟨g,cs,h1,_,h4,h5,h6⟩:=hx.H hf
    obtain ⟨dd,hu,hdd⟩:=hT.u
    exact wp_load_row T x hh.op g h1 T cs (0,0) dd h4 hu (by cases dd<;>first|exact hdd|cases hdd) (by rw [hT.i,h5]) (hK _ W (Below.refl _ _) h6)
theorem fap {d:Tmp} {x:Operand} {q p:SP} {T:TypeId} {n k off:Nat} (hh:Pl R ops i o (some d) (.fieldAddr T x k) true) (hx:Vl R i x (.ptr q T n)) (hF:FieldTy P T k off) [hc:CellOf q off p]:Does P w0 ok0 N R ops Q i o (some (.s d (.atp p))) :=
  does_s hh fun ok a W hf hk K hK=>by
    obtain ⟨fs,fl,hT,hk',hp⟩:=hF.out
    obtain ⟨g,cs,h1,hg,h4,h5,h6⟩:=hx.H hf
    obtain ⟨v,hv,hpv⟩:=hc.out h6
    have e:(execOp a.eval o).run P W = .ok (.value (Go.Proofs.YtkgagdjogedoiaaGreat.Fx.ptr g off)) W:=by
      unfold execOp
      have hev:a.eval x=Go.Proofs.YtkgagdjogedoiaaGreat.Fx.ptr g 0:=h1
      simp only [hh.op,hev,Instr.fieldAt,Sem.run_bind,run_underlying hT W,Result.andThen_ok,hk',Instr.sureAddr,Sem.run_pure,hp g W]
    unfold Oper.wp
    rw [e]
    refine hK _ W (Below.refl _ _) ⟨⟨g,off,none⟩,v,rfl,fun W' hW'=>?_,hpv⟩
    show W'.cell? ⟨g,off,none⟩=some v
    rw [cell_of_row W' g off cs T (0,0) ((hW' g hg (Array.getElem?_eq_some_iff.1 h4).1).trans h4)]
    exact hv
theorem ixv {d:Tmp} {x y:Operand} {T:TypeId} {u j v:Value} (hh:Pl R ops i o (some d) (.index T x y) true) (hx:Vl R i x (.is u)) (hy:Vl R i y (.is j)) (hr:∀ W,(Instr.index T u j).run P W = .ok v W):Does P w0 ok0 N R ops Q i o (some (.s d (.is v))) :=
  pure_ hh fun ok a W hf=>by
    have e1:a.eval x=u:=hx.H hf
    have e2:a.eval y=j:=hy.H hf
    unfold execOp
    simp only [hh.op,e1,e2,Sem.run_bind,hr,Result.andThen_ok]
    rfl
theorem mkf {d:Tmp} {f:FuncId} {xs:List Operand} {ps:List SP} (hh:Pl R ops i o (some d) (.makeFunc (.func f) #[] xs.toArray) true) (hx:Vls R i xs ps):Does P w0 ok0 N R ops Q i o (some (.s d (.fnc f ps))) :=
  does_s hh fun ok a W hf hk K hK=>by
    have e:(execOp a.eval o).run P W = .ok (.value (.func (.func f) #[] (xs.map a.eval).toArray)) W:=by
      unfold execOp
      simp only [hh.op]
      simp [Instr.makeFunc,Sem.run_bind]
    unfold Oper.wp
    rw [e]
    exact hK _ W (Below.refl _ _) ⟨_,rfl,hx.H hf⟩
theorem calvc {d t:Tmp} {f:FuncId} {fn:Func} {xs:List Operand} {ts:Array TypeId} {ps cs:List SP} {q:SP} (hh:Pl R ops i o (some d) (.call { callee := .value (.tmp t),args:=xs.toArray,argTypes:=ts }) true) (hv:Vl R i (.tmp t) (.fnc f cs)) (hfn:P.funcs[f]?=some fn) (hbody:(fn.name == "runtime.NumGoroutine" || fn.body.isNone)=false)
    (hc:FnC P f (ps++cs) q) (hx:Vls R i xs ps):Does P w0 ok0 N R ops Q i o (some (.s d q)) :=
  does_s hh fun ok a W hf hk K hK=>by
    obtain ⟨us,e0',hA⟩:=hv.H hf
    have e0:a.eval (.tmp t) = .func (.func f) #[] us.toArray:=e0'
    have e:(execOp a.eval o).run P W = .ok (.enter f (xs.map a.eval++us).toArray) W:=by
      have e1:execOp a.eval o=callFunc f (xs.map a.eval++us).toArray:=by
        unfold execOp
        simp only [hh.op,resolve,e0]
        show callFunc f (#[]++xs.toArray.map a.eval++us.toArray)=_
        simp
      rw [e1]
      unfold callFunc
      have hp:program.run P W = .ok P W:=rfl
      rw [Sem.run_bind,hp,Result.andThen_ok,hfn]
      have hb1:(fn.name == "runtime.NumGoroutine")=false:=by revert hbody;cases (fn.name == "runtime.NumGoroutine")<;>simp
      have hb2:fn.body.isNone=false:=by revert hbody;cases fn.body.isNone<;>simp
      simp only [hb1,hb2,Bool.false_eq_true,if_false]
      rfl
    unfold Oper.wp
    rw [e,Oper.upon_enter]
    refine (hc ok _ W ((hx.H hf).app hA) hk).mono ?_
    rintro e W' ⟨r,rfl,hr,hb⟩
    exact hK r W' hb hr
end
end Go.Proofs.YtkgagdjogedoiaaGreat.Fx

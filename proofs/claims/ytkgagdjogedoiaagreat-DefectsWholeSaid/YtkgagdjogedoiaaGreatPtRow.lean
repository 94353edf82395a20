/- A place, or a row of places, that comes in as an argument: what its cells are. -/
import Derived.Test.YtkgagdjogedoiaaGreatProg
import Derived.Test.YtkgagdjogedoiaaGreatPr4
import Derived.WalkKit
import Derived.ProofKit
import Derived.OpenShut
import Derived.Deep.Slices
set_option linter.unusedVariables false
set_option linter.unusedSimpArgs false
namespace Go.Proofs.YtkgagdjogedoiaaGreat
open Go Go.ChangeShapes Go.WideShapes Go.ChangeAt Go.RowKit Go.Proofs.YtkgagdjogedoiaaGreat.Fx Go.Proofs.YtkgagdjogedoiaaGreatW.PrintWords
def I64 (x:Int):Prop := -9223372036854775808≤x∧x≤9223372036854775807
theorem wf_I {x:Int} (h:(Lit.int .i64 x).wf=true):I64 x:=by
 have:=bounds_i64 h
 unfold I64;omega
theorem cP:Tryz.prog.cellsOf 30=2:=by kernel_rfl
theorem cI:Tryz.prog.cellsOf 3=1:=by kernel_rfl
theorem two {α:Type} {cs:List α} (h:cs.length=2):∃ a b,cs=[a,b]:=by
 match cs,h with
 | [a,b],_=>exact ⟨a,b,rfl⟩
set_option maxRecDepth 100000 in
theorem point_cells {H:Type} {enc:TypeId × Value→H} {w:World} {base:Nat} {sp:Nat→Bool} {held:Bool} {n:Nat} {cs:List Value} {x:DataW H × List MemPlace}
  (h:DataW.trod enc Tryz.prog w base sp held n 30 cs=some x):∃ a b:Int,cs=[.int .i64 a,.int .i64 b]∧I64 a∧I64 b:=by
 obtain ⟨y0,y1,k,rfl,hl,h0,h1⟩:=trod_struct2 Tryz.underlying30 h
 rw [cP] at hl
 obtain ⟨v0,v1,rfl⟩:=two hl
 simp only [cI,List.drop_zero,List.take_succ_cons,List.take_zero,List.drop_succ_cons,List.take] at h0 h1
 obtain ⟨a,e1,_,wa⟩:=DataW.trod_int Tryz.underlying3 h0
 obtain ⟨b,e2,_,wb⟩:=DataW.trod_int Tryz.underlying3 h1
 simp at e1 e2
 subst e1 e2
 exact ⟨a,b,rfl,wf_I wa,wf_I wb⟩
set_option maxRecDepth 100000 in
theorem open_point {H:Type} {enc:TypeId × Value→H} {w:World} {base:Nat} {sp:Nat→Bool} {held:Bool} {r:Reach} {b0:Nat} {v:Value} {d:DataW H} {p:List MemPlace}
  (hv:Value.okWide Tryz.prog w r b0 30 v) (h:DataW.Trod enc Tryz.prog w base sp held 30 v d p):∃ a b:Int,v=ptv a b∧I64 a∧I64 b:=by
 obtain ⟨cs,rfl,hsz⟩:=okWide_struct Tryz.underlying30 hv
 obtain ⟨n,hn⟩:=h
 obtain ⟨a,b,he,h1⟩:=point_cells hn
 simp [Value.cells] at he
 exact ⟨a,b,by unfold ptv;cases cs;simp_all,h1⟩
theorem FnC.go {f:FuncId} {ps:List SP} {r:Value} (h:FnC Tryz.prog f ps (.is r)) {vs:List Value} (W:World) (hA:Args (fun _=>True) W ps vs):Calls Tryz.prog f vs.toArray W fun e w'=>e = .returned r∧Below W.heap.size W w' :=
 (h (fun _=>True) vs W hA (fun _ _=>trivial)).mono fun e W' ⟨r',e1,e2,e3⟩=>⟨by rw [e1,show r'=r from e2],e3⟩
end Go.Proofs.YtkgagdjogedoiaaGreat

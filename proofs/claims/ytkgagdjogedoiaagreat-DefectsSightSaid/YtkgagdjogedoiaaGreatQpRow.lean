import Derived.Test.YtkgagdjogedoiaaGreatProg
import Derived.Test.YtkgagdjogedoiaaGreatPr4
import Derived.WalkKit
import Derived.ProofKit
import Derived.OpenShut
import Derived.Deep.Slices
import Derived.Test.YtkgagdjogedoiaaGreatDb
import Derived.Deep.Strs
import Derived.Test.YtkgagdjogedoiaaGreatSx1
set_option linter.unusedVariables false
set_option linter.unusedSimpArgs false
namespace Go.Proofs.YtkgagdjogedoiaaGreat
open Go Go.ChangeShapes Go.WideShapes Go.ChangeAt Go.RowKit Go.Proofs.YtkgagdjogedoiaaGreat.Fx Go.Proofs.YtkgagdjogedoiaaGreatW.PrintWords
def I64 (x:Int):Prop := -9223372036854775808≤x∧x≤9223372036854775807
theorem wf_I {x:Int} (h:(Lit.int .i64 x).wf=true):I64 x:=by
 have:=bounds_i64 h
 unfold I64;omega
theorem cP:Tryz.prog.cellsOf 30=2:=by kernel_rfl
theorem cI:Tryz.prog.cellsOf 3=1:=by kernel_rfl
theorem two {α:Type} {cs:List α} (h:cs.length=2):∃ a b,cs=[a,b]:=by
 match cs,h with
 | [a,b],_=>exact ⟨a,b,rfl⟩
set_option maxRecDepth 100000 in
theorem point_cells {H:Type} {enc:TypeId × Value→H} {w:World} {base:Nat} {sp:Nat→Bool} {held:Bool} {n:Nat} {cs:List Value} {x:DataW H × List MemPlace}
  (h:DataW.trod enc Tryz.prog w base sp held n 30 cs=some x):∃ a b:Int,cs=[.int .i64 a,.int .i64 b]∧I64 a∧I64 b:=by
 obtain ⟨y0,y1,k,rfl,hl,h0,h1⟩:=trod_struct2 Tryz.underlying30 h
 rw [cP] at hl
 obtain ⟨v0,v1,rfl⟩:=two hl
 simp only [cI,List.drop_zero,List.take_succ_cons,List.take_zero,List.drop_succ_cons,List.take] at h0 h1
 obtain ⟨a,e1,_,wa⟩:=DataW.trod_int Tryz.underlying3 h0
 obtain ⟨b,e2,_,wb⟩:=DataW.trod_int Tryz.underlying3 h1
 simp at e1 e2
 subst e1 e2
 exact ⟨a,b,rfl,wf_I wa,wf_I wb⟩
theorem FnC.go {f:FuncId} {ps:List SP} {r:Value} (h:FnC Tryz.prog f ps (.is r)) {vs:List Value} (W:World) (hA:Args (fun _=>True) W ps vs):Calls Tryz.prog f vs.toArray W fun e w'=>e = .returned r∧Below W.heap.size W w' :=
 (h (fun _=>True) vs W hA (fun _ _=>trivial)).mono fun e W' ⟨r',e1,e2,e3⟩=>⟨by rw [e1,show r'=r from e2],e3⟩
end Go.Proofs.YtkgagdjogedoiaaGreat

set_option linter.unusedVariables false
set_option linter.unusedSimpArgs false
namespace Go.Proofs.YtkgagdjogedoiaaGreat
open Go Go.ChangeShapes Go.WideShapes Go.ChangeAt Go.RowKit Go.Proofs.YtkgagdjogedoiaaGreat.Fx Go.Proofs.YtkgagdjogedoiaaGreatW.PrintWords
set_option maxRecDepth 100000 in
theorem open_rowG {α:Type} [Inhabited α] {E SL:TypeId} {sz:Nat} {toC:α→List Value} {ok:α→Prop} (hu:Tryz.prog.underlying SL=some (.slice E)) (hc:Tryz.prog.cellsOf E=sz) (hlen:∀ a,(toC a).length=sz)
  {H:Type} {enc:TypeId × Value→H} {w:World} {base:Nat} {sp:Nat→Bool} {held:Bool} {fuel:Nat} {v:Value} {y:DataW H × List MemPlace}
  (hcell:∀ {n:Nat} {cs:List Value} {x:DataW H × List MemPlace},DataW.trod enc Tryz.prog w base sp held n E cs=some x→∃ a:α,cs=toC a∧ok a)
  (hf:DataW.trod enc Tryz.prog w base sp held fuel SL [v]=some y):∃ l:List α,(SP.vec sz (l.map toC)).H (fun _=>True) v w∧∀ x∈l,ok x:=by
 rcases Go.Deep.open_slice hu hf with ⟨hcs,_⟩|⟨a,len,cap,m,n,D,Pl,hcs,hb,hl,hmx,hm,hx,hcl⟩
 ·simp at hcs
  subst hcs
  exact ⟨[],⟨none,0,rfl,Nat.le_refl _,fun W' _ h=>absurd h (Nat.lt_irrefl _)⟩,fun x hx=>(by cases hx)⟩
 ·simp at hcs
  subst hcs
  have hlm:len≤m:=by rw [hm];split<;>omega
  have hel:∀ i:Nat,∃ x:α,i < len→ok x∧∀ (k:Nat) (u:Value),(toC x)[k]?=some u→w.cell? (a.add (i * sz+k))=some u:=by
   intro i
   by_cases hi:i < len
   ·obtain ⟨cs',hc1,hc2⟩:=hcl i (by omega)
    rw [hc] at hc1
    obtain ⟨x,rfl,hu⟩:=hcell hc2
    refine ⟨x,fun _=>⟨hu,fun k u hk=>?_⟩⟩
    have hk5:k < sz:=by have:=(List.getElem?_eq_some_iff.1 hk).1;rwa [hlen] at this
    unfold World.cells? at hc1
    split at hc1
    ·have hg:=mapM_some_get hc1 k k (by rw [List.getElem?_range hk5])
     rw [← Go.Deep.add_add]
     rw [hg]
     exact hk
    ·cases hc1
   ·exact ⟨default,fun h=>absurd h hi⟩
  obtain ⟨f,hff⟩:=Classical.axiomOfChoice hel
  have hlen2:((List.range len).map f).length=len:=by simp
  refine ⟨(List.range len).map f,⟨some a,cap,by rw [List.length_map,hlen2],by rw [List.length_map,hlen2];exact hl,fun W' hW' _=>⟨a,rfl,fun j c hj=>?_⟩⟩,?_⟩
  ·have hjl:j < len:=by have:=(List.getElem?_eq_some_iff.1 hj).1;simpa using this
   have hq:c=toC (f j):=by simp [hjl] at hj;exact hj.symm
   subst hq
   refine ⟨hlen _,fun i u hu=>?_⟩
   have hc:=(hff j hjl).2 i u hu
   rw [← hc]
   exact World.cell?_of_block (w:=w) (hW' _ trivial (World.block_lt_of_cell? w _ hc))
  ·intro x hx
   obtain ⟨i,hi,rfl⟩:=List.mem_map.1 hx
   exact (hff i (List.mem_range.1 hi)).1
theorem csegs:Tryz.prog.cellsOf 28=2:=by kernel_rfl
theorem cvP:Tryz.prog.cellsOf 22=1:=by kernel_rfl
theorem cvS:Tryz.prog.cellsOf 24=1:=by kernel_rfl
theorem threeL {α:Type} {cs:List α} (h:cs.length=3):∃ a b c,cs=[a,b,c]:=by
 match cs,h with
 | [a,b,c],_=>exact ⟨a,b,c,rfl⟩
def wfS (s:Int × Int):Prop:=(Lit.int .i64 s.1).wf=true∧(Lit.int .i64 s.2).wf=true
section
variable {H:Type} {enc:TypeId × Value→H} {w:World} {base:Nat} {sp:Nat→Bool} {held:Bool}
set_option maxRecDepth 100000 in
theorem cells_sg {n:Nat} {cs:List Value} {x:DataW H × List MemPlace} (h:DataW.trod enc Tryz.prog w base sp held n 28 cs=some x):∃ a:Int × Int,cs=sgc a∧wfS a:=by
 obtain ⟨y0,y1,k,rfl,hl,h0,h1⟩:=trod_struct2 Tryz.underlying28 h
 rw [csegs] at hl
 obtain ⟨v0,v1,rfl⟩:=two hl
 simp only [cI,List.drop_zero,List.take_succ_cons,List.take_zero,List.drop_succ_cons,List.take] at h0 h1
 obtain ⟨a,e1,_,wa⟩:=DataW.trod_int Tryz.underlying3 h0
 obtain ⟨b,e2,_,wb⟩:=DataW.trod_int Tryz.underlying3 h1
 simp at e1 e2
 subst e1 e2
 exact ⟨(a,b),rfl,wa,wb⟩
set_option maxRecDepth 100000 in
theorem cells_pt {n:Nat} {cs:List Value} {x:DataW H × List MemPlace} (h:DataW.trod enc Tryz.prog w base sp held n 30 cs=some x):∃ a:Int × Int,cs=pc a∧True:=by
 obtain ⟨a,b,e,_⟩:=point_cells h
 exact ⟨(a,b),e,trivial⟩
end
end Go.Proofs.YtkgagdjogedoiaaGreat

set_option linter.unusedVariables false
set_option linter.unusedSimpArgs false
namespace Go.Proofs.YtkgagdjogedoiaaGreat
open Go Go.ChangeShapes Go.WideShapes Go.ChangeAt Go.RowKit Go.Proofs.YtkgagdjogedoiaaGreat.Fx Go.Proofs.YtkgagdjogedoiaaGreatW.PrintWords
theorem cpoly:Tryz.prog.cellsOf 47=3:=by kernel_rfl
set_option maxRecDepth 100000 in
theorem open_poly {H:Type} {enc:TypeId × Value→H} {w:World} {base:Nat} {sp:Nat→Bool} {held:Bool} {r:Reach} {b0:Nat} {v:Value} {d:DataW H} {p:List MemPlace} (hv:Value.okWide Tryz.prog w r b0 47 v) (h:DataW.Trod enc Tryz.prog w base sp held 47 v d p) :
  ∃ P L I:List (Int × Int),(SP.poly P L I).H (fun _=>True) v w:=by
 obtain ⟨cs,rfl,hsz⟩:=okWide_struct Tryz.underlying47 hv
 obtain ⟨n,hn⟩:=h
 obtain ⟨y0,y1,y2,k,_,hl,h0,h1,h2⟩:=Go.Deep.trod_struct3 Tryz.underlying47 hn
 rw [cpoly] at hl
 obtain ⟨a,b,c,e⟩:=threeL hl
 rw [e] at h0 h1 h2
 simp only [cvP,cvS,List.drop_zero,List.take_succ_cons,List.take_zero,List.drop_succ_cons,List.take] at h0 h1 h2
 obtain ⟨P,hP,_⟩:=open_rowG (α:=Int × Int) (toC:=pc) Tryz.underlying22 cP (fun _=>rfl) cells_pt h0
 obtain ⟨L,hL,_⟩:=open_rowG (α:=Int × Int) (toC:=sgc) Tryz.underlying24 csegs (fun _=>rfl) cells_sg h1
 obtain ⟨I,hI,_⟩:=open_rowG (α:=Int × Int) (toC:=sgc) Tryz.underlying24 csegs (fun _=>rfl) cells_sg h2
 have ecs:cs=#[a,b,c]:=Array.toList_inj.1 e
 exact ⟨P,L,I,⟨a,b,c,by rw [ecs],hP,hL,hI,trivial⟩⟩
end Go.Proofs.YtkgagdjogedoiaaGreat

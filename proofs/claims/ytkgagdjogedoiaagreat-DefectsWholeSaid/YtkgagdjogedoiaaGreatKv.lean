/- A key that is a segment is one of two whole numbers. -/
import Derived.Test.YtkgagdjogedoiaaGreatMx
import Derived.Test.YtkgagdjogedoiaaGreatDb
set_option linter.unusedVariables false
set_option linter.unusedSimpArgs false
namespace Go.Proofs.YtkgagdjogedoiaaGreat
open Go Go.RowKit Go.Proofs.YtkgagdjogedoiaaGreat.Fx Go.Proofs.YtkgagdjogedoiaaGreatW.PrintWords
theorem lits_int {d:Nat} {x:Value} {ls:List Lit} (h:Tryz.prog.keyLits (d+1) 3 [x]=some ls):∃ n:Int,x = .int .i64 n∧(Lit.int .i64 n).wf=true:=by
 unfold Program.keyLits at h
 simp only [Tryz.underlying3] at h
 cases x with
 | int q n =>
  simp only at h
  split at h
  ·rename_i hc
   obtain ⟨rfl,hw⟩:=hc
   exact ⟨n,rfl,hw⟩
  ·cases h
 | _=>cases h
theorem invS:KeyInv Tryz.prog 28:=⟨fun {v l} h=>by
 obtain ⟨m,hm⟩:=sizeT
 unfold keyOf at h
 simp only [Tryz.underlying28] at h
 split at h
 ·cases hk:Tryz.prog.keyLits (Tryz.prog.types.size+1) 28 v.cells.toList with
  | none=>rw [hk] at h;cases h
  | some ls =>
   rw [hm] at hk
   unfold Program.keyLits at hk
   simp only [Tryz.underlying28] at hk
   split at hk
   ·rename_i hc
    have hl:v.cells.toList.length=2:=by rw [hc.1,cellsS]
    obtain ⟨x,y,e⟩:∃ x y,v.cells.toList=[x,y]:=by
     match hv:v.cells.toList,hl with
     | [x,y],_=>exact ⟨x,y,rfl⟩
    rw [e] at hk
    simp [cellsI] at hk
    cases h1:Tryz.prog.keyLits (m+2) 3 [x] with
    | none=>rw [h1] at hk;cases hk
    | some l1 =>
     cases h2:Tryz.prog.keyLits (m+2) 3 [y] with
     | none=>rw [h1,h2] at hk;simp at hk
     | some l2 =>
      obtain ⟨a,rfl,wa⟩:=lits_int h1
      obtain ⟨b,rfl,wb⟩:=lits_int h2
      refine ⟨a,b,?_,wa,wb⟩
      cases v with
      | agg cs=>rw [show cs=#[.int .i64 a,.int .i64 b] from Array.toList_inj.1 e]
      | _=>cases e
   ·cases hk
 ·cases h⟩
end Go.Proofs.YtkgagdjogedoiaaGreat

/- Types of the program of defects, and words for segments, triangles, meshes. -/
import Derived.Test.YtkgagdjogedoiaaGreatJx
import Derived.Test.YtkgagdjogedoiaaGreatPr6
set_option linter.unusedVariables false
set_option linter.unusedSimpArgs false
namespace Go.Proofs.YtkgagdjogedoiaaGreat
open Go Go.RowKit Go.Proofs.YtkgagdjogedoiaaGreat.Fx Go.Proofs.YtkgagdjogedoiaaGreatW.PrintWords
def sgv (s:Int × Int):Value := .agg #[.int .i64 s.1,.int .i64 s.2]
abbrev sgc (s:Int × Int):List Value:=[.int .i64 s.1,.int .i64 s.2]
abbrev svec (l:List (Int × Int)):SP := .vec 2 (l.map sgc)
theorem tyS:AggTy Tryz.prog 28 2:=⟨⟨_,Tryz.underlying28,rfl⟩,by kernel_rfl⟩
theorem rwS:RowTy Tryz.prog 24 28 2:=⟨Tryz.underlying24,by kernel_rfl⟩
theorem fSA:FieldTy Tryz.prog 28 0 0:=⟨⟨_,_,Tryz.underlying28,rfl,fun _ _=>by kernel_rfl⟩⟩
theorem fSB:FieldTy Tryz.prog 28 1 1:=⟨⟨_,_,Tryz.underlying28,rfl,fun _ _=>by kernel_rfl⟩⟩
theorem aSA:∃ fs fl,Tryz.prog.underlying 28=some (.struct fs)∧fs[0]?=some fl∧∀ ad W,(fieldPlace ad fl).run Tryz.prog W = .ok (ad.add 0) W:=⟨_,_,Tryz.underlying28,rfl,fun ad W=>by kernel_rfl⟩
theorem aSB:∃ fs fl,Tryz.prog.underlying 28=some (.struct fs)∧fs[1]?=some fl∧∀ ad W,(fieldPlace ad fl).run Tryz.prog W = .ok (ad.add 1) W:=⟨_,_,Tryz.underlying28,rfl,fun ad W=>by kernel_rfl⟩
theorem zS (W:World):(zeroValue 28).run Tryz.prog W = .ok (sgv (0,0)) W:=by kernel_rfl
theorem zBool (W:World):(zeroValue 4).run Tryz.prog W = .ok (.bool false) W:=by kernel_rfl
instance (s:Int × Int):AggSP (.is (sgv s)) 2:=⟨fun h=>⟨_,h,rfl,by simp [Value.oneCell']⟩⟩
instance (s:Int × Int):CellOf (.is (sgv s)) 0 (iv s.1):=⟨fun h=>⟨_,by have h:Value.agg _=sgv s:=h;simp only [sgv,Value.agg.injEq] at h;subst h;rfl,rfl⟩⟩
instance (s:Int × Int):CellOf (.is (sgv s)) 1 (iv s.2):=⟨fun h=>⟨_,by have h:Value.agg _=sgv s:=h;simp only [sgv,Value.agg.injEq] at h;subst h;rfl,rfl⟩⟩
theorem bS (x y:Int):Tryz.prog.built 28 [(0,.int .i64 x),(1,.int .i64 y)]=some (sgv (x,y)).cells:=by kernel_rfl
theorem aS (x y:Int):Value.agg (sgv (x,y)).cells=sgv (x,y):=rfl
theorem bSb (y:Int):Tryz.prog.built 28 [(1,.int .i64 y)]=some (sgv (0,y)).cells:=by kernel_rfl
theorem apS:AppTy Tryz.prog 24 28 2 16:=apTy Tryz.underlying24 (by decide) (by kernel_rfl)
theorem laidOut:laidOutB Tryz.prog=true:=by kernel_rfl
theorem rowS:(28:TypeId) < Tryz.prog.types.size:=of_decide_eq_true (by kernel_rfl)
theorem lawS:Go.WideMaps.KeyLaw Tryz.prog 28:=deep_law_laid laidOut (m:=2) (by omega) rowS (by kernel_rfl) (by rw [Tryz.underlying28])
theorem keyTypeS:Tryz.prog.keyType 28=true:=by kernel_rfl
theorem cellsS:Tryz.prog.cellsOf 28=2:=by kernel_rfl
theorem cellsI:Tryz.prog.cellsOf 3=1:=by kernel_rfl
theorem sizeT:∃ m,Tryz.prog.types.size=m+2:=⟨Tryz.prog.types.size - 2,by have:(2:Nat)≤Tryz.prog.types.size:=of_decide_eq_true (by kernel_rfl);omega⟩
theorem keyS:KeyTy Tryz.prog 28:=⟨Go.Maps.Keyed.of_law lawS,fun a b wa wb=>by
 obtain ⟨m,hm⟩:=sizeT
 refine ⟨.string (keyBytes [.int .i64 a,.int .i64 b]),?_⟩
 unfold keyOf
 simp only [Tryz.underlying28]
 rw [if_pos (by simp [keyTypeS,Value.formed,Tryz.underlying28,cellsS]),hm]
 unfold Program.keyLits
 simp only [Tryz.underlying28,Value.cells]
 rw [if_pos (by rw [cellsS];exact ⟨rfl,by simp⟩)]
 simp [cellsI,Program.keyLits,Tryz.underlying3,wa,wb]⟩
theorem sG:Tryz.prog.eqGuardType Tryz.prog.depth 28=false:=by kernel_rfl
theorem eqSg (s u:Int × Int) (W:World):(Op.equalIn 10000 28 (sgv s) (sgv u)).run Tryz.prog W = .ok (s.1==u.1 && s.2==u.2) W:=by
 rw [show (10000:Nat)=9998+2 from rfl]
 refine eqA_of Tryz.underlying28 (by kernel_rfl) ?_
 refine eqf_cons (by rfl) (by go_simp;rfl) (by go_simp;rfl) (by go_simp) ?_
 exact eqf_last (by rfl) (by go_simp;rfl) (by go_simp;rfl) (by go_simp)
theorem seg_all (l:List (Int × Int)):((l.map sgc).all fun r=>r.length==2 && r.all (·.oneCell'))=true:=by
 rw [List.all_eq_true]
 intro r hr
 obtain ⟨z,_,rfl⟩:=List.mem_map.1 hr
 rfl
section
variable {P:Program} {w0:World} {ok0:Nat→Prop} {N:Nat} {R:Rg} {ops:Array Oper} {Q:Exit→Act→World→Prop} {i:Nat} {o:Oper}
end
/-! ### Triangles, meshes -/
def trv (t:Int × Int × Int):Value := .agg #[.int .i64 t.1,.int .i64 t.2.1,.int .i64 t.2.2]
abbrev trc (t:Int × Int × Int):List Value:=[.int .i64 t.1,.int .i64 t.2.1,.int .i64 t.2.2]
abbrev pvec (l:List (Int × Int)):SP := .vec 2 (l.map pc)
abbrev tvec (l:List (Int × Int × Int)):SP := .vec 3 (l.map trc)
theorem tyT:AggTy Tryz.prog 55 3:=⟨⟨_,Tryz.underlying55,rfl⟩,by kernel_rfl⟩
theorem tyM:AggTy Tryz.prog 26 3:=⟨⟨_,Tryz.underlying26,rfl⟩,by kernel_rfl⟩
theorem tyvP:ScalTy Tryz.prog 22:=⟨⟨_,Tryz.underlying22,rfl⟩⟩
theorem tyvT:ScalTy Tryz.prog 23:=⟨⟨_,Tryz.underlying23,rfl⟩⟩
theorem tyvS:ScalTy Tryz.prog 24:=⟨⟨_,Tryz.underlying24,rfl⟩⟩
theorem rwT:RowTy Tryz.prog 23 55 3:=⟨Tryz.underlying23,by kernel_rfl⟩
theorem fTA:FieldTy Tryz.prog 55 0 0:=⟨⟨_,_,Tryz.underlying55,rfl,fun _ _=>by kernel_rfl⟩⟩
theorem fTB:FieldTy Tryz.prog 55 1 1:=⟨⟨_,_,Tryz.underlying55,rfl,fun _ _=>by kernel_rfl⟩⟩
theorem fTC:FieldTy Tryz.prog 55 2 2:=⟨⟨_,_,Tryz.underlying55,rfl,fun _ _=>by kernel_rfl⟩⟩
theorem fMP:FieldTy Tryz.prog 26 0 0:=⟨⟨_,_,Tryz.underlying26,rfl,fun _ _=>by kernel_rfl⟩⟩
theorem fMT:FieldTy Tryz.prog 26 1 1:=⟨⟨_,_,Tryz.underlying26,rfl,fun _ _=>by kernel_rfl⟩⟩
theorem fMS:FieldTy Tryz.prog 26 2 2:=⟨⟨_,_,Tryz.underlying26,rfl,fun _ _=>by kernel_rfl⟩⟩
theorem zT (W:World):(zeroValue 55).run Tryz.prog W = .ok (trv (0,0,0)) W:=by kernel_rfl
theorem bT (x y z:Int):Tryz.prog.built 55 [(0,.int .i64 x),(1,.int .i64 y),(2,.int .i64 z)]=some (trv (x,y,z)).cells:=by kernel_rfl
theorem aT (x y z:Int):Value.agg (trv (x,y,z)).cells=trv (x,y,z):=rfl
instance (s:Int × Int × Int):AggSP (.is (trv s)) 3:=⟨fun h=>⟨_,h,rfl,by simp [Value.oneCell']⟩⟩
instance (s:Int × Int × Int):CellOf (.is (trv s)) 0 (iv s.1):=⟨fun h=>⟨_,by have h:Value.agg _=trv s:=h;simp only [trv,Value.agg.injEq] at h;subst h;rfl,rfl⟩⟩
instance (s:Int × Int × Int):CellOf (.is (trv s)) 1 (iv s.2.1):=⟨fun h=>⟨_,by have h:Value.agg _=trv s:=h;simp only [trv,Value.agg.injEq] at h;subst h;rfl,rfl⟩⟩
instance (s:Int × Int × Int):CellOf (.is (trv s)) 2 (iv s.2.2):=⟨fun h=>⟨_,by have h:Value.agg _=trv s:=h;simp only [trv,Value.agg.injEq] at h;subst h;rfl,rfl⟩⟩
def SP.mesh (P:List (Int × Int)) (T:List (Int × Int × Int)) (S:List (Int × Int)):SP :=
 ⟨fun ok v W=>∃ a b c,v = .agg #[a,b,c]∧Args ok W [pvec P,tvec T,svec S] [a,b,c],fun hk ⟨a,b,c,e,h⟩=>⟨a,b,c,e,h.mono hk⟩,fun ⟨a,b,c,e,h⟩=>⟨a,b,c,e,h.bound⟩,fun ⟨a,b,c,e,h⟩ hm=>⟨a,b,c,e,h.step hm⟩⟩
section
variable {P:List (Int × Int)} {T:List (Int × Int × Int)} {S:List (Int × Int)}
instance : AggSP (SP.mesh P T S) 3:=⟨fun ⟨a,b,c,e,h⟩=>by
 obtain ⟨A,n,e1⟩:=SP.vec_val h.1
 obtain ⟨A',n',e2⟩:=SP.vec_val h.2.1
 obtain ⟨A2,n2,e3⟩:=SP.vec_val h.2.2.1
 exact ⟨_,e,rfl,by simp [e1,e2,e3,Value.oneCell']⟩⟩
instance : CellOf (SP.mesh P T S) 0 (pvec P):=⟨fun ⟨a,b,c,e,h⟩=>⟨a,by cases e;rfl,h.1⟩⟩
instance : CellOf (SP.mesh P T S) 1 (tvec T):=⟨fun ⟨a,b,c,e,h⟩=>⟨b,by cases e;rfl,h.2.1⟩⟩
instance : CellOf (SP.mesh P T S) 2 (svec S):=⟨fun ⟨a,b,c,e,h⟩=>⟨c,by cases e;rfl,h.2.2.1⟩⟩
end
end Go.Proofs.YtkgagdjogedoiaaGreat

/- The wide package's functions, and the document's numbers, by contracts over whole numbers. -/
import Derived.Test.YtkgagdjogedoiaaGreatGx
import Derived.Test.YtkgagdjogedoiaaGreatNWq
import Derived.Test.YtkgagdjogedoiaaGreatNPn
set_option linter.unusedVariables false
set_option linter.unusedSimpArgs false
namespace Go.Proofs.YtkgagdjogedoiaaGreat
open Go Go.RowKit Go.Proofs.YtkgagdjogedoiaaGreat.MT Go.Proofs.YtkgagdjogedoiaaGreat.Fx Go.Proofs.YtkgagdjogedoiaaGreatW.PrintWords Go.Proofs.YtkgagdjogedoiaaGreatW.PrintLast
def wv (z:Int):Value := .agg #[.bool (decide (z < 0)),.int .u64 (spl0 z.natAbs),.int .u64 (spl1 z.natAbs),.int .u64 (spl2 z.natAbs),.int .u64 (spl3 z.natAbs)]
abbrev wc (z:Int):List Value:=(wv z).cells.toList
def ptv (x y:Int):Value := .agg #[.int .i64 x,.int .i64 y]
abbrev ptc (x y:Int):List Value:=(ptv x y).cells.toList
abbrev iv (n:Int):SP := .is (.int .i64 n)
abbrev bv (b:Bool):SP := .is (.bool b)
theorem tyW:AggTy Tryz.prog 96 5:=⟨⟨_,Tryz.underlying96,rfl⟩,by kernel_rfl⟩
theorem tyP:AggTy Tryz.prog 30 2:=⟨⟨_,Tryz.underlying30,rfl⟩,by kernel_rfl⟩
theorem tyN:AggTy Tryz.prog 71 2:=⟨⟨_,Tryz.underlying71,rfl⟩,by kernel_rfl⟩
theorem tyI:ScalTy Tryz.prog 3:=⟨⟨_,Tryz.underlying3,rfl⟩⟩
instance (z:Int):AggSP (.is (wv z)) 5:=⟨fun h=>⟨_,h,rfl,by simp [Value.oneCell']⟩⟩
instance (x y:Int):AggSP (.is (ptv x y)) 2:=⟨fun h=>⟨_,h,rfl,by simp [Value.oneCell']⟩⟩
instance (x y:Int):CellOf (.is (ptv x y)) 0 (iv x):=⟨fun h=>⟨_,by have h:Value.agg _=ptv x y:=h;simp only [ptv,Value.agg.injEq] at h;subst h;rfl,rfl⟩⟩
instance (x y:Int):CellOf (.is (ptv x y)) 1 (iv y):=⟨fun h=>⟨_,by have h:Value.agg _=ptv x y:=h;simp only [ptv,Value.agg.injEq] at h;subst h;rfl,rfl⟩⟩
def Fx.SP.num (L:Nat) (z:Int):SP :=
  ⟨fun ok v W=>∃ (b:Bool) (A:Option Addr) (n c:Nat) (l:List Int),v = .agg #[.bool b,.slice A n c]∧n=l.length∧n≤c∧Kd.F (Kd.int .i64) W ok A l.length l∧NumP L b l z,
   fun hk ⟨b,A,n,c,l,e,h1,h2,h3,h4⟩=>⟨b,A,n,c,l,e,h1,h2,Kd.F_mono h3 hk,h4⟩,
   fun ⟨b,A,n,c,l,e,h1,h2,h3,h4⟩=>⟨b,A,n,c,l,e,h1,h2,Kd.F_bound h3,h4⟩,
   fun ⟨b,A,n,c,l,e,h1,h2,h3,h4⟩ hm=>⟨b,A,n,c,l,e,h1,h2,Kd.F_step h3 hm,h4⟩⟩
instance (L:Nat) (z:Int):AggSP (SP.num L z) 2:=⟨fun ⟨b,A,n,c,l,e,_⟩=>⟨_,e,rfl,by simp [Value.oneCell']⟩⟩
theorem FnC.val {f:FuncId} {vs:List Value} {r:Value} (h:∀ W,Calls Tryz.prog f vs.toArray W fun e W'=>e = .returned r∧Below W.heap.size W W'):FnC Tryz.prog f (vs.map SP.is) (.is r):=by
  intro ok ws W hA hk
  rw [args_is hA]
  exact (h W).mono fun e W' ⟨e1,e2⟩=>⟨r,e1,rfl,e2⟩
theorem FnC.valT {f:FuncId} {vs rs:List Value} (h:∀ W,Calls Tryz.prog f vs.toArray W fun e W'=>e = .returned (.tuple rs.toArray)∧Below W.heap.size W W'):FnC Tryz.prog f (vs.map SP.is) (.tup (rs.map SP.is)):=by
  intro ok ws W hA hk
  rw [args_is hA]
  refine (h W).mono fun e W' ⟨e1,e2⟩=>⟨_,e1,⟨rs,rfl,?_⟩,e2⟩
  have:∀ rs:List Value,Args ok W' (rs.map SP.is) rs:=fun rs=>by
    induction rs with
    | nil=>trivial
    | cons r rs ih=>exact ⟨rfl,ih⟩
  exact this rs
theorem fn_Of {n:Int} (h0 : -9223372036854775808≤n) (h1:n≤9223372036854775807):FnC Tryz.prog 68 [iv n] (.is (wv n)) :=
  FnC.val (vs:=[.int .i64 n]) fun W=>wide_Of.calls n _ _ _ _ _ W (Of_int h0 h1)
theorem fn_Neg {z:Int} (h:(z.natAbs:Int) < top4):FnC Tryz.prog 94 [.is (wv z)] (.is (wv (-z))) :=
  FnC.val (vs:=[wv z]) fun W=>by
    have e:=neg_spl (decide (z < 0)) (v:=z.natAbs) (by omega) h
    have e1:(!decide (z < 0) && !decide ((z.natAbs:Int)=0))=decide (-z < 0):=by by_cases h0:z < 0<;>by_cases h1:z=0<;>simp [h0,h1]<;>omega
    rw [e1] at e
    have:=wide_Neg.calls _ _ _ _ _ _ _ _ _ _ W e
    unfold wv
    rw [Int.natAbs_neg]
    exact this
theorem fn_Sign {z:Int} (h:(z.natAbs:Int) < top4):FnC Tryz.prog 66 [.is (wv z)] (iv (sgn z)) :=
  FnC.val (vs:=[wv z]) fun W=>by
    have e:=sign_spl (decide (z < 0)) (v:=z.natAbs) (by omega) h
    rw [sv_self] at e
    exact wide_Sign.calls _ _ _ _ _ _ W e
theorem fn_Cmp {a b:Int} (ha:(a.natAbs:Int) < top4) (hb:(b.natAbs:Int) < top4):FnC Tryz.prog 64 [.is (wv a),.is (wv b)] (iv (sgn (a - b))) :=
  FnC.val (vs:=[wv a,wv b]) fun W=>by
    obtain ⟨k,e⟩:=(cmp_spl (decide (a < 0)) (decide (b < 0)) (u:=a.natAbs) (v:=b.natAbs) (by omega) ha (by omega) hb).rounds
    rw [sv_self,sv_self] at e
    exact wide_Cmp.calls k _ _ _ _ _ _ _ _ _ _ _ W e
def s27 (z:Int):S27:=mk27 (decide (z < 0)) z.natAbs
theorem vec_wide {zs:List Int} {ok:Nat→Prop} {v:Value} {W:World} (h:(SP.vec 5 (zs.map wc)).H ok v W) (hb:zs.length≤1000):∃ A c,v = .slice A (zs.map s27).length c∧(zs.map s27).length≤c∧Kd.C k27 W A (zs.map s27).length (zs.map s27):=by
  obtain ⟨A,c,e,h1,h2⟩:=vec_C (d:=k27) (l:=zs.map s27) h rfl (by simp) (by simp;omega) (fun W' j x c hx hc=>by
    rw [List.getElem?_map] at hx hc
    cases hz:zs[j]? with
    | none=>rw [hz] at hx;cases hx
    | some z =>
      rw [hz] at hx hc
      simp only [Option.map_some,Option.some.injEq] at hx hc
      subst hx;subst hc
      exact k27_mk W' (s27 z))
  exact ⟨A,c,e,h1,Kd.F_now h2⟩
theorem map_s27 (zs:List Int) (h:∀ z∈zs,(z.natAbs:Int) < top4):(zs.map s27).map val27=zs:=by
  induction zs with
  | nil=>rfl
  | cons z zs ih =>
    simp only [List.map_cons]
    rw [ih (fun x hx=>h x (List.mem_cons_of_mem _ hx))]
    congr 1
    unfold s27
    rw [val_mk27 _ (by omega) (h z List.mem_cons_self),sv_self]
theorem ok_s27 (zs:List Int):∀ x∈zs.map s27,OkS x:=by
  intro x hx
  obtain ⟨z,_,rfl⟩:=List.mem_map.1 hx
  exact ok27 _ _
theorem fn_wide {f:FuncId} {op:Int→Int→Int} {z0 r:Int} {zs:List Int} {g:Nat→List S27→Option (Bool × Int × Int × Int × Int × Int)}
    (hc:∀ (k:Nat) (A0:Option Addr) (c0:Nat) (l0:List S27) (r1:Bool) (r2 r3 r4 r5 r6:Int) (w:World),Kd.C k27 w A0 l0.length l0→l0.length≤c0→g k l0=some (r1,r2,r3,r4,r5,r6) →
      Calls Tryz.prog f #[.slice A0 l0.length c0] w fun e w'=>e = .returned (.tuple #[.agg #[.bool r1,.int .u64 r2,.int .u64 r3,.int .u64 r4,.int .u64 r5],.int .i64 r6])∧Below w.heap.size w w')
    (he:Ev (fun k=>g k (zs.map s27)) (resW (goOn op ((zs.map s27).map val27) z0))) (hz:∀ z∈zs,(z.natAbs:Int) < top4) (hl:zs.length≤1000) (hr:goOn op zs z0=some r) :
    FnC Tryz.prog f [.vec 5 (zs.map wc)] (.tup [.is (wv r),iv 0]):=by
  intro ok vs W hA hk
  match vs,hA with
  | [v],hA =>
    obtain ⟨A,c,rfl,h1,h2⟩:=vec_wide hA.1 hl
    rw [map_s27 zs hz,hr] at he
    obtain ⟨k,e⟩:=he.rounds
    exact (hc k A c _ _ _ _ _ _ _ W h2 h1 e).mono fun e W' ⟨e1,e2⟩=>⟨_,e1,⟨[wv r,.int .i64 0],rfl,rfl,rfl,trivial⟩,e2⟩
theorem fn_Add {r:Int} {zs:List Int} (hz:∀ z∈zs,(z.natAbs:Int) < top4) (hl:zs.length≤1000) (hr:goOn (·+·) zs 0=some r):FnC Tryz.prog 100 [.vec 5 (zs.map wc)] (.tup [.is (wv r),iv 0]) :=
  fn_wide (fun k A0 c0 l0 r1 r2 r3 r4 r5 r6 w hr hc h=>wide_Add.calls k A0 c0 l0 r1 r2 r3 r4 r5 r6 w hr hc h) (add_ev (zs.map s27) (by simpa using hl) (ok_s27 zs)) hz hl hr
theorem fn_Mul {r:Int} {zs:List Int} (hz:∀ z∈zs,(z.natAbs:Int) < top4) (hl:zs.length≤1000) (hr:goOn (· * ·) zs 1=some r):FnC Tryz.prog 96 [.vec 5 (zs.map wc)] (.tup [.is (wv r),iv 0]) :=
  fn_wide (fun k A0 c0 l0 r1 r2 r3 r4 r5 r6 w hr hc h=>wide_Mul.calls k A0 c0 l0 r1 r2 r3 r4 r5 r6 w hr hc h) (mul_ev (zs.map s27) (by simpa using hl) (ok_s27 zs)) hz hl hr
end Go.Proofs.YtkgagdjogedoiaaGreat

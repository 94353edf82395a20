/- DivMod, and the document's numbers, by contracts over whole numbers. -/
import Derived.Test.YtkgagdjogedoiaaGreatPr0
set_option linter.unusedVariables false
set_option linter.unusedSimpArgs false
namespace Go.Proofs.YtkgagdjogedoiaaGreat
open Go Go.RowKit Go.Proofs.YtkgagdjogedoiaaGreat.MT Go.Proofs.YtkgagdjogedoiaaGreat.Fx Go.Proofs.YtkgagdjogedoiaaGreatW.PrintWords Go.Proofs.YtkgagdjogedoiaaGreatW.PrintLast
theorem hmx:Tryz.prog.follows .mixedOrders=true:=by kernel_rfl
theorem rwW:RowTy Tryz.prog 132 96 5:=⟨Tryz.underlying132,by kernel_rfl⟩
theorem rwP:RowTy Tryz.prog 22 30 2:=⟨Tryz.underlying22,by kernel_rfl⟩
theorem rwI:RowTy Tryz.prog 34 3 1:=⟨Tryz.underlying34,by kernel_rfl⟩
theorem fPX:FieldTy Tryz.prog 30 0 0:=⟨⟨_,_,Tryz.underlying30,rfl,fun _ _=>by kernel_rfl⟩⟩
theorem fPY:FieldTy Tryz.prog 30 1 1:=⟨⟨_,_,Tryz.underlying30,rfl,fun _ _=>by kernel_rfl⟩⟩
theorem zW (W:World):(zeroValue 96).run Tryz.prog W = .ok (wv 0) W:=by kernel_rfl
theorem zP (W:World):(zeroValue 30).run Tryz.prog W = .ok (ptv 0 0) W:=by kernel_rfl
def nv0:Value := .agg #[.bool false,.slice none 0 0]
theorem zN (W:World):(zeroValue 71).run Tryz.prog W = .ok nv0 W:=by kernel_rfl
instance:AggSP (.is nv0) 2:=⟨fun h=>⟨_,h,rfl,by simp [Value.oneCell']⟩⟩
theorem bP (x y:Int):Tryz.prog.built 30 [(0,.int .i64 x),(1,.int .i64 y)]=some (ptv x y).cells:=by kernel_rfl
theorem aP (x y:Int):Value.agg (ptv x y).cells=ptv x y:=rfl
theorem bPx (x:Int):Tryz.prog.built 30 [(0,.int .i64 x)]=some (ptv x 0).cells:=by kernel_rfl
theorem bP0:Tryz.prog.built 30 []=some (ptv 0 0).cells:=by kernel_rfl
theorem num_out {L:Nat} {z:Int} {ok:Nat→Prop} {v:Value} {W:World} (h:(SP.num L z).H ok v W):∃ (b:Bool) (A:Option Addr) (c:Nat) (l:List Int),v = .agg #[.bool b,.slice A l.length c]∧l.length≤c∧Kd.F (Kd.int .i64) W ok A l.length l∧NumP L b l z:=by
 obtain ⟨b,A,n,c,l,e,rfl,h2,h3,h4⟩:=h
 exact ⟨b,A,c,l,e,h2,h3,h4⟩
theorem num_in {L:Nat} {z:Int} {ok ok':Nat→Prop} {W:World} {b:Bool} {v:Value} {l:List Int} {B:Nat} (h:Kd.V (Kd.int .i64) 3 W B ok' v l) (hk:∀ k,ok' k→ok k) (hN:NumP L b l z):(SP.num L z).H ok (.agg #[.bool b,v]) W:=by
 obtain ⟨A,c,rfl,hc,hf⟩:=h
 exact ⟨b,A,_,c,l,rfl,rfl,hc,Kd.F_mono hf hk,hN⟩
theorem fn_small {n:Int} (h0 : -9223372036854775808≤n) (h1:n≤9223372036854775807):FnC Tryz.prog 99 [iv n] (.num 4 n):=by
 intro ok vs W hA hk
 rw [args_is (vs:=[.int .i64 n]) hA]
 obtain ⟨r,he,hN⟩:=small_ev n h0 h1
 obtain ⟨k,e⟩:=he.rounds
 refine (parquetref01_Small.calls k n r.1 r.2 W e).mono ?_
 rintro e W' ⟨v1,rfl,hV,hB⟩
 exact ⟨_,rfl,num_in hV hk hN,hB⟩
theorem fn_plus {L1 L2:Nat} {z1 z2:Int} (h1:L1≤1000000) (h2:L2≤1000000):FnC Tryz.prog 45 [.num L1 z1,.num L2 z2] (.num (max L1 L2+1) (z1+z2)):=by
 intro ok vs W hA hk
 match vs,hA with
 | [v1,v2],⟨a1,a2,_⟩ =>
  obtain ⟨b1,A1,c1,l1,rfl,hc1,hf1,hN1⟩:=num_out a1
  obtain ⟨b2,A2,c2,l2,rfl,hc2,hf2,hN2⟩:=num_out a2
  obtain ⟨r,he,hN⟩:=plus_ev hN1 hN2 h1 h2
  obtain ⟨k,e⟩:=he.rounds
  refine (parquetref01_Num_Plus.calls k b1 ok A1 c1 l1 b2 ok A2 c2 l2 r.1 r.2 W (Kd.V_mk hc1 hf1) (Kd.V_mk hc2 hf2) e).mono ?_
  rintro e W' ⟨v1,rfl,hV,hB⟩
  exact ⟨_,rfl,num_in hV (fun k hk'=>hk'.elim (fun h=>h.elim id id) (hk k)) hN,hB⟩
theorem fn_times {L1 L2:Nat} {z1 z2:Int} (h1:L1≤1000000) (h2:L2≤1000000):FnC Tryz.prog 71 [.num L1 z1,.num L2 z2] (.num (L1+L2) (z1 * z2)):=by
 intro ok vs W hA hk
 match vs,hA with
 | [v1,v2],⟨a1,a2,_⟩ =>
  obtain ⟨b1,A1,c1,l1,rfl,hc1,hf1,hN1⟩:=num_out a1
  obtain ⟨b2,A2,c2,l2,rfl,hc2,hf2,hN2⟩:=num_out a2
  obtain ⟨r,he,hN⟩:=times_ev hN1 hN2 h1 h2
  obtain ⟨k,e⟩:=he.rounds
  refine (parquetref01_Num_Times.calls k b1 A1 c1 l1 b2 A2 c2 l2 r.1 r.2 W (Kd.F_now hf1) hc1 (Kd.F_now hf2) hc2 e).mono ?_
  rintro e W' ⟨v1,rfl,hV,hB⟩
  exact ⟨_,rfl,num_in hV hk hN,hB⟩
theorem fn_nneg {L:Nat} {z:Int}:FnC Tryz.prog 86 [.num L z] (.num L (-z)):=by
 intro ok vs W hA hk
 match vs,hA with
 | [v1],⟨a1,_⟩ =>
  obtain ⟨b1,A1,c1,l1,rfl,hc1,hf1,hN1⟩:=num_out a1
  obtain ⟨r,e,hN⟩:=neg_eq hN1
  refine (parquetref01_Num_Neg.calls b1 ok A1 c1 l1 r.1 r.2 W (Kd.V_mk hc1 hf1) e).mono ?_
  rintro e W' ⟨v1,rfl,hV,hB⟩
  exact ⟨_,rfl,num_in hV (fun k hk'=>hk'.elim id (hk k)) hN,hB⟩
theorem fn_nsign {L:Nat} {z:Int}:FnC Tryz.prog 70 [.num L z] (iv (sgn z)):=by
 intro ok vs W hA hk
 match vs,hA with
 | [v1],⟨a1,_⟩ =>
  obtain ⟨b1,A1,c1,l1,rfl,hc1,hf1,hN1⟩:=num_out a1
  exact (parquetref01_Num_Sign.calls b1 A1 c1 l1 _ W (Kd.F_now hf1) hc1 (sign_eq hN1)).mono fun e W' ⟨e1,e2⟩=>⟨_,e1,rfl,e2⟩
theorem tN {k:Nat} {z:Int} (h:Bd k z) (hk:k≤256):(z.natAbs:Int) < top4:=h.lt hk
theorem lN {k:Nat} {z:Int} (h:Bd k z) (hk:k≤63) : -9223372036854775808≤z∧z≤9223372036854775807:=h.i64 hk
end Go.Proofs.YtkgagdjogedoiaaGreat

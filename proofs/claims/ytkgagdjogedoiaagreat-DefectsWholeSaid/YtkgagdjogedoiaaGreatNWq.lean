/- What the wide package's functions say of whole numbers. -/
import Derived.Test.YtkgagdjogedoiaaGreatNMt0
import Derived.Test.YtkgagdjogedoiaaGreatNWid
import Derived.Test.YtkgagdjogedoiaaGreatNPn
namespace Go.Proofs.YtkgagdjogedoiaaGreat.MT
open Go.RowKit Go.Proofs.YtkgagdjogedoiaaGreatW.PrintWords Go.Proofs.YtkgagdjogedoiaaGreatW.PrintLast Go.Proofs.YtkgagdjogedoiaaGreatW.PrintMore
attribute [local go_sem] max2_int min2_int max_two min_two max_three min_three max_four min_four   -- for this text's walks alone
set_option linter.unusedVariables false
set_option linter.unusedSimpArgs false
/-! ### wide_Parse: given 31 -/
theorem top_mod (x:Int):0≤x % top4∧x % top4 < top4:=⟨Int.emod_nonneg _ (by decide),Int.emod_lt_of_pos _ (by decide)⟩
theorem spl_small {d:Int} (h0:0≤d) (h1:d < 18446744073709551616):spl0 d=d∧spl1 d=0∧spl2 d=0∧spl3 d=0:=by
  unfold spl0 spl1 spl2 spl3;omega
theorem u4_spl (v:Int):u4 (spl0 v) (spl1 v) (spl2 v) (spl3 v)=true:=u4_iff.2 ⟨spl0_U v,spl1_U v,spl2_U v,spl3_U v⟩
theorem none_spl {v:Int} (h0:0≤v) (h1:v < top4):wide_none.f (spl0 v) (spl1 v) (spl2 v) (spl3 v)=some (decide (v=0)):=by
  show some (noneB (spl0 v) (spl1 v) (spl2 v) (spl3 v))=_
  rw [noneB_iff (spl0_U v) (spl1_U v) (spl2_U v) (spl3_U v),val4_spl h0 h1]
theorem of_spl (m:Bool) {v:Int} (h0:0≤v) (h1:v < top4):wide_of.f m (spl0 v) (spl1 v) (spl2 v) (spl3 v)=some (m && !decide (v=0),spl0 v,spl1 v,spl2 v,spl3 v):=by
  unfold wide_of.f
  rw [none_spl h0 h1]
  cases m<;>rfl
theorem Of_nonneg {d:Int} (h0:0≤d) (h1:d≤9223372036854775807):wide_Of.f d=some (false,spl0 d,spl1 d,spl2 d,spl3 d):=by
  obtain ⟨e0,e1,e2,e3⟩:=spl_small h0 (by omega)
  have hw:IntKind.u64.wrap d=spl0 d:=by
    have h:IntKind.u64.wrap d=d % 18446744073709551616:=rfl
    rw [h];rfl
  have h:=of_spl false h0 (by unfold top4;omega)
  rw [e1,e2,e3] at h
  unfold wide_Of.f
  rw [if_neg (by omega),hw,h,e1,e2,e3]
  rfl
end Go.Proofs.YtkgagdjogedoiaaGreat.MT
set_option linter.unusedVariables false
set_option linter.unusedSimpArgs false
namespace Go.Proofs.YtkgagdjogedoiaaGreat
open Go Go.RowKit Go.Proofs.YtkgagdjogedoiaaGreat.MT Go.Proofs.YtkgagdjogedoiaaGreatW.PrintWords Go.Proofs.YtkgagdjogedoiaaGreatW.PrintLast

def sv (m:Bool) (v:Int):Int:=if m then -v else v
theorem cmpC (x y:Int):cmp_Compare_int.f x y=some (sgn (x - y)):=by
 unfold cmp_Compare_int.f cmp_isNaN_int.f sgn
 simp only [bne_self_eq_false,Option.bind_some,Bool.false_eq_true,if_false]
 (repeat' split)<;>first|rfl|omega
theorem sign_spl (m:Bool) {v:Int} (h0:0≤v) (h1:v < top4):wide_Sign.f m (spl0 v) (spl1 v) (spl2 v) (spl3 v)=some (sgn (sv m v)):=by
 unfold wide_Sign.f
 rw [none_spl h0 h1]
 simp only [Option.bind_some]
 unfold sgn sv
 by_cases hv:v=0
 ·rw [if_pos (decide_eq_true hv)];subst hv;cases m<;>rfl
 ·rw [if_neg (by simpa using hv)]
  cases m<;>simp only [Bool.false_eq_true,if_false,if_true]<;>(repeat' split)<;>first|rfl|omega
theorem size_spl {u v:Int} (hu0:0≤u) (hu1:u < top4) (hv0:0≤v) (hv1:v < top4):wide_size.f (spl0 u) (spl1 u) (spl2 u) (spl3 u) (spl0 v) (spl1 v) (spl2 v) (spl3 v)=some (sgn (u - v)):=by
 show wide_size_f _ _ _ _ _ _ _ _=_
 unfold wide_size_f
 rw [if_pos ⟨u4_spl u,u4_spl v⟩,val4_spl hu0 hu1,val4_spl hv0 hv1]
 unfold cmpI sgn
 (repeat' split)<;>first|rfl|omega
theorem sgn_cases (z:Int):sgn z = -1∧z < 0∨sgn z=0∧z=0∨sgn z=1∧0 < z:=by
 unfold sgn
 by_cases h:z < 0
 ·rw [if_pos h];exact .inl ⟨rfl,h⟩
 ·rw [if_neg h]
  by_cases h2:z=0
  ·rw [if_pos h2];exact .inr (.inl ⟨rfl,h2⟩)
  ·rw [if_neg h2];exact .inr (.inr ⟨rfl,by omega⟩)
theorem cmp_spl (m n:Bool) {u v:Int} (hu0:0≤u) (hu1:u < top4) (hv0:0≤v) (hv1:v < top4) :
  Ev (fun k=>wide_Cmp.f k m (spl0 u) (spl1 u) (spl2 u) (spl3 u) n (spl0 v) (spl1 v) (spl2 v) (spl3 v)) (sgn (sv m u - sv n v)):=by
 refine Ev.step (f:=fun _=>some (sgn (sv m u - sv n v))) (g:=fun k=>wide_Cmp.f k m (spl0 u) (spl1 u) (spl2 u) (spl3 u) n (spl0 v) (spl1 v) (spl2 v) (spl3 v)) (fun k=>?_) (Ev.now _)
 unfold wide_Cmp.f
 rw [sign_spl m hu0 hu1,sign_spl n hv0 hv1]
 simp only [Option.bind_some]
 simp only [wide_Cmp.j0]
 rw [size_spl hu0 hu1 hv0 hv1,cmpC]
 simp only [Option.bind_some]
 have a:=sgn_cases (sv m u)
 have b:=sgn_cases (sv n v)
 have c:=sgn_cases (u - v)
 have d:=sgn_cases (sv m u - sv n v)
 by_cases e:sgn (sv m u)=sgn (sv n v)
 ·rw [if_pos e]
  by_cases z:sgn (sv m u)=0
  ·rw [if_pos (by simpa using z)]
   have f:=sgn_cases (sgn (sv m u) - sgn (sv n v))
   congr 1;omega
  ·rw [if_neg (by simpa using z)]
   have hmul:sgn (sv m u) * sgn (u - v)=sgn (sv m u - sv n v):=by
    unfold sv at a b d e z ⊢
    cases m<;>cases n<;>simp only [Bool.false_eq_true,if_false,if_true] at a b d e z ⊢
    ·have:sgn u=1:=by omega
     rw [this];omega
    ·omega
    ·omega
    ·have:sgn (-u) = -1:=by omega
     rw [this];omega
   rw [hmul,w64 (by omega) (by omega)]
 ·rw [if_neg e,if_pos trivial]
  have f:=sgn_cases (sgn (sv m u) - sgn (sv n v))
  congr 1;omega
theorem neg_spl (m:Bool) {v:Int} (h0:0≤v) (h1:v < top4):wide_Neg.f m (spl0 v) (spl1 v) (spl2 v) (spl3 v)=some (!m && !decide (v=0),spl0 v,spl1 v,spl2 v,spl3 v):=by
 unfold wide_Neg.f
 rw [of_spl _ h0 h1]
 rfl
end Go.Proofs.YtkgagdjogedoiaaGreat
set_option linter.unusedVariables false
set_option linter.unusedSimpArgs false
namespace Go.Proofs.YtkgagdjogedoiaaGreat
open Go Go.RowKit Go.Proofs.YtkgagdjogedoiaaGreat.MT Go.Proofs.YtkgagdjogedoiaaGreatW.PrintWords Go.Proofs.YtkgagdjogedoiaaGreatW.PrintLast

theorem u64_id {x:Int} (h0:0≤x) (h1:x < 18446744073709551616):IntKind.u64.wrap x=x:=by
 have h:IntKind.u64.wrap x=x % 18446744073709551616:=rfl
 rw [h];omega
end Go.Proofs.YtkgagdjogedoiaaGreat
set_option linter.unusedVariables false
set_option linter.unusedSimpArgs false
namespace Go.Proofs.YtkgagdjogedoiaaGreat
open Go Go.RowKit Go.Proofs.YtkgagdjogedoiaaGreat.MT Go.Proofs.YtkgagdjogedoiaaGreatW.PrintWords Go.Proofs.YtkgagdjogedoiaaGreatW.PrintLast

def OkS (x:S27):Prop:=U x.f1.f0∧U x.f1.f1∧U x.f1.f2∧U x.f1.f3
abbrev W6:Type:=Bool × Int × Int × Int × Int × Int
def resW:Option Int→W6
  | some z=>(decide (z < 0),spl0 z.natAbs,spl1 z.natAbs,spl2 z.natAbs,spl3 z.natAbs,0)
  | none=>(false,0,0,0,0,10)
def val27 (x:S27):Int:=sv x.f0 (val4 x.f1.f0 x.f1.f1 x.f1.f2 x.f1.f3)
def goOn (op:Int→Int→Int):List Int→Int→Option Int
  | [],z=>some z
  | a :: t,z=>if ((op z a).natAbs:Int) < top4 then goOn op t (op z a) else none
theorem okS {x:S27} (h:OkS x):∃ v,0≤v∧v < top4∧x.f1.f0=spl0 v∧x.f1.f1=spl1 v∧x.f1.f2=spl2 v∧x.f1.f3=spl3 v∧val27 x=sv x.f0 v :=
  ⟨val4 x.f1.f0 x.f1.f1 x.f1.f2 x.f1.f3,(val4_bound h.1 h.2.1 h.2.2.1 h.2.2.2).1,(val4_bound h.1 h.2.1 h.2.2.1 h.2.2.2).2,(spl_val4 h.1 h.2.1 h.2.2.1 h.2.2.2).1,(spl_val4 h.1 h.2.1 h.2.2.1 h.2.2.2).2.1,(spl_val4 h.1 h.2.1 h.2.2.1 h.2.2.2).2.2.1,(spl_val4 h.1 h.2.1 h.2.2.1 h.2.2.2).2.2.2,rfl⟩
theorem less_spl {u v:Int} (hu0:0≤u) (hu1:u < top4) (hv0:0≤v) (hv1:v < top4):wide_less.f (spl0 u) (spl1 u) (spl2 u) (spl3 u) (spl0 v) (spl1 v) (spl2 v) (spl3 v)=some (spl0 ((u - v) % top4),spl1 ((u - v) % top4),spl2 ((u - v) % top4),spl3 ((u - v) % top4)):=by
  show wide_less_f _ _ _ _ _ _ _ _=_
  unfold wide_less_f
  rw [if_pos ⟨u4_spl u,u4_spl v⟩,val4_spl hu0 hu1,val4_spl hv0 hv1]
theorem plus_spl {u v:Int} (hu0:0≤u) (hu1:u < top4) (hv0:0≤v) (hv1:v < top4):wide_plus.f (spl0 u) (spl1 u) (spl2 u) (spl3 u) (spl0 v) (spl1 v) (spl2 v) (spl3 v)=some (spl0 ((u+v) % top4),spl1 ((u+v) % top4),spl2 ((u+v) % top4),spl3 ((u+v) % top4),decide (u+v < top4)):=by
  show wide_plus_f _ _ _ _ _ _ _ _=_
  unfold wide_plus_f
  rw [if_pos ⟨u4_spl u,u4_spl v⟩,val4_spl hu0 hu1,val4_spl hv0 hv1]
theorem add_spl (m n:Bool) {u v:Int} (hu0:0≤u) (hu1:u < top4) (hv0:0≤v) (hv1:v < top4) :
    (((sv m u+sv n v).natAbs:Int) < top4→wide_add.f m (spl0 u) (spl1 u) (spl2 u) (spl3 u) n (spl0 v) (spl1 v) (spl2 v) (spl3 v)=some (decide (sv m u+sv n v < 0),spl0 (sv m u+sv n v).natAbs,spl1 (sv m u+sv n v).natAbs,spl2 (sv m u+sv n v).natAbs,spl3 (sv m u+sv n v).natAbs,true)) ∧
    (¬ ((sv m u+sv n v).natAbs:Int) < top4→∃ r1 r2 r3 r4 r5,wide_add.f m (spl0 u) (spl1 u) (spl2 u) (spl3 u) n (spl0 v) (spl1 v) (spl2 v) (spl3 v)=some (r1,r2,r3,r4,r5,false)):=by
  unfold wide_add.f
  by_cases e:m=n
  · subst e
    rw [if_pos (by simp),plus_spl hu0 hu1 hv0 hv1]
    simp only [Option.bind_some]
    have hm:=top_mod (u+v)
    rw [of_spl m hm.1 hm.2]
    simp only [Option.bind_some]
    have ea:((sv m u+sv m v).natAbs:Int)=u+v:=by unfold sv;cases m<;>simp<;>omega
    rw [ea]
    constructor
    · intro h
      have e2:decide (sv m u+sv m v < 0)=(m && !decide (u+v=0)):=by
        unfold sv
        by_cases h0:u+v=0
        · rw [decide_eq_true h0];cases m<;>simp<;>omega
        · rw [decide_eq_false h0];cases m<;>simp<;>omega
      rw [Int.emod_eq_of_lt (by omega) h,decide_eq_true h,e2]
    · intro h
      exact ⟨_,_,_,_,_,by rw [decide_eq_false h]⟩
  · rw [if_neg (by simpa using e),size_spl hu0 hu1 hv0 hv1]
    simp only [Option.bind_some]
    have hs:=sgn_cases (u - v)
    have ea:((sv m u+sv n v).natAbs:Int) < top4:=by unfold sv;cases m<;>cases n<;>simp at e ⊢<;>omega
    refine ⟨fun _=>?_,fun h=>absurd ea h⟩
    by_cases h:u < v
    · rw [if_pos (by omega),less_spl hv0 hv1 hu0 hu1]
      simp only [Option.bind_some]
      have hm:(v - u) % top4=v - u:=Int.emod_eq_of_lt (by omega) (by omega)
      have ez:((sv m u+sv n v).natAbs:Int)=v - u:=by unfold sv;cases m<;>cases n<;>simp at e ⊢<;>omega
      have e2:decide (sv m u+sv n v < 0)=(n && !decide (v - u=0)):=by
        rw [decide_eq_false (show ¬ v - u=0 by omega)]
        unfold sv;cases m<;>cases n<;>simp at e ⊢<;>omega
      rw [hm,of_spl n (by omega) (by omega),ez,e2]
      rfl
    · rw [if_neg (by omega),less_spl hu0 hu1 hv0 hv1]
      simp only [Option.bind_some]
      have hm:(u - v) % top4=u - v:=Int.emod_eq_of_lt (by omega) (by omega)
      have ez:((sv m u+sv n v).natAbs:Int)=u - v:=by unfold sv;cases m<;>cases n<;>simp at e ⊢<;>omega
      have e2:decide (sv m u+sv n v < 0)=(m && !decide (u - v=0)):=by
        by_cases h0:u - v=0
        · rw [decide_eq_true h0];unfold sv;cases m<;>cases n<;>simp at e ⊢<;>omega
        · rw [decide_eq_false h0];unfold sv;cases m<;>cases n<;>simp at e ⊢<;>omega
      rw [hm,of_spl m (by omega) (by omega),ez,e2]
      rfl
theorem sv_self (z:Int):sv (decide (z < 0)) z.natAbs=z:=by
  unfold sv
  by_cases h:z < 0
  · rw [decide_eq_true h];simp;omega
  · rw [decide_eq_false h];simp;omega
theorem rd_drop (l:List S27) (n:Nat) (h:n < l.length):l.drop n=rd_T27 l (n:Int) :: l.drop (n+1):=by
  rw [List.drop_eq_getElem_cons h]
  simp [rd_T27,h]
theorem rd_mem (l:List S27) (n:Nat) (h:n < l.length):rd_T27 l (n:Int)∈l:=by
  simp [rd_T27,h]
theorem wadd_loop (l:List S27) (hl:l.length≤1000) (hok:∀ x∈l,OkS x):∀ (d n:Nat),d=l.length - n→n≤l.length→∀ z:Int,(z.natAbs:Int) < top4 →
    Ev (fun k=>wide_Add.l0 k l (l.length:Int) (n:Int) (decide (z < 0)) (spl0 z.natAbs) (spl1 z.natAbs) (spl2 z.natAbs) (spl3 z.natAbs)) (resW (goOn (·+·) ((l.drop n).map val27) z)):=by
  intro d
  induction d with
  | zero =>
    intro n hd hn z hz
    have e:n=l.length:=by omega
    subst e
    refine Ev.step (f:=fun _=>some (resW (some z))) (fun k=>?_) ?_
    · simp only [wide_Add.l0]
      rw [if_neg (by omega)]
      rfl
    · rw [List.drop_length];exact Ev.now _
  | succ d ih =>
    intro n hd hn z hz
    have hlt:n < l.length:=by omega
    obtain ⟨v,v0,v1,x0,x1,x2,x3,hv⟩:=okS (hok _ (rd_mem l n hlt))
    rw [rd_drop l n hlt,List.map_cons]
    obtain ⟨m1,m2⟩:=add_spl (decide (z < 0)) (rd_T27 l (n:Int)).f0 (show (0:Int)≤z.natAbs by omega) hz v0 v1
    rw [sv_self] at m1 m2
    unfold goOn
    rw [hv]
    by_cases hf:((z+sv (rd_T27 l (n:Int)).f0 v).natAbs:Int) < top4
    · rw [if_pos hf]
      refine Ev.step (f:=fun k=>wide_Add.l0 k l (l.length:Int) ((n+1:Nat):Int) (decide (z+sv (rd_T27 l (n:Int)).f0 v < 0)) (spl0 (z+sv (rd_T27 l (n:Int)).f0 v).natAbs) (spl1 (z+sv (rd_T27 l (n:Int)).f0 v).natAbs) (spl2 (z+sv (rd_T27 l (n:Int)).f0 v).natAbs) (spl3 (z+sv (rd_T27 l (n:Int)).f0 v).natAbs)) (fun k=>?_) (ih (n+1) (by omega) hlt _ hf)
      simp only [wide_Add.l0]
      rw [if_pos (by omega),if_pos (by omega),if_pos (by omega),x0,x1,x2,x3,m1 hf]
      simp only [Option.bind_some,if_true]
      rw [w64 (x:=(n:Int)+1) (by omega) (by omega)]
      rfl
    · rw [if_neg hf]
      obtain ⟨r1,r2,r3,r4,r5,hr⟩:=m2 hf
      refine Ev.step (f:=fun _=>some (resW none)) (fun k=>?_) (Ev.now _)
      simp only [wide_Add.l0]
      rw [if_pos (by omega),if_pos (by omega),if_pos (by omega),x0,x1,x2,x3,hr]
      rfl
end Go.Proofs.YtkgagdjogedoiaaGreat
set_option linter.unusedVariables false
set_option linter.unusedSimpArgs false
namespace Go.Proofs.YtkgagdjogedoiaaGreat
open Go Go.RowKit Go.Proofs.YtkgagdjogedoiaaGreat.MT Go.Proofs.YtkgagdjogedoiaaGreatW.PrintWords Go.Proofs.YtkgagdjogedoiaaGreatW.PrintLast
theorem add_ev (l:List S27) (hl:l.length≤1000) (hok:∀ x∈l,OkS x):Ev (fun k=>wide_Add.f k l) (resW (goOn (·+·) (l.map val27) 0)) :=
  Ev.congr (fun k=>rfl) (wadd_loop l hl hok l.length 0 (by omega) (by omega) 0 (by decide))
def mk27 (m:Bool) (v:Int):S27:=⟨m,⟨spl0 v,spl1 v,spl2 v,spl3 v⟩⟩
theorem ok27 (m:Bool) (v:Int):OkS (mk27 m v):=⟨spl0_U v,spl1_U v,spl2_U v,spl3_U v⟩
theorem val_mk27 (m:Bool) {v:Int} (h0:0≤v) (h1:v < top4):val27 (mk27 m v)=sv m v:=by
  unfold val27 mk27
  rw [val4_spl h0 h1]
end Go.Proofs.YtkgagdjogedoiaaGreat
set_option linter.unusedVariables false
set_option linter.unusedSimpArgs false
namespace Go.Proofs.YtkgagdjogedoiaaGreat
open Go Go.RowKit Go.Proofs.YtkgagdjogedoiaaGreat.MT Go.Proofs.YtkgagdjogedoiaaGreatW.PrintWords Go.Proofs.YtkgagdjogedoiaaGreatW.PrintLast
theorem mul_spl (m n:Bool) {u v:Int} (hu0:0≤u) (hu1:u < top4) (hv0:0≤v) (hv1:v < top4) :
    wide_mul.f m (spl0 u) (spl1 u) (spl2 u) (spl3 u) n (spl0 v) (spl1 v) (spl2 v) (spl3 v)=some ((!(m==n)) && !decide ((u * v) % top4=0),spl0 ((u * v) % top4),spl1 ((u * v) % top4),spl2 ((u * v) % top4),spl3 ((u * v) % top4),decide (u * v < top4)):=by
  show wide_mul_f _ _ _ _ _ _ _ _ _ _=_
  unfold wide_mul_f
  rw [if_pos ⟨u4_spl u,u4_spl v⟩,val4_spl hu0 hu1,val4_spl hv0 hv1]
theorem sv_mul (z:Int) (n:Bool) {v:Int} (hv0:0≤v):((z * sv n v).natAbs:Int)=z.natAbs * v∧decide (z * sv n v < 0)=((!(decide (z < 0)==n)) && !decide ((z.natAbs:Int) * v=0)):=by
  obtain ⟨t,ht⟩:∃ t:Int,t=z.natAbs * v:=⟨_,rfl⟩
  have ht0:0≤t:=by rw [ht];exact Int.mul_nonneg (by omega) hv0
  have key:z * sv n v=if (decide (z < 0)==n)=true then t else -t:=by
    by_cases hz:z < 0
    · have e:(z.natAbs:Int) = -z:=by omega
      rw [ht,e,decide_eq_true hz]
      cases n<;>simp [sv,Int.neg_mul,Int.mul_neg]
    · have e:(z.natAbs:Int)=z:=by omega
      rw [ht,e,decide_eq_false hz]
      cases n<;>simp [sv,Int.neg_mul,Int.mul_neg]
  rw [← ht,key]
  cases h:(decide (z < 0)==n)
  · simp only [Bool.false_eq_true,if_false]
    refine ⟨by omega,?_⟩
    by_cases h0:t=0
    · subst h0;rfl
    · rw [decide_eq_true (by omega),decide_eq_false h0];rfl
  · simp only [if_true]
    refine ⟨by omega,?_⟩
    rw [decide_eq_false (by omega)];rfl
theorem mul_step (z:Int) (n:Bool) {v:Int} (hz:(z.natAbs:Int) < top4) (hv0:0≤v) (hv1:v < top4) :
    (((z * sv n v).natAbs:Int) < top4→wide_mul.f (decide (z < 0)) (spl0 z.natAbs) (spl1 z.natAbs) (spl2 z.natAbs) (spl3 z.natAbs) n (spl0 v) (spl1 v) (spl2 v) (spl3 v)=some (decide (z * sv n v < 0),spl0 (z * sv n v).natAbs,spl1 (z * sv n v).natAbs,spl2 (z * sv n v).natAbs,spl3 (z * sv n v).natAbs,true)) ∧
    (¬ ((z * sv n v).natAbs:Int) < top4→∃ r1 r2 r3 r4 r5,wide_mul.f (decide (z < 0)) (spl0 z.natAbs) (spl1 z.natAbs) (spl2 z.natAbs) (spl3 z.natAbs) n (spl0 v) (spl1 v) (spl2 v) (spl3 v)=some (r1,r2,r3,r4,r5,false)):=by
  obtain ⟨e1,e2⟩:=sv_mul z n hv0
  have hp:=Int.mul_nonneg (show (0:Int)≤z.natAbs by omega) hv0
  rw [mul_spl _ n (show (0:Int)≤z.natAbs by omega) hz hv0 hv1,e1]
  constructor
  · intro h
    rw [Int.emod_eq_of_lt hp h,e2,decide_eq_true h]
  · intro h
    exact ⟨_,_,_,_,_,by rw [decide_eq_false h]⟩
theorem wmul_loop (l:List S27) (hl:l.length≤1000) (hok:∀ x∈l,OkS x):∀ (d n:Nat),d=l.length - n→n≤l.length→∀ z:Int,(n=0→z=1)→(z.natAbs:Int) < top4 →
    Ev (fun k=>wide_Mul.l0 k l (l.length:Int) (n:Int) (decide (z < 0)) (spl0 z.natAbs) (spl1 z.natAbs) (spl2 z.natAbs) (spl3 z.natAbs)) (resW (goOn (· * ·) ((l.drop n).map val27) z)):=by
  intro d
  induction d with
  | zero =>
    intro n hd hn z h0 hz
    have e:n=l.length:=by omega
    subst e
    refine Ev.step (f:=fun _=>some (resW (some z))) (fun k=>?_) ?_
    · simp only [wide_Mul.l0]
      rw [if_neg (by omega)]
      rfl
    · rw [List.drop_length];exact Ev.now _
  | succ d ih =>
    intro n hd hn z h0 hz
    have hlt:n < l.length:=by omega
    obtain ⟨v,v0,v1,x0,x1,x2,x3,hv⟩:=okS (hok _ (rd_mem l n hlt))
    rw [rd_drop l n hlt,List.map_cons]
    obtain ⟨m1,m2⟩:=mul_step z (rd_T27 l (n:Int)).f0 hz v0 v1
    unfold goOn
    rw [hv]
    by_cases hf:((z * sv (rd_T27 l (n:Int)).f0 v).natAbs:Int) < top4
    · rw [if_pos hf]
      refine Ev.step (f:=fun k=>wide_Mul.l0 k l (l.length:Int) ((n+1:Nat):Int) (decide (z * sv (rd_T27 l (n:Int)).f0 v < 0)) (spl0 (z * sv (rd_T27 l (n:Int)).f0 v).natAbs) (spl1 (z * sv (rd_T27 l (n:Int)).f0 v).natAbs) (spl2 (z * sv (rd_T27 l (n:Int)).f0 v).natAbs) (spl3 (z * sv (rd_T27 l (n:Int)).f0 v).natAbs)) (fun k=>?_) (ih (n+1) (by omega) hlt _ (fun h=>by omega) hf)
      simp only [wide_Mul.l0]
      rw [if_pos (by omega),if_pos (by omega),if_pos (by omega),x0,x1,x2,x3,m1 hf]
      simp only [Option.bind_some,if_true]
      rw [w64 (x:=(n:Int)+1) (by omega) (by omega)]
      by_cases hn0:n=0
      · rw [if_pos (by omega),of_spl _ v0 v1]
        simp only [Option.bind_some]
        have hz1:=h0 hn0
        have e1:z * sv (rd_T27 l (n:Int)).f0 v=sv (rd_T27 l (n:Int)).f0 v:=by rw [hz1,Int.one_mul]
        rw [e1]
        have e2:((sv (rd_T27 l (n:Int)).f0 v).natAbs:Int)=v:=by unfold sv;split<;>omega
        have e3:decide (sv (rd_T27 l (n:Int)).f0 v < 0)=((rd_T27 l (n:Int)).f0 && !decide (v=0)):=by
          unfold sv
          cases (rd_T27 l (n:Int)).f0
          · simp;omega
          · by_cases hv0:v=0
            · simp [hv0]
            · simp [hv0];omega
        rw [e2,e3]
        rfl
      · rw [if_neg (by omega)]
        rfl
    · rw [if_neg hf]
      obtain ⟨r1,r2,r3,r4,r5,hr⟩:=m2 hf
      refine Ev.step (f:=fun _=>some (resW none)) (fun k=>?_) (Ev.now _)
      simp only [wide_Mul.l0]
      rw [if_pos (by omega),if_pos (by omega),if_pos (by omega),x0,x1,x2,x3,hr]
      simp only [Option.bind_some,Bool.false_eq_true,if_false]
      by_cases hn0:n=0
      · rw [if_pos (by omega),of_spl _ v0 v1]
        rfl
      · rw [if_neg (by omega)]
        rfl
theorem mul_ev (l:List S27) (hl:l.length≤1000) (hok:∀ x∈l,OkS x):Ev (fun k=>wide_Mul.f k l) (resW (goOn (· * ·) (l.map val27) 1)):=by
  have h:=wmul_loop l hl hok l.length 0 (by omega) (by omega) 1 (fun _=>rfl) (by decide)
  refine Ev.congr (fun k=>?_) h
  unfold wide_Mul.f
  rw [Of_nonneg (by decide) (by decide)]
  rfl
end Go.Proofs.YtkgagdjogedoiaaGreat
set_option linter.unusedVariables false
set_option linter.unusedSimpArgs false
namespace Go.Proofs.YtkgagdjogedoiaaGreat
open Go Go.RowKit Go.Proofs.YtkgagdjogedoiaaGreat.MT Go.Proofs.YtkgagdjogedoiaaGreatW.PrintWords Go.Proofs.YtkgagdjogedoiaaGreatW.PrintLast
theorem or3 {a b c:Nat} (ha:Lm a) (hb:Lm b) (hc:Lm c):Go.bits .or .u64 (Go.bits .or .u64 (a:Int) (b:Int)) (c:Int)=0↔a=0∧b=0∧c=0:=by
 have k:∀ {x y:Nat},Lm x→Lm y→Go.bits .or .u64 (x:Int) (y:Int)=((x ||| y:Nat):Int)∧Lm (x ||| y):=by
  intro x y hx hy
  refine ⟨(bits_nat .u64 64 (by decide) u64_small x y hx hy).2,?_⟩
  exact Nat.or_lt_two_pow (n:=64) hx hy
 rw [(k ha hb).1,(k (k ha hb).2 hc).1]
 constructor
 ·intro h0
  have h1:a ||| b ||| c=0:=by omega
  rw [Nat.or_eq_zero_iff,Nat.or_eq_zero_iff] at h1
  omega
 ·rintro ⟨h0,h1,h2⟩
  obtain rfl:a=0:=by omega
  obtain rfl:b=0:=by omega
  obtain rfl:c=0:=by omega
  rfl
theorem or3_int {a b c:Int} (ha:U a) (hb:U b) (hc:U c):Go.bits .or .u64 (Go.bits .or .u64 a b) c=0↔a=0∧b=0∧c=0:=by
 obtain ⟨x,rfl⟩:=Int.eq_ofNat_of_zero_le ha.1
 obtain ⟨y,rfl⟩:=Int.eq_ofNat_of_zero_le hb.1
 obtain ⟨z,rfl⟩:=Int.eq_ofNat_of_zero_le hc.1
 have h:=or3 (a:=x) (b:=y) (c:=z) (by have:=ha.2;unfold Lm;omega) (by have:=hb.2;unfold Lm;omega) (by have:=hc.2;unfold Lm;omega)
 exact h.trans (by omega)
theorem Of_int {d:Int} (h0 : -9223372036854775808≤d) (h1:d≤9223372036854775807):wide_Of.f d=some (decide (d < 0),spl0 d.natAbs,spl1 d.natAbs,spl2 d.natAbs,spl3 d.natAbs):=by
 by_cases hd:d < 0
 ·obtain ⟨e0,e1,e2,e3⟩:=spl_small (d:=(d.natAbs:Int)) (by omega) (by omega)
  have hw:IntKind.u64.wrap (-(IntKind.u64.wrap d))=spl0 d.natAbs:=by
   have h:IntKind.u64.wrap (-(IntKind.u64.wrap d))=(-(d % 18446744073709551616)) % 18446744073709551616:=rfl
   rw [h,e0]
   omega
  have h:=of_spl true (v:=(d.natAbs:Int)) (by omega) (by unfold top4;omega)
  rw [e1,e2,e3] at h
  unfold wide_Of.f
  rw [if_pos hd,hw,h,e1,e2,e3,decide_eq_true hd,decide_eq_false (by omega)]
  rfl
 ·rw [Of_nonneg (by omega) h1,decide_eq_false hd,show ((d.natAbs:Nat):Int)=d by omega]
end Go.Proofs.YtkgagdjogedoiaaGreat
set_option linter.unusedVariables false
set_option linter.unusedSimpArgs false
namespace Go.Proofs.YtkgagdjogedoiaaGreat.MT
open Go Go.RowKit Go.Proofs.YtkgagdjogedoiaaGreatW.PrintWords Go.Proofs.YtkgagdjogedoiaaGreatW.PrintLast
end Go.Proofs.YtkgagdjogedoiaaGreat.MT
set_option linter.unusedVariables false
set_option linter.unusedSimpArgs false
namespace Go.Proofs.YtkgagdjogedoiaaGreat
open Go Go.RowKit Go.Proofs.YtkgagdjogedoiaaGreat.MT Go.Proofs.YtkgagdjogedoiaaGreatW.PrintWords Go.Proofs.YtkgagdjogedoiaaGreatW.PrintLast
end Go.Proofs.YtkgagdjogedoiaaGreat

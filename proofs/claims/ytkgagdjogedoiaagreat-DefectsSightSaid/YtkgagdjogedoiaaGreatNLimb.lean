/- Limbs: the walks of the wide package's inner functions, and what they say of whole numbers. -/
import Derived.ChangeKeysEq
import Derived.Lib.Hide
import Derived.WalkSpells
import Derived.WalkLawsBesides
import Derived.Laws.BitsAllLaws
import Derived.Laws.BitsLemmas
import Derived.RowKit
import Derived.Laws.Externs
import Derived.RegionTactic
import Derived.BigRegion
import Derived.ChangeAlike
import Derived.Outline
import Derived.Deep.RegionWith
import Derived.Deep.QuietTactic
import Derived.BigQuiet
import Derived.Shelf.Bits.Mul64
import Derived.Deep.RegionHeld3
import Derived.Test.YtkgagdjogedoiaaGreatV
import Derived.Test.YtkgagdjogedoiaaGreatProg
set_option linter.unusedVariables false
set_option linter.unusedSimpArgs false
namespace Go.Proofs.YtkgagdjogedoiaaGreat
open Go Go.Proofs Go.RowKit Go.Proofs.YtkgagdjogedoiaaGreatW.PrintWords
theorem eqA94 (d:Nat) (w:World) (x0 y0 x1 y1 x2 y2 x3 y3:Int) :
  (Op.equalIn (d+2) 94 (.agg #[.int .u64 x0,.int .u64 x1,.int .u64 x2,.int .u64 x3]) (.agg #[.int .u64 y0,.int .u64 y1,.int .u64 y2,.int .u64 y3])).run Tryz.prog w = .ok (x0==y0 && (x1==y1 && (x2==y2 && (x3==y3)))) w:=by
 obtain ⟨i,hi⟩:=Option.isSome_iff_exists.1 (show (Tryz.prog.info? 93).isSome=true from by kernel_rfl)
 rw [run_equalIn_array (P:=Tryz.prog) w (d+1) _ _ Tryz.underlying94 hi,show Tryz.prog.cellsOf 93=1 from by kernel_rfl,show List.range 4=[0,1,2,3] from rfl]
 simp only [Op.eqItems,Sem.run_bind]
 go_simp
 by_cases h0:x0=y0<;>by_cases h1:x1=y1<;>by_cases h2:x2=y2<;>by_cases h3:x3=y3<;>simp [h0,h1,h2,h3]
end Go.Proofs.YtkgagdjogedoiaaGreat

set_option linter.unusedVariables false
set_option linter.unusedSimpArgs false
namespace Go.Proofs.YtkgagdjogedoiaaGreat
open Go

def U (x:Int):Prop:=0≤x∧x < 18446744073709551616
def val4 (a b c d:Int):Int:=a+18446744073709551616 * (b+18446744073709551616 * (c+18446744073709551616 * d))
def top4:Int:=115792089237316195423570985008687907853269984665640564039457584007913129639936
theorem val4_bound {a b c d:Int} (ha:U a) (hb:U b) (hc:U c) (hd:U d):0≤val4 a b c d∧val4 a b c d < top4:=by
 unfold U at *
 unfold val4 top4
 omega
theorem val4_inj {a b c d a' b' c' d':Int} (ha:U a) (hb:U b) (hc:U c) (hd:U d) (ha':U a') (hb':U b') (hc':U c') (hd':U d') (h:val4 a b c d=val4 a' b' c' d'):a=a'∧b=b'∧c=c'∧d=d':=by
 unfold U at *
 unfold val4 at h
 omega
theorem val4_eq_zero {a b c d:Int} (ha:U a) (hb:U b) (hc:U c) (hd:U d):val4 a b c d=0↔a=0∧b=0∧c=0∧d=0:=by
 unfold U at *
 unfold val4
 omega
theorem u64_wrap (n:Int):IntKind.u64.wrap n=n % 18446744073709551616:=by simp [IntKind.wrap,IntKind.bits,IntKind.signed]
theorem u64_small (n:Int) (h0:0≤n) (h:n < 2 ^ 64):IntKind.u64.wrap n=n:=by rw [u64_wrap];omega
end Go.Proofs.YtkgagdjogedoiaaGreat

set_option linter.unusedVariables false
set_option linter.unusedSimpArgs false
namespace Go.Proofs.YtkgagdjogedoiaaGreat
def V64:List Nat→Nat
 | []=>0
 | d :: t=>d+18446744073709551616 * V64 t
theorem V64_set (o:List Nat) (j v:Nat) (h:j < o.length):V64 (o.set j v)+18446744073709551616 ^ j * o.getD j 0=V64 o+18446744073709551616 ^ j * v:=by
 induction o generalizing j with
 | nil=>simp at h
 | cons d t ih =>
  cases j with
  | zero=>simp [V64];omega
  | succ j =>
   have:=ih j (by simpa using h)
   simp only [List.set_cons_succ,V64,List.getD_cons_succ,Nat.pow_succ]
   grind
theorem V64_take (l:List Nat) (k:Nat) (h:k < l.length):V64 (l.take (k+1))=V64 (l.take k)+18446744073709551616 ^ k * l.getD k 0:=by
 induction l generalizing k with
 | nil=>simp at h
 | cons d t ih =>
  cases k with
  | zero=>simp [V64]
  | succ k =>
   have:=ih k (by simpa using h)
   simp only [List.take_succ_cons,V64,List.getD_cons_succ,Nat.pow_succ]
   grind
theorem inner_step {V0 V1 V2 P Q c c' ov o2 x y Y Y':Nat} (hV:V1+P * Q * c=V0+P * (x * Y)) (hs:V2+P * Q * ov=V1+P * Q * o2) (he:o2+18446744073709551616 * c'=ov+c+x * y) (hY:Y'=Y+Q * y) :
  V2+P * Q * 18446744073709551616 * c'=V0+P * (x * Y'):=by
 grind
theorem limb_step {x y c ov hi lo s1 c1 h2 o2 c2 c':Nat} (hx:x < 18446744073709551616) (hy:y < 18446744073709551616) (hc:c < 18446744073709551616) (ho:ov < 18446744073709551616)
  (e1:hi=x * y / 18446744073709551616) (e2:lo=x * y % 18446744073709551616) (e3:s1=(lo+c+0) % 18446744073709551616) (e4:c1=(lo+c+0) / 18446744073709551616) (e5:(h2:Int)=((hi:Int)+c1) % 18446744073709551616)
  (e6:o2=(ov+s1+0) % 18446744073709551616) (e7:c2=(ov+s1+0) / 18446744073709551616) (e8:(c':Int)=((h2:Int)+c2) % 18446744073709551616):o2+18446744073709551616 * c'=ov+c+x * y:=by
 have hp:x * y≤18446744073709551615 * 18446744073709551615:=Nat.mul_le_mul (by omega) (by omega)
 generalize x * y=p at *
 omega
end Go.Proofs.YtkgagdjogedoiaaGreat

set_option linter.unusedVariables false
set_option linter.unusedSimpArgs false
namespace Go.Proofs.YtkgagdjogedoiaaGreat
open Go Go.Proofs Go.RowKit Go.Proofs.YtkgagdjogedoiaaGreatW.PrintWords

def addS (x y c:Nat):Nat:=(x+y+c) % 18446744073709551616
def addC (x y c:Nat):Nat:=(x+y+c) / 18446744073709551616
def subS (x y c:Nat):Nat:=(x+18446744073709551616 - y - c) % 18446744073709551616
def subC (x y c:Nat):Nat:=if x < y+c then 1 else 0
def Lm (x:Nat):Prop:=x < 18446744073709551616
theorem addS_lt (x y c:Nat):Lm (addS x y c):=Nat.mod_lt _ (by decide)
theorem subS_lt (x y c:Nat):Lm (subS x y c):=Nat.mod_lt _ (by decide)
theorem addC_le {x y c:Nat} (hx:Lm x) (hy:Lm y) (hc:c≤1):addC x y c≤1:=by unfold addC;unfold Lm at hx hy;omega
theorem subC_le (x y c:Nat):subC x y c≤1:=by unfold subC;split<;>omega
theorem add_run {x y c:Nat} (hx:Lm x) (hy:Lm y) (hc:c≤1) (w:World) :
  (callFunc 146 #[.int .u64 x,.int .u64 y,.int .u64 c]).run Tryz.prog w = .ok (.value (.tuple #[.int .u64 (addS x y c:Nat),.int .u64 (addC x y c:Nat)])) w:=by
 rw [run_callFunc_extern Tryz.func146 (by kernel_rfl) (by kernel_rfl) (by kernel_rfl) (e:=add64Entry) (by kernel_rfl),run_add64 x y c (by omega) (by omega) (by omega) (by omega)]
 simp only [Result.andThen,addS,addC]
 congr 5<;>omega
def sub64E:Array Value→Sem Value:=fun args=>do
 let (x,y,b) ← Extern.MathBitsCarry.three "Sub64" args
 pure (Extern.MathBitsCarry.pair ((x+Extern.MathBitsCarry.m64 - y - b) % Extern.MathBitsCarry.m64) (if x < y+b then 1 else 0))
theorem run_sub64E (x y b:Nat) (hb:b≤1) (w:World):(sub64E #[.int .u64 x,.int .u64 y,.int .u64 b]).run Tryz.prog w = .ok (.tuple #[.int .u64 (subS x y b:Nat),.int .u64 (subC x y b:Nat)]) w:=by
 have:b=0∨b=1:=by omega
 rcases this with rfl|rfl<;>rfl
theorem sub_run {x y c:Nat} (hc:c≤1) (w:World) :
  (callFunc 155 #[.int .u64 x,.int .u64 y,.int .u64 c]).run Tryz.prog w = .ok (.value (.tuple #[.int .u64 (subS x y c:Nat),.int .u64 (subC x y c:Nat)])) w:=by
 rw [run_callFunc_extern Tryz.func155 (by kernel_rfl) (by kernel_rfl) (by kernel_rfl) (e:=sub64E) (by kernel_rfl),run_sub64E x y c hc]
 rfl

set_option maxHeartbeats 2000000 in
set_option maxRecDepth 100000 in
theorem plus_walk (x0 x1 x2 x3 y0 y1 y2 y3 s0 s1 s2 s3 c0 c1 c2 c3:Nat) (w:World)
  (h0:∀ w,(callFunc 146 #[.int .u64 x0,.int .u64 y0,.int .u64 0]).run Tryz.prog w = .ok (.value (.tuple #[.int .u64 s0,.int .u64 c0])) w)
  (h1:∀ w,(callFunc 146 #[.int .u64 x1,.int .u64 y1,.int .u64 c0]).run Tryz.prog w = .ok (.value (.tuple #[.int .u64 s1,.int .u64 c1])) w)
  (h2:∀ w,(callFunc 146 #[.int .u64 x2,.int .u64 y2,.int .u64 c1]).run Tryz.prog w = .ok (.value (.tuple #[.int .u64 s2,.int .u64 c2])) w)
  (h3:∀ w,(callFunc 146 #[.int .u64 x3,.int .u64 y3,.int .u64 c2]).run Tryz.prog w = .ok (.value (.tuple #[.int .u64 s3,.int .u64 c3])) w) :
  Calls Tryz.prog 147 #[.agg #[.int .u64 x0,.int .u64 x1,.int .u64 x2,.int .u64 x3],.agg #[.int .u64 y0,.int .u64 y1,.int .u64 y2,.int .u64 y3]] w fun e w' =>
   e = .returned (.tuple #[.agg #[.int .u64 s0,.int .u64 s1,.int .u64 s2,.int .u64 s3],.bool ((c3:Int)==0)])∧Below w.heap.size w w':=by
 go_enter Tryz.func147,Tryz.ntmps147
 go_wp2
 refine wp_loop_rounds 5 ?_
 iterate 4
  rw [rounds_succ]
  go_wp2
  go_region
  go_wp2
 rw [rounds_succ]
 go_wp2
 refine bodyPost_ret (v := .tuple #[.agg #[.int .u64 s0,.int .u64 s1,.int .u64 s2,.int .u64 s3],.bool ((c3:Int)==0)]) (by simp [results,Tryz.results147,go_sem]) rfl ⟨rfl,?_⟩
 exact below_drew (below_drew (below_drew (below_drew (below_alloc (below_alloc (below_alloc (Below.refl _ _) _) _) _))))
set_option maxHeartbeats 2000000 in
set_option maxRecDepth 100000 in
theorem less_walk (x0 x1 x2 x3 y0 y1 y2 y3 s0 s1 s2 s3 c0 c1 c2 c3:Nat) (w:World)
  (h0:∀ w,(callFunc 155 #[.int .u64 x0,.int .u64 y0,.int .u64 0]).run Tryz.prog w = .ok (.value (.tuple #[.int .u64 s0,.int .u64 c0])) w)
  (h1:∀ w,(callFunc 155 #[.int .u64 x1,.int .u64 y1,.int .u64 c0]).run Tryz.prog w = .ok (.value (.tuple #[.int .u64 s1,.int .u64 c1])) w)
  (h2:∀ w,(callFunc 155 #[.int .u64 x2,.int .u64 y2,.int .u64 c1]).run Tryz.prog w = .ok (.value (.tuple #[.int .u64 s2,.int .u64 c2])) w)
  (h3:∀ w,(callFunc 155 #[.int .u64 x3,.int .u64 y3,.int .u64 c2]).run Tryz.prog w = .ok (.value (.tuple #[.int .u64 s3,.int .u64 c3])) w) :
  Calls Tryz.prog 148 #[.agg #[.int .u64 x0,.int .u64 x1,.int .u64 x2,.int .u64 x3],.agg #[.int .u64 y0,.int .u64 y1,.int .u64 y2,.int .u64 y3]] w fun e w' =>
   e = .returned (.agg #[.int .u64 s0,.int .u64 s1,.int .u64 s2,.int .u64 s3])∧Below w.heap.size w w':=by
 go_enter Tryz.func148,Tryz.ntmps148
 go_wp2
 refine wp_loop_rounds 5 ?_
 iterate 4
  rw [rounds_succ]
  go_wp2
  go_region
  go_wp2
 rw [rounds_succ]
 go_wp2
 refine bodyPost_ret (v := .agg #[.int .u64 s0,.int .u64 s1,.int .u64 s2,.int .u64 s3]) (by simp [results,Tryz.results148,go_sem]) rfl ⟨rfl,?_⟩
 exact below_drew (below_drew (below_drew (below_drew (below_alloc (below_alloc (below_alloc (Below.refl _ _) _) _) _))))

theorem isNaN_u64 (x:Int) (w:World):Calls Tryz.prog 145 #[.int .u64 x] w fun e w'=>e = .returned (.bool false)∧w=w':=by
 go_enter Tryz.func145,Tryz.ntmps145
 go_wp2
 go_ret
 exact ⟨rfl,rfl⟩
def cmpI (x y:Int):Int:=if x < y then -1 else if y < x then 1 else 0
set_option maxHeartbeats 2000000 in
theorem compare_u64 (x y:Int) (w:World):Calls Tryz.prog 125 #[.int .u64 x,.int .u64 y] w fun e w'=>e = .returned (.int .i64 (cmpI x y))∧w=w':=by
 by_cases h:x < y
 ·have h1:decide (x < y)=true:=decide_eq_true h
  have h2:Hid (cmpI x y = -1):=Lib.hid (by unfold cmpI;rw [if_pos h])
  clear h
  go_enter Tryz.func125,Tryz.ntmps125
  go_wp2_with (go_at_call 145;refine (isNaN_u64 _ _).mono ?_;rintro e w' ⟨rfl,rfl⟩)
  go_ret
  exact ⟨by rw [h2.out];rfl,rfl⟩
 ·have h1:decide (x < y)=false:=decide_eq_false h
  by_cases h':y < x
  ·have h3:decide (y < x)=true:=decide_eq_true h'
   have h2:Hid (cmpI x y=1):=Lib.hid (by unfold cmpI;rw [if_neg h,if_pos h'])
   clear h h'
   go_enter Tryz.func125,Tryz.ntmps125
   go_wp2_with (go_at_call 145;refine (isNaN_u64 _ _).mono ?_;rintro e w' ⟨rfl,rfl⟩)
   go_ret
   exact ⟨by rw [h2.out];rfl,rfl⟩
  ·have h3:decide (y < x)=false:=decide_eq_false h'
   have h2:Hid (cmpI x y=0):=Lib.hid (by unfold cmpI;rw [if_neg h,if_neg h'])
   clear h h'
   go_enter Tryz.func125,Tryz.ntmps125
   go_wp2_with (go_at_call 145;refine (isNaN_u64 _ _).mono ?_;rintro e w' ⟨rfl,rfl⟩)
   go_ret
   exact ⟨by rw [h2.out];rfl,rfl⟩
def sizeL (x0 x1 x2 x3 y0 y1 y2 y3:Int):Int:=if x3=y3 then if x2=y2 then if x1=y1 then cmpI x0 y0 else cmpI x1 y1 else cmpI x2 y2 else cmpI x3 y3
set_option maxHeartbeats 2000000 in
set_option maxRecDepth 100000 in
theorem size_3 (x0 x1 x2 x3 y0 y1 y2 y3:Int) (w:World) (d3:x3≠y3) :
  Calls Tryz.prog 93 #[.agg #[.int .u64 x0,.int .u64 x1,.int .u64 x2,.int .u64 x3],.agg #[.int .u64 y0,.int .u64 y1,.int .u64 y2,.int .u64 y3]] w fun e w'=>e = .returned (.int .i64 (sizeL x0 x1 x2 x3 y0 y1 y2 y3))∧Below w.heap.size w w':=by
 have e3:(x3 != y3)=true:=by simpa using d3
 have HS:Hid (sizeL x0 x1 x2 x3 y0 y1 y2 y3=cmpI x3 y3):=Lib.hid (by unfold sizeL;rw [if_neg d3])
 clear d3
 go_enter Tryz.func93,Tryz.ntmps93
 go_wp2
 refine wp_loop_rounds 5 ?_
 rw [rounds_succ]
 go_wp2
 go_region
 go_wp2
 go_region_with (go_at_call 125;refine (compare_u64 _ _ _).mono ?_;rintro e w' ⟨rfl,rfl⟩)
 all_goals go_wp2
 all_goals go_ret
 all_goals refine ⟨by rw [HS.out];rfl,?_⟩
 all_goals repeat (first|exact Below.refl _ _|apply pw_below_drewN|apply below_drew|apply below_alloc)
set_option maxHeartbeats 2000000 in
set_option maxRecDepth 100000 in
theorem size_2 (x0 x1 x2 x3 y0 y1 y2 y3:Int) (w:World) (d3:x3=y3) (d2:x2≠y2) :
  Calls Tryz.prog 93 #[.agg #[.int .u64 x0,.int .u64 x1,.int .u64 x2,.int .u64 x3],.agg #[.int .u64 y0,.int .u64 y1,.int .u64 y2,.int .u64 y3]] w fun e w'=>e = .returned (.int .i64 (sizeL x0 x1 x2 x3 y0 y1 y2 y3))∧Below w.heap.size w w':=by
 have e3:(x3 != y3)=false:=by simpa using d3
 have e2:(x2 != y2)=true:=by simpa using d2
 have HS:Hid (sizeL x0 x1 x2 x3 y0 y1 y2 y3=cmpI x2 y2):=Lib.hid (by unfold sizeL;rw [if_pos d3,if_neg d2])
 clear d3 d2
 go_enter Tryz.func93,Tryz.ntmps93
 go_wp2
 refine wp_loop_rounds 5 ?_
 rw [rounds_succ]
 go_wp2
 go_region
 go_wp2
 rw [rounds_succ]
 go_wp2
 go_region
 go_wp2
 go_region_with (go_at_call 125;refine (compare_u64 _ _ _).mono ?_;rintro e w' ⟨rfl,rfl⟩)
 all_goals go_wp2
 all_goals go_ret
 all_goals refine ⟨by rw [HS.out];rfl,?_⟩
 all_goals repeat (first|exact Below.refl _ _|apply pw_below_drewN|apply below_drew|apply below_alloc)
set_option maxHeartbeats 2000000 in
set_option maxRecDepth 100000 in
theorem size_1 (x0 x1 x2 x3 y0 y1 y2 y3:Int) (w:World) (d3:x3=y3) (d2:x2=y2) (d1:x1≠y1) :
  Calls Tryz.prog 93 #[.agg #[.int .u64 x0,.int .u64 x1,.int .u64 x2,.int .u64 x3],.agg #[.int .u64 y0,.int .u64 y1,.int .u64 y2,.int .u64 y3]] w fun e w'=>e = .returned (.int .i64 (sizeL x0 x1 x2 x3 y0 y1 y2 y3))∧Below w.heap.size w w':=by
 have e3:(x3 != y3)=false:=by simpa using d3
 have e2:(x2 != y2)=false:=by simpa using d2
 have e1:(x1 != y1)=true:=by simpa using d1
 have HS:Hid (sizeL x0 x1 x2 x3 y0 y1 y2 y3=cmpI x1 y1):=Lib.hid (by unfold sizeL;rw [if_pos d3,if_pos d2,if_neg d1])
 clear d3 d2 d1
 go_enter Tryz.func93,Tryz.ntmps93
 go_wp2
 refine wp_loop_rounds 5 ?_
 rw [rounds_succ]
 go_wp2
 go_region
 go_wp2
 rw [rounds_succ]
 go_wp2
 go_region
 go_wp2
 rw [rounds_succ]
 go_wp2
 go_region
 go_wp2
 go_region_with (go_at_call 125;refine (compare_u64 _ _ _).mono ?_;rintro e w' ⟨rfl,rfl⟩)
 all_goals go_wp2
 all_goals go_ret
 all_goals refine ⟨by rw [HS.out];rfl,?_⟩
 all_goals repeat (first|exact Below.refl _ _|apply pw_below_drewN|apply below_drew|apply below_alloc)
set_option maxHeartbeats 2000000 in
set_option maxRecDepth 100000 in
theorem size_0 (x0 x1 x2 x3 y0 y1 y2 y3:Int) (w:World) (d3:x3=y3) (d2:x2=y2) (d1:x1=y1) (d0:x0≠y0) :
  Calls Tryz.prog 93 #[.agg #[.int .u64 x0,.int .u64 x1,.int .u64 x2,.int .u64 x3],.agg #[.int .u64 y0,.int .u64 y1,.int .u64 y2,.int .u64 y3]] w fun e w'=>e = .returned (.int .i64 (sizeL x0 x1 x2 x3 y0 y1 y2 y3))∧Below w.heap.size w w':=by
 have e3:(x3 != y3)=false:=by simpa using d3
 have e2:(x2 != y2)=false:=by simpa using d2
 have e1:(x1 != y1)=false:=by simpa using d1
 have e0:(x0 != y0)=true:=by simpa using d0
 have HS:Hid (sizeL x0 x1 x2 x3 y0 y1 y2 y3=cmpI x0 y0):=Lib.hid (by unfold sizeL;rw [if_pos d3,if_pos d2,if_pos d1])
 clear d3 d2 d1 d0
 go_enter Tryz.func93,Tryz.ntmps93
 go_wp2
 refine wp_loop_rounds 5 ?_
 rw [rounds_succ]
 go_wp2
 go_region
 go_wp2
 rw [rounds_succ]
 go_wp2
 go_region
 go_wp2
 rw [rounds_succ]
 go_wp2
 go_region
 go_wp2
 rw [rounds_succ]
 go_wp2
 go_region
 go_wp2
 go_region_with (go_at_call 125;refine (compare_u64 _ _ _).mono ?_;rintro e w' ⟨rfl,rfl⟩)
 all_goals go_wp2
 all_goals go_ret
 all_goals refine ⟨by rw [HS.out];rfl,?_⟩
 all_goals repeat (first|exact Below.refl _ _|apply pw_below_drewN|apply below_drew|apply below_alloc)
set_option maxHeartbeats 2000000 in
set_option maxRecDepth 100000 in
theorem size_e (x0 x1 x2 x3 y0 y1 y2 y3:Int) (w:World) (d3:x3=y3) (d2:x2=y2) (d1:x1=y1) (d0:x0=y0) :
  Calls Tryz.prog 93 #[.agg #[.int .u64 x0,.int .u64 x1,.int .u64 x2,.int .u64 x3],.agg #[.int .u64 y0,.int .u64 y1,.int .u64 y2,.int .u64 y3]] w fun e w'=>e = .returned (.int .i64 (sizeL x0 x1 x2 x3 y0 y1 y2 y3))∧Below w.heap.size w w':=by
 have e3:(x3 != y3)=false:=by simpa using d3
 have e2:(x2 != y2)=false:=by simpa using d2
 have e1:(x1 != y1)=false:=by simpa using d1
 have e0:(x0 != y0)=false:=by simpa using d0
 have HS:Hid (sizeL x0 x1 x2 x3 y0 y1 y2 y3=0):=Lib.hid (by unfold sizeL;rw [if_pos d3,if_pos d2,if_pos d1];unfold cmpI;rw [if_neg (by omega),if_neg (by omega)])
 clear d3 d2 d1 d0
 go_enter Tryz.func93,Tryz.ntmps93
 go_wp2
 refine wp_loop_rounds 5 ?_
 rw [rounds_succ]
 go_wp2
 go_region
 go_wp2
 rw [rounds_succ]
 go_wp2
 go_region
 go_wp2
 rw [rounds_succ]
 go_wp2
 go_region
 go_wp2
 rw [rounds_succ]
 go_wp2
 go_region
 go_wp2
 rw [rounds_succ]
 go_wp2
 go_ret
 refine ⟨by rw [HS.out];rfl,?_⟩
 repeat (first|exact Below.refl _ _|apply pw_below_drewN|apply below_drew|apply below_alloc)
theorem size_walk (x0 x1 x2 x3 y0 y1 y2 y3:Int) (w:World) :
  Calls Tryz.prog 93 #[.agg #[.int .u64 x0,.int .u64 x1,.int .u64 x2,.int .u64 x3],.agg #[.int .u64 y0,.int .u64 y1,.int .u64 y2,.int .u64 y3]] w fun e w'=>e = .returned (.int .i64 (sizeL x0 x1 x2 x3 y0 y1 y2 y3))∧Below w.heap.size w w':=by
 by_cases d3:x3=y3
 ·by_cases d2:x2=y2
  ·by_cases d1:x1=y1
   ·by_cases d0:x0=y0
    ·exact size_e x0 x1 x2 x3 y0 y1 y2 y3 w d3 d2 d1 d0
    ·exact size_0 x0 x1 x2 x3 y0 y1 y2 y3 w d3 d2 d1 d0
   ·exact size_1 x0 x1 x2 x3 y0 y1 y2 y3 w d3 d2 d1
  ·exact size_2 x0 x1 x2 x3 y0 y1 y2 y3 w d3 d2
 ·exact size_3 x0 x1 x2 x3 y0 y1 y2 y3 w d3
end Go.Proofs.YtkgagdjogedoiaaGreat

set_option linter.unusedVariables false
set_option linter.unusedSimpArgs false
namespace Go.Proofs.YtkgagdjogedoiaaGreat
open Go Go.Proofs Go.RowKit Go.Proofs.YtkgagdjogedoiaaGreatW.PrintWords

theorem bset {n:Nat} {w W:World} (h:Below n w W) (B i:Nat) (x:Value) (hn:n≤B):Below n w (W.setCell ⟨B,i,none⟩ x) :=
 h.trans ⟨rfl,rfl,rfl,by simp [World.setCell],fun k hk=>Below.heap_setCell _ _ _ k (by show k≠B;omega)⟩
theorem bcell {W w1:World} (hb:Below W.heap.size W w1):(∀ b o,b < W.heap.size→w1.cell? ⟨b,o,none⟩=W.cell? ⟨b,o,none⟩)∧(∀ b o,b < W.heap.size→w1.frozen? ⟨b,o,none⟩=W.frozen? ⟨b,o,none⟩) :=
 ⟨fun b o h=>hb.cell (p:=⟨b,o,none⟩) h,fun b o h=>hb.frozen (p:=⟨b,o,none⟩) h⟩
theorem size_val {x0 x1 x2 x3 y0 y1 y2 y3:Int} (hx0:U x0) (hx1:U x1) (hx2:U x2) (hx3:U x3) (hy0:U y0) (hy1:U y1) (hy2:U y2) (hy3:U y3):sizeL x0 x1 x2 x3 y0 y1 y2 y3=cmpI (val4 x0 x1 x2 x3) (val4 y0 y1 y2 y3):=by
 unfold U at *
 unfold sizeL cmpI val4
 repeat' split
 all_goals first|rfl|omega
theorem size_any {x0 x1 x2 x3 y0 y1 y2 y3:Int} (hx0:U x0) (hx1:U x1) (hx2:U x2) (hx3:U x3) (hy0:U y0) (hy1:U y1) (hy2:U y2) (hy3:U y3) (w:World) :
  Calls Tryz.prog 93 #[.agg #[.int .u64 x0,.int .u64 x1,.int .u64 x2,.int .u64 x3],.agg #[.int .u64 y0,.int .u64 y1,.int .u64 y2,.int .u64 y3]] w fun e w'=>e = .returned (.int .i64 (cmpI (val4 x0 x1 x2 x3) (val4 y0 y1 y2 y3)))∧Below w.heap.size w w':=by
 rw [← size_val hx0 hx1 hx2 hx3 hy0 hy1 hy2 hy3]
 exact size_walk x0 x1 x2 x3 y0 y1 y2 y3 w
theorem U_nat {x:Int} (h:U x):∃ n:Nat,x=n∧Lm n:=by
 obtain ⟨n,rfl⟩:=Int.eq_ofNat_of_zero_le h.1
 exact ⟨n,rfl,by unfold U at h;unfold Lm;omega⟩
theorem Lm_U {n:Nat} (h:Lm n):U (n:Int):=by unfold Lm at h;unfold U;omega
theorem plus_val {x0 x1 x2 x3 y0 y1 y2 y3 s0 s1 s2 s3 c0 c1 c2 c3:Nat} (e0:addS x0 y0 0=s0∧addC x0 y0 0=c0) (e1:addS x1 y1 c0=s1∧addC x1 y1 c0=c1) (e2:addS x2 y2 c1=s2∧addC x2 y2 c1=c2) (e3:addS x3 y3 c2=s3∧addC x3 y3 c2=c3) :
  val4 s0 s1 s2 s3+top4 * c3=val4 x0 x1 x2 x3+val4 y0 y1 y2 y3:=by
 unfold addS addC at *
 unfold val4 top4
 omega
theorem less_val {x0 x1 x2 x3 y0 y1 y2 y3 s0 s1 s2 s3 c0 c1 c2 c3:Nat} (hx0:Lm x0) (hx1:Lm x1) (hx2:Lm x2) (hx3:Lm x3) (hy0:Lm y0) (hy1:Lm y1) (hy2:Lm y2) (hy3:Lm y3) (e0:subS x0 y0 0=s0∧subC x0 y0 0=c0) (e1:subS x1 y1 c0=s1∧subC x1 y1 c0=c1) (e2:subS x2 y2 c1=s2∧subC x2 y2 c1=c2) (e3:subS x3 y3 c2=s3∧subC x3 y3 c2=c3) :
  val4 s0 s1 s2 s3=val4 x0 x1 x2 x3 - val4 y0 y1 y2 y3+top4 * c3∧c3≤1:=by
 have k:∀ {x y c s d:Nat},Lm x→Lm y→c≤1→(subS x y c=s∧subC x y c=d)→(s:Int)=x - y - c+18446744073709551616 * d∧d≤1:=by
  intro x y c s d hx hy hc ⟨h1,h2⟩
  unfold subS at h1
  unfold subC at h2
  unfold Lm at hx hy
  split at h2<;>omega
 obtain ⟨f0,g0⟩:=k hx0 hy0 (by omega) e0
 obtain ⟨f1,g1⟩:=k hx1 hy1 g0 e1
 obtain ⟨f2,g2⟩:=k hx2 hy2 g1 e2
 obtain ⟨f3,g3⟩:=k hx3 hy3 g2 e3
 clear k e0 e1 e2 e3
 unfold val4 top4
 omega
theorem plus_any {x0 x1 x2 x3 y0 y1 y2 y3:Int} (hx0:U x0) (hx1:U x1) (hx2:U x2) (hx3:U x3) (hy0:U y0) (hy1:U y1) (hy2:U y2) (hy3:U y3) (w:World) :
  Calls Tryz.prog 147 #[.agg #[.int .u64 x0,.int .u64 x1,.int .u64 x2,.int .u64 x3],.agg #[.int .u64 y0,.int .u64 y1,.int .u64 y2,.int .u64 y3]] w fun e w' =>
   ∃ s0 s1 s2 s3:Int,e = .returned (.tuple #[.agg #[.int .u64 s0,.int .u64 s1,.int .u64 s2,.int .u64 s3],.bool (decide (val4 x0 x1 x2 x3+val4 y0 y1 y2 y3 < top4))])∧U s0∧U s1∧U s2∧U s3∧val4 s0 s1 s2 s3=(val4 x0 x1 x2 x3+val4 y0 y1 y2 y3) % top4∧Below w.heap.size w w':=by
 obtain ⟨x0,rfl,kx0⟩:=U_nat hx0
 obtain ⟨x1,rfl,kx1⟩:=U_nat hx1
 obtain ⟨x2,rfl,kx2⟩:=U_nat hx2
 obtain ⟨x3,rfl,kx3⟩:=U_nat hx3
 obtain ⟨y0,rfl,ky0⟩:=U_nat hy0
 obtain ⟨y1,rfl,ky1⟩:=U_nat hy1
 obtain ⟨y2,rfl,ky2⟩:=U_nat hy2
 obtain ⟨y3,rfl,ky3⟩:=U_nat hy3
 have d0:=addC_le kx0 ky0 (Nat.zero_le 1)
 have d1:=addC_le kx1 ky1 d0
 have d2:=addC_le kx2 ky2 d1
 have d3:=addC_le kx3 ky3 d2
 have hv:=plus_val (x0:=x0) (y0:=y0) (x1:=x1) (y1:=y1) (x2:=x2) (y2:=y2) (x3:=x3) (y3:=y3) ⟨rfl,rfl⟩ ⟨rfl,rfl⟩ ⟨rfl,rfl⟩ ⟨rfl,rfl⟩
 have u0:=Lm_U (addS_lt x0 y0 0)
 have u1:=Lm_U (addS_lt x1 y1 (addC x0 y0 0))
 have u2:=Lm_U (addS_lt x2 y2 (addC x1 y1 (addC x0 y0 0)))
 have u3:=Lm_U (addS_lt x3 y3 (addC x2 y2 (addC x1 y1 (addC x0 y0 0))))
 refine (plus_walk x0 x1 x2 x3 y0 y1 y2 y3 _ _ _ _ _ _ _ _ w (fun w=>add_run (c:=0) kx0 ky0 (Nat.zero_le 1) w) (fun w=>add_run kx1 ky1 d0 w) (fun w=>add_run kx2 ky2 d1 w) (fun w=>add_run kx3 ky3 d2 w)).mono ?_
 rintro e w' ⟨rfl,hb⟩
 have hbd:=val4_bound u0 u1 u2 u3
 generalize addC x3 y3 (addC x2 y2 (addC x1 y1 (addC x0 y0 0)))=c3 at *
 refine ⟨_,_,_,_,?_,u0,u1,u2,u3,?_,hb⟩
 ·rw [show decide (val4 (x0:Int) x1 x2 x3+val4 (y0:Int) y1 y2 y3 < top4)=((c3:Int)==0) from ?_]
  rw [Bool.eq_iff_iff]
  simp only [decide_eq_true_eq,beq_iff_eq]
  unfold top4 at *
  omega
 ·rw [← hv]
  unfold top4 at *
  omega
theorem less_any {x0 x1 x2 x3 y0 y1 y2 y3:Int} (hx0:U x0) (hx1:U x1) (hx2:U x2) (hx3:U x3) (hy0:U y0) (hy1:U y1) (hy2:U y2) (hy3:U y3) (w:World) :
  Calls Tryz.prog 148 #[.agg #[.int .u64 x0,.int .u64 x1,.int .u64 x2,.int .u64 x3],.agg #[.int .u64 y0,.int .u64 y1,.int .u64 y2,.int .u64 y3]] w fun e w' =>
   ∃ s0 s1 s2 s3:Int,e = .returned (.agg #[.int .u64 s0,.int .u64 s1,.int .u64 s2,.int .u64 s3])∧U s0∧U s1∧U s2∧U s3∧val4 s0 s1 s2 s3=(val4 x0 x1 x2 x3 - val4 y0 y1 y2 y3) % top4∧Below w.heap.size w w':=by
 obtain ⟨x0,rfl,kx0⟩:=U_nat hx0
 obtain ⟨x1,rfl,kx1⟩:=U_nat hx1
 obtain ⟨x2,rfl,kx2⟩:=U_nat hx2
 obtain ⟨x3,rfl,kx3⟩:=U_nat hx3
 obtain ⟨y0,rfl,ky0⟩:=U_nat hy0
 obtain ⟨y1,rfl,ky1⟩:=U_nat hy1
 obtain ⟨y2,rfl,ky2⟩:=U_nat hy2
 obtain ⟨y3,rfl,ky3⟩:=U_nat hy3
 have hv:=less_val kx0 kx1 kx2 kx3 ky0 ky1 ky2 ky3 ⟨rfl,rfl⟩ ⟨rfl,rfl⟩ ⟨rfl,rfl⟩ ⟨rfl,rfl⟩
 have u0:=Lm_U (subS_lt x0 y0 0)
 have u1:=Lm_U (subS_lt x1 y1 (subC x0 y0 0))
 have u2:=Lm_U (subS_lt x2 y2 (subC x1 y1 (subC x0 y0 0)))
 have u3:=Lm_U (subS_lt x3 y3 (subC x2 y2 (subC x1 y1 (subC x0 y0 0))))
 refine (less_walk x0 x1 x2 x3 y0 y1 y2 y3 _ _ _ _ _ _ _ _ w (fun w=>sub_run (c:=0) (Nat.zero_le 1) w) (fun w=>sub_run (subC_le _ _ _) w) (fun w=>sub_run (subC_le _ _ _) w) (fun w=>sub_run (subC_le _ _ _) w)).mono ?_
 rintro e w' ⟨rfl,hb⟩
 have hbd:=val4_bound u0 u1 u2 u3
 generalize subC x3 y3 (subC x2 y2 (subC x1 y1 (subC x0 y0 0)))=c3 at *
 refine ⟨_,_,_,_,rfl,u0,u1,u2,u3,?_,hb⟩
 obtain ⟨hv,_⟩:=hv
 unfold top4 at *
 omega
end Go.Proofs.YtkgagdjogedoiaaGreat

set_option linter.unusedVariables false
set_option linter.unusedSimpArgs false
namespace Go.Proofs.YtkgagdjogedoiaaGreat
open Go Go.Proofs Go.RowKit Go.Proofs.YtkgagdjogedoiaaGreatW.PrintWords

end Go.Proofs.YtkgagdjogedoiaaGreat

set_option linter.unusedVariables false
set_option linter.unusedSimpArgs false
namespace Go.Proofs.YtkgagdjogedoiaaGreat
open Go Go.Proofs Go.RowKit Go.Shelf Go.Proofs.YtkgagdjogedoiaaGreatW.PrintWords

set_option maxHeartbeats 1000000 in
theorem mul64_any {x y:Nat} (hx':Lm x) (hy':Lm y) (w:World) :
  Calls Tryz.prog 101 #[.int .u64 x,.int .u64 y] w fun e w'=>e = .returned (.tuple #[.int .u64 ((x * y / 18446744073709551616:Nat):Int),.int .u64 ((x * y % 18446744073709551616:Nat):Int)])∧w=w':=by
 have hx:x < 18446744073709551616:=hx'
 have hy:y < 18446744073709551616:=hy'
 obtain ⟨bd,bt,bw,hhi⟩:=Lib.mul64_hi x y hx hy
 have ba:=Lib.half_mul_le (a:=x / 4294967296) (b:=y / 4294967296) (by omega) (by omega)
 have bb:=Lib.half_mul_le (a:=x / 4294967296) (b:=y % 4294967296) (by omega) (by omega)
 have bc:=Lib.half_mul_le (a:=x % 4294967296) (b:=y / 4294967296) (by omega) (by omega)
 have ba':x / 4294967296 * (y / 4294967296) < 18446744073709551616:=by omega
 have bb':x / 4294967296 * (y % 4294967296) < 18446744073709551616:=by omega
 have bc':x % 4294967296 * (y / 4294967296) < 18446744073709551616:=by omega
 have bh1:x / 4294967296 * (y / 4294967296)+(x / 4294967296 * (y % 4294967296)+x % 4294967296 * (y % 4294967296) / 4294967296) / 4294967296 < 18446744073709551616:=by omega
 have bh:x / 4294967296 * (y / 4294967296)+(x / 4294967296 * (y % 4294967296)+x % 4294967296 * (y % 4294967296) / 4294967296) / 4294967296+((x / 4294967296 * (y % 4294967296)+x % 4294967296 * (y % 4294967296) / 4294967296) % 4294967296+x % 4294967296 * (y / 4294967296)) / 4294967296 < 18446744073709551616:=by omega
 go_enter Tryz.func101,Tryz.ntmps101
 go_wp2
 simp only [Mul64.maskN x hx,Mul64.maskN y hy,Mul64.divN,Mul64.mulN,Mul64.addN,Mul64.wrapN _ bd,Mul64.wrapN _ bb',Mul64.wrapN _ bt,Mul64.maskN _ bt,Mul64.wrapN _ bc',Mul64.wrapN _ bw,Mul64.wrapN _ ba',Mul64.wrapN _ bh1,Mul64.wrapN _ bh,Mul64.wrapM (x * y)]
 rw [hhi]
 go_ret2
 exact ⟨rfl,rfl⟩

attribute [local go_sem high] eqA94
def noneB (a b c d:Int):Bool:=a==0 && (b==0 && (c==0 && (d==0)))
set_option maxHeartbeats 1000000 in
theorem none_any (a b c d:Int) (w:World):Calls Tryz.prog 95 #[.agg #[.int .u64 a,.int .u64 b,.int .u64 c,.int .u64 d]] w fun e w'=>e = .returned (.bool (noneB a b c d))∧Below w.heap.size w w':=by
 go_enter Tryz.func95,Tryz.ntmps95
 go_wp2
 go_ret
 exact ⟨rfl,below_alloc (Below.refl _ _) _⟩
set_option maxHeartbeats 1000000 in
theorem of_any (m:Bool) (a b c d:Int) (w:World):Calls Tryz.prog 97 #[.bool m,.agg #[.int .u64 a,.int .u64 b,.int .u64 c,.int .u64 d]] w fun e w'=>e = .returned (.agg #[.bool (m && !noneB a b c d),.int .u64 a,.int .u64 b,.int .u64 c,.int .u64 d])∧Below w.heap.size w w':=by
 cases m
 ·go_enter Tryz.func97,Tryz.ntmps97
  go_wp2
  go_region
  go_wp2
  exact bodyPost_ret (v := .agg #[.bool false,.int .u64 a,.int .u64 b,.int .u64 c,.int .u64 d]) (by simp [results,Tryz.results97,go_sem]) rfl ⟨rfl,below_drew (below_alloc (below_alloc (Below.refl _ _) _) _)⟩
 ·obtain ⟨z,hz⟩:∃ z,noneB a b c d=z:=⟨_,rfl⟩
  have hN:=fun w=>none_any a b c d w
  rw [hz] at hN
  rw [hz]
  have HN:=Lib.hid hN
  clear hN hz
  go_enter Tryz.func97,Tryz.ntmps97
  go_wp2
  go_region_with (go_at_call 95;refine (HN.out _).mono ?_;rintro e w7 ⟨rfl,hB7⟩;obtain ⟨hc,hf⟩:=bcell hB7)
  all_goals go_wp2
  all_goals
   refine bodyPost_ret (v := .agg #[.bool (!z),.int .u64 a,.int .u64 b,.int .u64 c,.int .u64 d]) (by simp [results,Tryz.results97,go_sem,hc,hf]) rfl ⟨rfl,?_⟩
   repeat (with_reducible first|apply below_drew|refine bset ?_ _ _ _ (by omega))
   refine Below.trans ?_ (hB7.mono (by simp;omega))
   repeat (with_reducible first|exact Below.refl _ _|apply below_drew|apply below_alloc)
end Go.Proofs.YtkgagdjogedoiaaGreat

set_option linter.unusedVariables false
set_option linter.unusedSimpArgs false
namespace Go.Proofs.YtkgagdjogedoiaaGreat
open Go Go.Proofs Go.RowKit Go.Shelf Go.Proofs.YtkgagdjogedoiaaGreatW.PrintWords
attribute [local go_sem high] eqA94

def Box5 (W:World) (B:Nat) (m:Bool) (a b c d:Nat):Prop:=W.heap[B]?=some (.cells #[.bool m,.int .u64 a,.int .u64 b,.int .u64 c,.int .u64 d] 96 (0,0))
theorem Box5.lt {W:World} {B:Nat} {m:Bool} {a b c d:Nat} (h:Box5 W B m a b c d):B < W.heap.size:=(Array.getElem?_eq_some_iff.1 h).1
theorem Box5.below {W W':World} {B n:Nat} {m:Bool} {a b c d:Nat} (h:Box5 W B m a b c d) (hb:Below n W W') (hn:B < n):Box5 W' B m a b c d:=(hb.block B hn).trans h
theorem Box5.new' (W:World) (B:Nat) (m:Bool) (a b c d:Nat) (h:W.heap.size=B):Box5 (W.alloc (.cells #[.bool m,.int .u64 a,.int .u64 b,.int .u64 c,.int .u64 d] 96)) B m a b c d:=by
 subst h
 show (W.heap.push _)[W.heap.size]?=_
 simp
theorem Box5.alloc {W:World} {B:Nat} {m:Bool} {a b c d:Nat} (h:Box5 W B m a b c d) (o:Obj):Box5 (W.alloc o) B m a b c d:=h.below (below_alloc (Below.refl W.heap.size W) o) h.lt
theorem Box5.far {W:World} {B B' i:Nat} {m:Bool} {a b c d:Nat} (h:Box5 W B m a b c d) (hn:B≠B') (x:Value):Box5 (W.setCell ⟨B',i,none⟩ x) B m a b c d:=blk_far h (by simpa using hn) x
theorem Box5.fr {W:World} {B:Nat} {m:Bool} {a b c d:Nat} (h:Box5 W B m a b c d) (i:Nat):W.frozen? ⟨B,i,none⟩=false:=blk_frozen h i
theorem Box5.cells {W:World} {B:Nat} {m:Bool} {a b c d:Nat} (h:Box5 W B m a b c d):W.cell? ⟨B,0,none⟩=some (.bool m)∧W.cell? ⟨B,1,none⟩=some (.int .u64 a)∧W.cell? ⟨B,2,none⟩=some (.int .u64 b)∧W.cell? ⟨B,3,none⟩=some (.int .u64 c)∧W.cell? ⟨B,4,none⟩=some (.int .u64 d):=by
 simp [World.cell?,show W.heap[B]?=_ from h]
def BoxO (W:World) (B:Nat) (o:List Nat):Prop:=W.heap[B]?=some (.cells (o.map (fun n:Nat=>Value.int .u64 (n:Int))).toArray 179 (0,0))
theorem BoxO.new' (W:World) (B:Nat) (h:W.heap.size=B):BoxO (W.alloc (.cells #[.int .u64 0,.int .u64 0,.int .u64 0,.int .u64 0,.int .u64 0,.int .u64 0,.int .u64 0,.int .u64 0] 179)) B [0,0,0,0,0,0,0,0]:=by
 subst h
 show (W.heap.push _)[W.heap.size]?=_
 simp
theorem BoxO.lt {W:World} {B:Nat} {o:List Nat} (h:BoxO W B o):B < W.heap.size:=(Array.getElem?_eq_some_iff.1 h).1
theorem BoxO.below {W W':World} {B n:Nat} {o:List Nat} (h:BoxO W B o) (hb:Below n W W') (hn:B < n):BoxO W' B o:=(hb.block B hn).trans h
theorem BoxO.fr {W:World} {B:Nat} {o:List Nat} (h:BoxO W B o) (i:Nat):W.frozen? ⟨B,i,none⟩=false:=blk_frozen h i
theorem BoxO.at {W:World} {B:Nat} {o:List Nat} (h:BoxO W B o) (i:Nat) (hi:i < o.length):W.cell? ⟨B,i,none⟩=some (.int .u64 (o.getD i 0:Nat)):=by
 rw [blk_cell h]
 simp [List.getD_eq_getElem?_getD,List.getElem?_eq_getElem hi]
theorem BoxO.set {W:World} {B:Nat} {o:List Nat} (h:BoxO W B o) (i v:Nat):BoxO (W.setCell ⟨B,i,none⟩ (.int .u64 (v:Nat))) B (o.set i v):=by
 have h1:=blk_set h i (.int .u64 (v:Nat))
 unfold BoxO
 rw [h1]
 simp [List.map_set]

structure MulBoxes (w W:World) (ma mb:Bool) (x0 x1 x2 x3 y0 y1 y2 y3:Nat) (o:List Nat):Prop where
 hb:Below w.heap.size w W
 xa:Box5 W w.heap.size ma x0 x1 x2 x3
 xb:Box5 W (w.heap.size+1) mb y0 y1 y2 y3
 xr:Box5 W (w.heap.size+1+1) false 0 0 0 0
 xo:BoxO W (w.heap.size+1+1+1) o
 len:o.length=8
 dig:∀ n∈o,Lm n
theorem MulBoxes.set {w W:World} {ma mb:Bool} {x0 x1 x2 x3 y0 y1 y2 y3:Nat} {o:List Nat} (h:MulBoxes w W ma mb x0 x1 x2 x3 y0 y1 y2 y3 o) (i v:Nat) (hv:Lm v):MulBoxes w (W.setCell ⟨w.heap.size+1+1+1,i,none⟩ (.int .u64 (v:Nat))) ma mb x0 x1 x2 x3 y0 y1 y2 y3 (o.set i v):=by
 obtain ⟨h1,h2,h3,h4,h5,h6,h7⟩:=h
 refine ⟨bset h1 _ _ _ (by omega),h2.far (by omega) _,h3.far (by omega) _,h4.far (by omega) _,h5.set i v,by simpa using h6,fun n hn=>?_⟩
 rcases List.mem_or_eq_of_mem_set hn with hn|rfl
 ·exact h7 n hn
 ·exact hv
def MulRel (w:World) (ma mb:Bool) (x0 x1 x2 x3 y0 y1 y2 y3:Nat) (v17:Value) (W:World):Prop :=
 ∃ (i:Nat) (o:List Nat),v17 = .int .i64 i∧i≤4∧MulBoxes w W ma mb x0 x1 x2 x3 y0 y1 y2 y3 o∧Aside0 (V64 o=V64 ([x0,x1,x2,x3].take i) * V64 [y0,y1,y2,y3])∧Aside0 (∀ j,i+4≤j→o.getD j 0=0)
def MulIn (w:World) (ma mb:Bool) (x0 x1 x2 x3 y0 y1 y2 y3 i V0 x:Nat) (v9 v23:Value) (W:World):Prop :=
 ∃ (k c:Nat) (o:List Nat),v23 = .int .i64 k∧k≤4∧v9 = .int .u64 (c:Nat)∧Lm c∧MulBoxes w W ma mb x0 x1 x2 x3 y0 y1 y2 y3 o∧Aside0 (V64 o+18446744073709551616 ^ i * 18446744073709551616 ^ k * c=V0+18446744073709551616 ^ i * (x * V64 ([y0,y1,y2,y3].take k)))∧Aside0 (∀ j,i+4≤j→o.getD j 0=0)
theorem index4 (a b c d:Nat) (i:Nat) (hi:i < 4) (w:World):(Instr.index 94 (.agg #[.int .u64 a,.int .u64 b,.int .u64 c,.int .u64 d]) (.int .i64 (i:Nat))).run Tryz.prog w = .ok (.int .u64 ([a,b,c,d].getD i 0:Nat)) w:=by
 obtain rfl|rfl|rfl|rfl:i=0∨i=1∨i=2∨i=3:=by omega
 all_goals kernel_rfl
theorem getD_Lm {a b c d:Nat} (ha:Lm a) (hb:Lm b) (hc:Lm c) (hd:Lm d) (j:Nat) (hj:j < 4):Lm ([a,b,c,d].getD j 0):=by
 match j,hj with
 | 0,_=>exact ha
 | 1,_=>exact hb
 | 2,_=>exact hc
 | 3,_=>exact hd

theorem inner_end {o':List Nat} {i k c o2 ov c' x y V0 y0 y1 y2 y3:Nat} (hkl:i+k < o'.length) (hov:ov=o'.getD (i+k) 0) (hV:V64 o'+18446744073709551616 ^ i * 18446744073709551616 ^ k * c=V0+18446744073709551616 ^ i * (x * V64 ([y0,y1,y2,y3].take k)))
  (he:o2+18446744073709551616 * c'=ov+c+x * y) (hk:k < 4) (hy:y=[y0,y1,y2,y3].getD k 0):V64 (o'.set (i+k) o2)+18446744073709551616 ^ i * 18446744073709551616 ^ (k+1) * c'=V0+18446744073709551616 ^ i * (x * V64 ([y0,y1,y2,y3].take (k+1))):=by
 have h1:=V64_set o' (i+k) o2 hkl
 have h2:=V64_take [y0,y1,y2,y3] k hk
 rw [← hov,Nat.pow_add] at h1
 rw [← hy] at h2
 rw [Nat.pow_succ,← Nat.mul_assoc (18446744073709551616 ^ i)]
 exact inner_step hV h1 he h2
theorem row_end {o o':List Nat} {i c x V0 x0 x1 x2 x3 y0 y1 y2 y3:Nat} (hl:i+4 < o'.length) (hz:o'.getD (i+4) 0=0) (hV:V64 o'+18446744073709551616 ^ i * 18446744073709551616 ^ 4 * c=V0+18446744073709551616 ^ i * (x * V64 ([y0,y1,y2,y3].take 4)))
  (h0:V0=V64 o) (hO:V64 o=V64 ([x0,x1,x2,x3].take i) * V64 [y0,y1,y2,y3]) (hi:i < 4) (hx:x=[x0,x1,x2,x3].getD i 0):V64 (o'.set (i+4) c)=V64 ([x0,x1,x2,x3].take (i+1)) * V64 [y0,y1,y2,y3]:=by
 have h1:=V64_set o' (i+4) c hl
 have h2:=V64_take [x0,x1,x2,x3] i hi
 rw [hz,Nat.mul_zero,Nat.add_zero,Nat.pow_add] at h1
 rw [← hx] at h2
 rw [h1,hV,h0,hO,h2,show [y0,y1,y2,y3].take 4=[y0,y1,y2,y3] from rfl]
 grind
theorem zero_set {o:List Nat} {i j v:Nat} (h:∀ k,i+4≤k→o.getD k 0=0) (hj:j < i+4):∀ k,i+4≤k→(o.set j v).getD k 0=0:=by
 intro k hk
 rw [List.getD_eq_getElem?_getD,List.getElem?_set_ne (by omega),← List.getD_eq_getElem?_getD]
 exact h k hk
theorem zero_set' {o:List Nat} {i v:Nat} (h:∀ k,i+4≤k→o.getD k 0=0):∀ k,i+1+4≤k→(o.set (i+4) v).getD k 0=0:=by
 intro k hk
 rw [List.getD_eq_getElem?_getD,List.getElem?_set_ne (by omega),← List.getD_eq_getElem?_getD]
 exact h k (by omega)
theorem or_none {a b c d:Nat} (ha:Lm a) (hb:Lm b) (hc:Lm c) (hd:Lm d) {z:Bool} (h:(Go.bits .or .u64 (Go.bits .or .u64 (Go.bits .or .u64 (a:Int) (b:Int)) (c:Int)) (d:Int)==0)=z):z=noneB a b c d:=by
 have k:∀ {x y:Nat},Lm x→Lm y→Go.bits .or .u64 (x:Int) (y:Int)=((x ||| y:Nat):Int)∧Lm (x ||| y):=by
  intro x y hx hy
  refine ⟨(bits_nat .u64 64 (by decide) u64_small x y hx hy).2,?_⟩
  exact Nat.or_lt_two_pow (n:=64) hx hy
 rw [(k ha hb).1,(k (k ha hb).2 hc).1,(k (k (k ha hb).2 hc).2 hd).1] at h
 rw [← h]
 unfold noneB
 rw [Bool.eq_iff_iff]
 simp only [beq_iff_eq,Bool.and_eq_true]
 constructor
 ·intro h0
  have h1:a ||| b ||| c ||| d=0:=by omega
  rw [Nat.or_eq_zero_iff,Nat.or_eq_zero_iff,Nat.or_eq_zero_iff] at h1
  omega
 ·rintro ⟨h0,h1,h2,h3⟩
  obtain rfl:a=0:=by omega
  obtain rfl:b=0:=by omega
  obtain rfl:c=0:=by omega
  obtain rfl:d=0:=by omega
  rfl
theorem list8 {o:List Nat} (h:o.length=8):∃ a b c d e f g i,o=[a,b,c,d,e,f,g,i]:=by
 match o,h with
 | [a,b,c,d,e,f,g,i],_=>exact ⟨a,b,c,d,e,f,g,i,rfl⟩

theorem MulBoxes.later {w W W':World} {ma mb:Bool} {x0 x1 x2 x3 y0 y1 y2 y3:Nat} {o:List Nat} (h:MulBoxes w W ma mb x0 x1 x2 x3 y0 y1 y2 y3 o) (hb:Below W.heap.size W W'):MulBoxes w W' ma mb x0 x1 x2 x3 y0 y1 y2 y3 o :=
 ⟨h.hb.trans (hb.mono h.hb.size),h.xa.below hb h.xa.lt,h.xb.below hb h.xb.lt,h.xr.below hb h.xr.lt,h.xo.below hb h.xo.lt,h.len,h.dig⟩
structure MulE (w W:World) (ma mb:Bool) (x0 x1 x2 x3 y0 y1 y2 y3:Nat) (o:List Nat):Prop where
 hb:Below w.heap.size w W
 xa:Box5 W w.heap.size ma x0 x1 x2 x3
 xb:Box5 W (w.heap.size+1) mb y0 y1 y2 y3
 xr:∃ m a b c d,Box5 W (w.heap.size+1+1) m a b c d
 xo:BoxO W (w.heap.size+1+1+1) o
theorem BoxO.far {W:World} {B B' i:Nat} {o:List Nat} (h:BoxO W B o) (hn:B≠B') (x:Value):BoxO (W.setCell ⟨B',i,none⟩ x) B o:=blk_far h (by simpa using hn) x
theorem Box5.setAll {W:World} {B:Nat} {m:Bool} {a b c d:Nat} (h:Box5 W B m a b c d) (n:Bool) (x y z t:Nat):Box5 (((((W.setCell ⟨B,0,none⟩ (.bool n)).setCell ⟨B,1,none⟩ (.int .u64 x)).setCell ⟨B,2,none⟩ (.int .u64 y)).setCell ⟨B,3,none⟩ (.int .u64 z)).setCell ⟨B,4,none⟩ (.int .u64 t)) B n x y z t:=by
 have h1:=blk_set h 0 (.bool n)
 have h2:=blk_set h1 1 (.int .u64 x)
 have h3:=blk_set h2 2 (.int .u64 y)
 have h4:=blk_set h3 3 (.int .u64 z)
 exact blk_set h4 4 (.int .u64 t)
theorem Box5.farAll {W:World} {B B':Nat} {m:Bool} {a b c d:Nat} (h:Box5 W B m a b c d) (hn:B≠B') (n x y z t:Value):Box5 (((((W.setCell ⟨B',0,none⟩ n).setCell ⟨B',1,none⟩ x).setCell ⟨B',2,none⟩ y).setCell ⟨B',3,none⟩ z).setCell ⟨B',4,none⟩ t) B m a b c d :=
 ((((h.far hn _).far hn _).far hn _).far hn _).far hn _
theorem MulE.later {w W W':World} {ma mb:Bool} {x0 x1 x2 x3 y0 y1 y2 y3:Nat} {o:List Nat} (h:MulE w W ma mb x0 x1 x2 x3 y0 y1 y2 y3 o) (hb:Below W.heap.size W W'):MulE w W' ma mb x0 x1 x2 x3 y0 y1 y2 y3 o:=by
 obtain ⟨h1,h2,h3,⟨m,a,b,c,d,h4⟩,h5⟩:=h
 exact ⟨h1.trans (hb.mono h1.size),h2.below hb h2.lt,h3.below hb h3.lt,⟨m,a,b,c,d,h4.below hb h4.lt⟩,h5.below hb h5.lt⟩
theorem MulE.stored {w W:World} {ma mb:Bool} {x0 x1 x2 x3 y0 y1 y2 y3:Nat} {o:List Nat} (h:MulE w W ma mb x0 x1 x2 x3 y0 y1 y2 y3 o) (n:Bool) (x y z t:Nat) :
  MulE w (((((W.setCell ⟨w.heap.size+1+1,0,none⟩ (.bool n)).setCell ⟨w.heap.size+1+1,1,none⟩ (.int .u64 x)).setCell ⟨w.heap.size+1+1,2,none⟩ (.int .u64 y)).setCell ⟨w.heap.size+1+1,3,none⟩ (.int .u64 z)).setCell ⟨w.heap.size+1+1,4,none⟩ (.int .u64 t)) ma mb x0 x1 x2 x3 y0 y1 y2 y3 o:=by
 obtain ⟨h1,h2,h3,⟨m,a,b,c,d,h4⟩,h5⟩:=h
 exact ⟨bset (bset (bset (bset (bset h1 _ _ _ (by omega)) _ _ _ (by omega)) _ _ _ (by omega)) _ _ _ (by omega)) _ _ _ (by omega),h2.farAll (by omega) _ _ _ _ _,h3.farAll (by omega) _ _ _ _ _,⟨_,_,_,_,_,h4.setAll n x y z t⟩,((((h5.far (by omega) _).far (by omega) _).far (by omega) _).far (by omega) _).far (by omega) _⟩
theorem mul_keep0 {w W:World} {ma mb:Bool} {x0 x1 x2 x3 y0 y1 y2 y3 o0 o1 o2 o3 o4 o5 o6 o7:Nat} (h:MulE w W ma mb x0 x1 x2 x3 y0 y1 y2 y3 [o0,o1,o2,o3,o4,o5,o6,o7]):W.cell? ⟨w.heap.size,0,none⟩=some (.bool ma)∧W.cell? ⟨w.heap.size+1,0,none⟩=some (.bool mb)∧W.cell? ⟨w.heap.size+1+1+1,0,none⟩=some (.int .u64 o0)∧W.cell? ⟨w.heap.size+1+1+1,1,none⟩=some (.int .u64 o1)∧W.cell? ⟨w.heap.size+1+1+1,2,none⟩=some (.int .u64 o2)∧W.cell? ⟨w.heap.size+1+1+1,3,none⟩=some (.int .u64 o3)∧W.cell? ⟨w.heap.size+1+1+1,4,none⟩=some (.int .u64 o4)∧W.cell? ⟨w.heap.size+1+1+1,5,none⟩=some (.int .u64 o5)∧W.cell? ⟨w.heap.size+1+1+1,6,none⟩=some (.int .u64 o6)∧W.cell? ⟨w.heap.size+1+1+1,7,none⟩=some (.int .u64 o7)∧MulE w W ma mb x0 x1 x2 x3 y0 y1 y2 y3 [o0,o1,o2,o3,o4,o5,o6,o7] :=
 ⟨h.xa.cells.1,h.xb.cells.1,h.xo.at 0 (by simp),h.xo.at 1 (by simp),h.xo.at 2 (by simp),h.xo.at 3 (by simp),h.xo.at 4 (by simp),h.xo.at 5 (by simp),h.xo.at 6 (by simp),h.xo.at 7 (by simp),h⟩
theorem mul_keep {w W W':World} {ma mb:Bool} {x0 x1 x2 x3 y0 y1 y2 y3 o0 o1 o2 o3 o4 o5 o6 o7:Nat} (h:W.cell? ⟨w.heap.size,0,none⟩=some (.bool ma)∧W.cell? ⟨w.heap.size+1,0,none⟩=some (.bool mb)∧W.cell? ⟨w.heap.size+1+1+1,0,none⟩=some (.int .u64 o0)∧W.cell? ⟨w.heap.size+1+1+1,1,none⟩=some (.int .u64 o1)∧W.cell? ⟨w.heap.size+1+1+1,2,none⟩=some (.int .u64 o2)∧W.cell? ⟨w.heap.size+1+1+1,3,none⟩=some (.int .u64 o3)∧W.cell? ⟨w.heap.size+1+1+1,4,none⟩=some (.int .u64 o4)∧W.cell? ⟨w.heap.size+1+1+1,5,none⟩=some (.int .u64 o5)∧W.cell? ⟨w.heap.size+1+1+1,6,none⟩=some (.int .u64 o6)∧W.cell? ⟨w.heap.size+1+1+1,7,none⟩=some (.int .u64 o7)∧MulE w W ma mb x0 x1 x2 x3 y0 y1 y2 y3 [o0,o1,o2,o3,o4,o5,o6,o7]) (hb:Below W.heap.size W W'):W'.cell? ⟨w.heap.size,0,none⟩=some (.bool ma)∧W'.cell? ⟨w.heap.size+1,0,none⟩=some (.bool mb)∧W'.cell? ⟨w.heap.size+1+1+1,0,none⟩=some (.int .u64 o0)∧W'.cell? ⟨w.heap.size+1+1+1,1,none⟩=some (.int .u64 o1)∧W'.cell? ⟨w.heap.size+1+1+1,2,none⟩=some (.int .u64 o2)∧W'.cell? ⟨w.heap.size+1+1+1,3,none⟩=some (.int .u64 o3)∧W'.cell? ⟨w.heap.size+1+1+1,4,none⟩=some (.int .u64 o4)∧W'.cell? ⟨w.heap.size+1+1+1,5,none⟩=some (.int .u64 o5)∧W'.cell? ⟨w.heap.size+1+1+1,6,none⟩=some (.int .u64 o6)∧W'.cell? ⟨w.heap.size+1+1+1,7,none⟩=some (.int .u64 o7)∧MulE w W' ma mb x0 x1 x2 x3 y0 y1 y2 y3 [o0,o1,o2,o3,o4,o5,o6,o7] :=
 mul_keep0 (h.2.2.2.2.2.2.2.2.2.2.later hb)
set_option maxHeartbeats 2000000 in
set_option maxRecDepth 100000 in
theorem mul_walk (ma mb:Bool) {x0 x1 x2 x3 y0 y1 y2 y3:Nat} (hx0:Lm x0) (hx1:Lm x1) (hx2:Lm x2) (hx3:Lm x3) (hy0:Lm y0) (hy1:Lm y1) (hy2:Lm y2) (hy3:Lm y3) (w:World) :
  Calls Tryz.prog 126 #[.agg #[.bool ma,.int .u64 x0,.int .u64 x1,.int .u64 x2,.int .u64 x3],.agg #[.bool mb,.int .u64 y0,.int .u64 y1,.int .u64 y2,.int .u64 y3]] w fun e w' =>
   ∃ o0 o1 o2 o3 o4 o5 o6 o7:Nat,e = .returned (.tuple #[.agg #[.bool ((ma != mb) && !noneB o0 o1 o2 o3),.int .u64 o0,.int .u64 o1,.int .u64 o2,.int .u64 o3],.bool (noneB o4 o5 o6 o7)])∧(∀ n∈[o0,o1,o2,o3,o4,o5,o6,o7],Lm n) ∧
    Aside0 (V64 [o0,o1,o2,o3,o4,o5,o6,o7]=V64 [x0,x1,x2,x3] * V64 [y0,y1,y2,y3])∧Below w.heap.size w w':=by
 have hyi:=fun (w:World) (k:Nat) (hk:k < 4)=>index4 y0 y1 y2 y3 k hk w
 have hxi:=fun (w:World) (k:Nat) (hk:k < 4)=>index4 x0 x1 x2 x3 k hk w
 have HYI:=Lib.hid hyi
 have HXI:=Lib.hid hxi
 clear hyi hxi
 go_enter Tryz.func126,Tryz.ntmps126
 go_wp2
 go_loopw [17] (fun v17 W=>MulRel w ma mb x0 x1 x2 x3 y0 y1 y2 y3 v17 W) (fun v17 _=>4 - (intOf v17).toNat)
 case atStart =>
  refine ⟨0,[0,0,0,0,0,0,0,0],rfl,by omega,⟨below_alloc (below_alloc (below_alloc (below_alloc (Below.refl _ _) _) _) _) _,(((Box5.new' w _ ma x0 x1 x2 x3 rfl).alloc _).alloc _).alloc _,((Box5.new' _ _ mb y0 y1 y2 y3 (by simp)).alloc _).alloc _,(Box5.new' _ _ false 0 0 0 0 (by simp)).alloc _,BoxO.new' _ _ (by simp),rfl,fun n hn=>?_⟩,⟨by simp [V64]⟩,⟨fun j hj=>?_⟩⟩
  ·have hn0:n=0:=by simpa using hn
   subst hn0
   unfold Lm
   omega
  ·match j,hj with
   | 4,_=>rfl
   | 5,_=>rfl
   | 6,_=>rfl
   | 7,_=>rfl
   | j+8,_=>rfl
 case round =>
  obtain ⟨i,o,rfl,hi4,hX,hV,hZ⟩:=hrel
  by_cases hi:i < 4
  ·have hi1:decide ((i:Int) < 4)=true:=decide_eq_true (by omega)
   have hxv:=getD_Lm hx0 hx1 hx2 hx3 i hi
   have ixx:=fun w=>HXI.out w i hi
   obtain ⟨x,hx⟩:∃ x,x=[x0,x1,x2,x3].getD i 0:=⟨_,rfl⟩
   rw [← hx] at hxv ixx
   have HX:=Lib.hid hx
   clear hx
   obtain ⟨m0,m1,m2,m3,m4⟩:=hX.xb.cells
   obtain ⟨V0,hV0⟩:∃ V0,V0=V64 o:=⟨_,rfl⟩
   have HV0:=Lib.hid hV0
   clear hV0
   go_wp2
   obtain ⟨wo,rfl⟩:∃ wo:World,wo=wr:=⟨_,rfl⟩
   go_loopw [9,23] (fun v9 v23 W=>MulIn w ma mb x0 x1 x2 x3 y0 y1 y2 y3 i V0 x v9 v23 W) (fun _ v23 _=>4 - (intOf v23).toNat)
   case atStart=>exact ⟨0,0,o,rfl,by omega,rfl,by unfold Lm;omega,hX,⟨by rw [HV0.out];simp [V64]⟩,hZ⟩
   case round =>
    obtain ⟨k,c,o',rfl,hk4,rfl,hc,hX',hV',hZ'⟩:=hrel
    by_cases hk:k < 4
    ·have hk1:decide ((k:Int) < 4)=true:=decide_eq_true (by omega)
     have hkl:i+k < o'.length:=by rw [hX'.len];omega
     have hyv:=getD_Lm hy0 hy1 hy2 hy3 k hk
     have iyy:=fun w=>HYI.out w k hk
     obtain ⟨y,hy⟩:∃ y,y=[y0,y1,y2,y3].getD k 0:=⟨_,rfl⟩
     rw [← hy] at hyv iyy
     have HY:=Lib.hid hy
     clear hy
     have co:=hX'.xo.at (i+k) hkl
     have fo:=hX'.xo.fr (i+k)
     obtain ⟨ov,hov⟩:∃ ov,ov=o'.getD (i+k) 0:=⟨_,rfl⟩
     have hovL:Lm ov:=by
      rw [hov,List.getD_eq_getElem?_getD,List.getElem?_eq_getElem hkl]
      exact hX'.dig _ (List.getElem_mem _)
     rw [← hov] at co
     have HOV:=Lib.hid hov
     clear hov
     obtain ⟨hi_,hhi⟩:∃ h,h=x * y / 18446744073709551616:=⟨_,rfl⟩
     obtain ⟨lo,hlo⟩:∃ l,l=x * y % 18446744073709551616:=⟨_,rfl⟩
     have HM:Hid (∀ w,Calls Tryz.prog 101 #[.int .u64 x,.int .u64 y] w fun e w'=>e = .returned (.tuple #[.int .u64 (hi_:Nat),.int .u64 (lo:Nat)])∧w=w'):=Lib.hid (fun w=>by rw [hhi,hlo];exact mul64_any hxv hyv w)
     have hloL:Lm lo:=by rw [hlo];exact Nat.mod_lt _ (by decide)
     obtain ⟨s1,hs1⟩:∃ s,s=addS lo c 0:=⟨_,rfl⟩
     obtain ⟨c1,hc1⟩:∃ s,s=addC lo c 0:=⟨_,rfl⟩
     have A1:=fun w=>add_run (c:=0) hloL hc (Nat.zero_le 1) w
     rw [← hs1,← hc1] at A1
     obtain ⟨h2,hh2⟩:∃ h:Nat,(h:Int)=((hi_:Int)+c1) % 18446744073709551616:=⟨(((hi_:Int)+c1) % 18446744073709551616).toNat,by omega⟩
     have W1:IntKind.u64.wrap ((hi_:Int)+(c1:Int))=(h2:Int):=by rw [u64_wrap,hh2]
     obtain ⟨o2,ho2⟩:∃ s,s=addS ov s1 0:=⟨_,rfl⟩
     obtain ⟨c2,hc2⟩:∃ s,s=addC ov s1 0:=⟨_,rfl⟩
     have hs1L:Lm s1:=by rw [hs1];exact addS_lt _ _ _
     have A2:=fun w=>add_run (c:=0) hovL hs1L (Nat.zero_le 1) w
     rw [← ho2,← hc2] at A2
     have ho2L:Lm o2:=by rw [ho2];exact addS_lt _ _ _
     obtain ⟨c',hc'⟩:∃ h:Nat,(h:Int)=((h2:Int)+c2) % 18446744073709551616:=⟨(((h2:Int)+c2) % 18446744073709551616).toNat,by omega⟩
     have W2:IntKind.u64.wrap ((h2:Int)+(c2:Int))=(c':Int):=by rw [u64_wrap,hc']
     have hc'L:Lm c':=by unfold Lm;omega
     have HE:Hid (o2+18446744073709551616 * c'=ov+c+x * y):=Lib.hid (limb_step hxv hyv hc hovL hhi hlo hs1 hc1 hh2 ho2 hc2 hc')
     clear hhi hlo hs1 hc1 hh2 ho2 hc2 hc'
     have HV':=Lib.hid hV'.out
     have HZ':=Lib.hid hZ'.out
     clear hV' hZ' hV hZ
     simp only [Int.natCast_zero,Int.cast_ofNat_Int] at A1 A2
     have hw1:IntKind.i64.wrap ((i:Int)+k)=(i:Int)+k:=IntWalk.i64_in _ (by omega)
     go_wp2_with fail
     refine (HM.out _).mono ?_
     rintro e w' ⟨rfl,rfl⟩
     go_wp2
     go_roundw
     case rel=>exact ⟨k+1,c',o'.set (i+k) o2,by go_num,by omega,rfl,hc'L,hX'.set (i+k) o2 ho2L,⟨inner_end hkl HOV.out HV'.out HE.out hk HY.out⟩,⟨zero_set HZ'.out (by omega)⟩⟩
     case measure=>simp [intOf];omega
    ·obtain rfl:k=4:=by omega
     have co:=hX'.xo.at (i+4) (by rw [hX'.len];omega)
     have fo:=hX'.xo.fr (i+4)
     have hz:=Lib.hid (hZ'.out (i+4) (by omega))
     obtain ⟨ov,hov⟩:∃ ov,ov=o'.getD (i+4) 0:=⟨_,rfl⟩
     rw [← hov] at co
     have HOV:=Lib.hid hov
     clear hov
     have HV':=Lib.hid hV'.out
     have HZ':=Lib.hid hZ'.out
     have HV:=Lib.hid hV.out
     clear hV' hZ' hV hZ
     go_wp2
     go_roundw
     case rel=>exact ⟨i+1,o'.set (i+4) c,by go_num,by omega,hX'.set (i+4) c hc,⟨row_end (by rw [hX'.len];omega) hz.out HV'.out HV0.out HV.out hi HX.out⟩,⟨zero_set' HZ'.out⟩⟩
     case measure=>simp [intOf];omega
  ·obtain rfl:i=4:=by omega
   obtain ⟨o0,o1,o2,o3,o4,o5,o6,o7,rfl⟩:=list8 hX.len
   obtain ⟨j0,j1,j2,j3,j4⟩:=hX.xa.cells
   obtain ⟨m0,m1,m2,m3,m4⟩:=hX.xb.cells
   have k0:=hX.xo.at 0 (by simp)
   have k1:=hX.xo.at 1 (by simp)
   have k2:=hX.xo.at 2 (by simp)
   have k3:=hX.xo.at 3 (by simp)
   have k4:=hX.xo.at 4 (by simp)
   have k5:=hX.xo.at 5 (by simp)
   have k6:=hX.xo.at 6 (by simp)
   have k7:=hX.xo.at 7 (by simp)
   simp only [List.getD_cons_zero,List.getD_cons_succ] at k0 k1 k2 k3 k4 k5 k6 k7
   have HV:=Lib.hid hV.out
   clear hV hZ
   have hat:∀ W,(Instr.arrayAt 94 (.slice (some ⟨w.heap.size+1+1+1,0,none⟩) 4 8)).run Tryz.prog W = .ok (.pointer (some ⟨w.heap.size+1+1+1,0,none⟩)) W:=fun W=>by kernel_rfl
   obtain ⟨zz,hzz⟩:∃ zz,(Go.bits .or .u64 (Go.bits .or .u64 (Go.bits .or .u64 (o4:Int) (o5:Int)) (o6:Int)) (o7:Int)==0)=zz:=⟨_,rfl⟩
   have HZZ:=Lib.hid (or_none (hX.dig o4 (by simp)) (hX.dig o5 (by simp)) (hX.dig o6 (by simp)) (hX.dig o7 (by simp)) hzz)
   obtain ⟨sg,hsg⟩:∃ sg,(!(ma==mb))=sg:=⟨_,rfl⟩
   have hE:MulE w wr ma mb x0 x1 x2 x3 y0 y1 y2 y3 [o0,o1,o2,o3,o4,o5,o6,o7]:=⟨hX.hb,hX.xa,hX.xb,⟨_,_,_,_,_,hX.xr⟩,hX.xo⟩
   go_wp2
   go_region_held3 (fun w'=>w'.cell? ⟨w.heap.size,0,none⟩=some (.bool ma)∧w'.cell? ⟨w.heap.size+1,0,none⟩=some (.bool mb)∧w'.cell? ⟨w.heap.size+1+1+1,0,none⟩=some (.int .u64 o0)∧w'.cell? ⟨w.heap.size+1+1+1,1,none⟩=some (.int .u64 o1)∧w'.cell? ⟨w.heap.size+1+1+1,2,none⟩=some (.int .u64 o2)∧w'.cell? ⟨w.heap.size+1+1+1,3,none⟩=some (.int .u64 o3)∧w'.cell? ⟨w.heap.size+1+1+1,4,none⟩=some (.int .u64 o4)∧w'.cell? ⟨w.heap.size+1+1+1,5,none⟩=some (.int .u64 o5)∧w'.cell? ⟨w.heap.size+1+1+1,6,none⟩=some (.int .u64 o6)∧w'.cell? ⟨w.heap.size+1+1+1,7,none⟩=some (.int .u64 o7)∧MulE w w' ma mb x0 x1 x2 x3 y0 y1 y2 y3 [o0,o1,o2,o3,o4,o5,o6,o7]) (first|exact mul_keep (by assumption) hB7|exact mul_keep (by assumption) (below_drew (Below.refl _ _))|exact mul_keep0 (hE.later (below_drew (Below.refl _ _)))|exact mul_keep0 (hM.stored _ _ _ _ _)|go_keep) (first|(go_at_call 97;refine (of_any _ _ _ _ _ _).mono ?_;rintro e w7 ⟨rfl,hB7⟩;have hM:=(mul_keep (hb:=hB7) (ma:=ma) (mb:=mb) (x0:=x0) (x1:=x1) (x2:=x2) (x3:=x3) (y0:=y0) (y1:=y1) (y2:=y2) (y3:=y3) (o0:=o0) (o1:=o1) (o2:=o2) (o3:=o3) (o4:=o4) (o5:=o5) (o6:=o6) (o7:=o7) (w:=w) (by assumption)).2.2.2.2.2.2.2.2.2.2;obtain ⟨r_,a_,b_,c_,d_,hr_⟩:=hM.xr;obtain ⟨g0,g1,g2,g3,g4⟩:=hr_.cells;have f0:=hr_.fr 0;have f1:=hr_.fr 1;have f2:=hr_.fr 2;have f3:=hr_.fr 3;have f4:=hr_.fr 4))
   go_wp2
   have hfin:=hr_.setAll (sg && !noneB o0 o1 o2 o3) o0 o1 o2 o3
   have hbel:=(hM.stored (sg && !noneB o0 o1 o2 o3) o0 o1 o2 o3).hb
   refine bodyPost_ret (v := .tuple #[.agg #[.bool (sg && !noneB o0 o1 o2 o3),.int .u64 o0,.int .u64 o1,.int .u64 o2,.int .u64 o3],.bool zz]) (results_ct (fn:=Tryz.f126) (p:=4) (u:=5) (ty:=96) rfl _ _ (w.heap.size+1+1) 96 _ (0,0) _ rfl hfin Tryz.underlying96 rfl (by kernel_rfl)) rfl ⟨o0,o1,o2,o3,o4,o5,o6,o7,?_,hX.dig,⟨HV.out⟩,hbel⟩
   rw [HZZ.out,← hsg]
   rfl
end Go.Proofs.YtkgagdjogedoiaaGreat

set_option linter.unusedVariables false
set_option linter.unusedSimpArgs false
namespace Go.Proofs.YtkgagdjogedoiaaGreat
open Go Go.Proofs Go.RowKit Go.Proofs.YtkgagdjogedoiaaGreatW.PrintWords

def spl0 (n:Int):Int:=n % 18446744073709551616
def spl1 (n:Int):Int:=n / 18446744073709551616 % 18446744073709551616
def spl2 (n:Int):Int:=n / 340282366920938463463374607431768211456 % 18446744073709551616
def spl3 (n:Int):Int:=n / 6277101735386680763835789423207666416102355444464034512896 % 18446744073709551616
theorem spl0_U (n:Int):U (spl0 n):=⟨Int.emod_nonneg _ (by decide),Int.emod_lt_of_pos _ (by decide)⟩
theorem spl1_U (n:Int):U (spl1 n):=⟨Int.emod_nonneg _ (by decide),Int.emod_lt_of_pos _ (by decide)⟩
theorem spl2_U (n:Int):U (spl2 n):=⟨Int.emod_nonneg _ (by decide),Int.emod_lt_of_pos _ (by decide)⟩
theorem spl3_U (n:Int):U (spl3 n):=⟨Int.emod_nonneg _ (by decide),Int.emod_lt_of_pos _ (by decide)⟩
theorem val4_spl {n:Int} (h0:0≤n) (h1:n < top4):val4 (spl0 n) (spl1 n) (spl2 n) (spl3 n)=n:=by
 unfold top4 at h1
 unfold val4 spl0 spl1 spl2 spl3
 omega
theorem spl_val4 {a b c d:Int} (ha:U a) (hb:U b) (hc:U c) (hd:U d):a=spl0 (val4 a b c d)∧b=spl1 (val4 a b c d)∧c=spl2 (val4 a b c d)∧d=spl3 (val4 a b c d):=by
 have h:=val4_bound ha hb hc hd
 exact val4_inj ha hb hc hd (spl0_U _) (spl1_U _) (spl2_U _) (spl3_U _) (val4_spl h.1 h.2).symm
theorem spl_eq {a b c d n:Int} (ha:U a) (hb:U b) (hc:U c) (hd:U d) (h:val4 a b c d=n):a=spl0 n∧b=spl1 n∧c=spl2 n∧d=spl3 n:=by
 subst h
 exact spl_val4 ha hb hc hd
def u4 (a b c d:Int):Bool:=decide (0≤a) && decide (a < 18446744073709551616) && decide (0≤b) && decide (b < 18446744073709551616) && decide (0≤c) && decide (c < 18446744073709551616) && decide (0≤d) && decide (d < 18446744073709551616)
theorem u4_iff {a b c d:Int}:u4 a b c d=true↔U a∧U b∧U c∧U d:=by
 unfold u4 U
 simp only [Bool.and_eq_true,decide_eq_true_eq]
 omega
theorem noneB_iff {a b c d:Int} (ha:U a) (hb:U b) (hc:U c) (hd:U d):noneB a b c d=decide (val4 a b c d=0):=by
 rw [Bool.eq_iff_iff,decide_eq_true_eq,val4_eq_zero ha hb hc hd]
 unfold noneB
 simp
def wide_plus_f (a0_0 a0_1 a0_2 a0_3 a1_0 a1_1 a1_2 a1_3:Int):Option (Int × Int × Int × Int × Bool) :=
 if u4 a0_0 a0_1 a0_2 a0_3=true∧u4 a1_0 a1_1 a1_2 a1_3=true then some (spl0 ((val4 a0_0 a0_1 a0_2 a0_3+val4 a1_0 a1_1 a1_2 a1_3) % top4),spl1 ((val4 a0_0 a0_1 a0_2 a0_3+val4 a1_0 a1_1 a1_2 a1_3) % top4),spl2 ((val4 a0_0 a0_1 a0_2 a0_3+val4 a1_0 a1_1 a1_2 a1_3) % top4),spl3 ((val4 a0_0 a0_1 a0_2 a0_3+val4 a1_0 a1_1 a1_2 a1_3) % top4),decide (val4 a0_0 a0_1 a0_2 a0_3+val4 a1_0 a1_1 a1_2 a1_3 < top4)) else none
theorem wide_plus_c (a0_0 a0_1 a0_2 a0_3 a1_0 a1_1 a1_2 a1_3:Int) (r1 r2 r3 r4:Int) (r5:Bool) (w:World) (h:wide_plus_f a0_0 a0_1 a0_2 a0_3 a1_0 a1_1 a1_2 a1_3=some (r1,r2,r3,r4,r5)) :
  Calls Tryz.prog 147 #[.agg #[.int .u64 a0_0,.int .u64 a0_1,.int .u64 a0_2,.int .u64 a0_3],.agg #[.int .u64 a1_0,.int .u64 a1_1,.int .u64 a1_2,.int .u64 a1_3]] w fun e w'=>e = .returned (.tuple #[.agg #[.int .u64 r1,.int .u64 r2,.int .u64 r3,.int .u64 r4],.bool r5])∧Below w.heap.size w w':=by
 unfold wide_plus_f at h
 split at h
 ·rename_i hc
  simp only [Option.some.injEq,Prod.mk.injEq] at h
  obtain ⟨rfl,rfl,rfl,rfl,rfl⟩:=h
  obtain ⟨h1,h2,h3,h4⟩:=u4_iff.1 hc.1
  obtain ⟨k1,k2,k3,k4⟩:=u4_iff.1 hc.2
  refine (plus_any h1 h2 h3 h4 k1 k2 k3 k4 w).mono ?_
  rintro e w' ⟨s0,s1,s2,s3,rfl,u0,u1,u2,u3,hv,hb⟩
  obtain ⟨rfl,rfl,rfl,rfl⟩:=spl_eq u0 u1 u2 u3 hv
  exact ⟨rfl,hb⟩
 ·cases h
def wide_less_f (a0_0 a0_1 a0_2 a0_3 a1_0 a1_1 a1_2 a1_3:Int):Option (Int × Int × Int × Int) :=
 if u4 a0_0 a0_1 a0_2 a0_3=true∧u4 a1_0 a1_1 a1_2 a1_3=true then some (spl0 ((val4 a0_0 a0_1 a0_2 a0_3 - val4 a1_0 a1_1 a1_2 a1_3) % top4),spl1 ((val4 a0_0 a0_1 a0_2 a0_3 - val4 a1_0 a1_1 a1_2 a1_3) % top4),spl2 ((val4 a0_0 a0_1 a0_2 a0_3 - val4 a1_0 a1_1 a1_2 a1_3) % top4),spl3 ((val4 a0_0 a0_1 a0_2 a0_3 - val4 a1_0 a1_1 a1_2 a1_3) % top4)) else none
theorem wide_less_c (a0_0 a0_1 a0_2 a0_3 a1_0 a1_1 a1_2 a1_3:Int) (r1 r2 r3 r4:Int) (w:World) (h:wide_less_f a0_0 a0_1 a0_2 a0_3 a1_0 a1_1 a1_2 a1_3=some (r1,r2,r3,r4)) :
  Calls Tryz.prog 148 #[.agg #[.int .u64 a0_0,.int .u64 a0_1,.int .u64 a0_2,.int .u64 a0_3],.agg #[.int .u64 a1_0,.int .u64 a1_1,.int .u64 a1_2,.int .u64 a1_3]] w fun e w'=>e = .returned (.agg #[.int .u64 r1,.int .u64 r2,.int .u64 r3,.int .u64 r4])∧Below w.heap.size w w':=by
 unfold wide_less_f at h
 split at h
 ·rename_i hc
  simp only [Option.some.injEq,Prod.mk.injEq] at h
  obtain ⟨rfl,rfl,rfl,rfl⟩:=h
  obtain ⟨h1,h2,h3,h4⟩:=u4_iff.1 hc.1
  obtain ⟨k1,k2,k3,k4⟩:=u4_iff.1 hc.2
  refine (less_any h1 h2 h3 h4 k1 k2 k3 k4 w).mono ?_
  rintro e w' ⟨s0,s1,s2,s3,rfl,u0,u1,u2,u3,hv,hb⟩
  obtain ⟨rfl,rfl,rfl,rfl⟩:=spl_eq u0 u1 u2 u3 hv
  exact ⟨rfl,hb⟩
 ·cases h
def wide_size_f (a0_0 a0_1 a0_2 a0_3 a1_0 a1_1 a1_2 a1_3:Int):Option Int :=
 if u4 a0_0 a0_1 a0_2 a0_3=true∧u4 a1_0 a1_1 a1_2 a1_3=true then some (cmpI (val4 a0_0 a0_1 a0_2 a0_3) (val4 a1_0 a1_1 a1_2 a1_3)) else none
theorem wide_size_c (a0_0 a0_1 a0_2 a0_3 a1_0 a1_1 a1_2 a1_3:Int) (r:Int) (w:World) (h:wide_size_f a0_0 a0_1 a0_2 a0_3 a1_0 a1_1 a1_2 a1_3=some r) :
  Calls Tryz.prog 93 #[.agg #[.int .u64 a0_0,.int .u64 a0_1,.int .u64 a0_2,.int .u64 a0_3],.agg #[.int .u64 a1_0,.int .u64 a1_1,.int .u64 a1_2,.int .u64 a1_3]] w fun e w'=>e = .returned (.int .i64 r)∧Below w.heap.size w w':=by
 unfold wide_size_f at h
 split at h
 ·rename_i hc
  simp only [Option.some.injEq] at h
  subst h
  obtain ⟨h1,h2,h3,h4⟩:=u4_iff.1 hc.1
  obtain ⟨k1,k2,k3,k4⟩:=u4_iff.1 hc.2
  exact size_any h1 h2 h3 h4 k1 k2 k3 k4 w
 ·cases h
def wide_mul_f (a0_0:Bool) (a0_1 a0_2 a0_3 a0_4:Int) (a1_0:Bool) (a1_1 a1_2 a1_3 a1_4:Int):Option (Bool × Int × Int × Int × Int × Bool) :=
 if u4 a0_1 a0_2 a0_3 a0_4=true∧u4 a1_1 a1_2 a1_3 a1_4=true then some ((!(a0_0==a1_0)) && !decide ((val4 a0_1 a0_2 a0_3 a0_4 * val4 a1_1 a1_2 a1_3 a1_4) % top4=0),spl0 ((val4 a0_1 a0_2 a0_3 a0_4 * val4 a1_1 a1_2 a1_3 a1_4) % top4),spl1 ((val4 a0_1 a0_2 a0_3 a0_4 * val4 a1_1 a1_2 a1_3 a1_4) % top4),spl2 ((val4 a0_1 a0_2 a0_3 a0_4 * val4 a1_1 a1_2 a1_3 a1_4) % top4),spl3 ((val4 a0_1 a0_2 a0_3 a0_4 * val4 a1_1 a1_2 a1_3 a1_4) % top4),decide (val4 a0_1 a0_2 a0_3 a0_4 * val4 a1_1 a1_2 a1_3 a1_4 < top4)) else none
theorem V8 (o0 o1 o2 o3 o4 o5 o6 o7:Nat):((V64 [o0,o1,o2,o3,o4,o5,o6,o7]:Nat):Int)=val4 o0 o1 o2 o3+top4 * val4 o4 o5 o6 o7:=by
 simp only [V64]
 unfold val4 top4
 omega
theorem V4 (o0 o1 o2 o3:Nat):((V64 [o0,o1,o2,o3]:Nat):Int)=val4 o0 o1 o2 o3:=by
 simp only [V64]
 unfold val4
 omega
theorem wide_mul_c (a0_0:Bool) (a0_1 a0_2 a0_3 a0_4:Int) (a1_0:Bool) (a1_1 a1_2 a1_3 a1_4:Int) (r1:Bool) (r2 r3 r4 r5:Int) (r6:Bool) (w:World) (h:wide_mul_f a0_0 a0_1 a0_2 a0_3 a0_4 a1_0 a1_1 a1_2 a1_3 a1_4=some (r1,r2,r3,r4,r5,r6)) :
  Calls Tryz.prog 126 #[.agg #[.bool a0_0,.int .u64 a0_1,.int .u64 a0_2,.int .u64 a0_3,.int .u64 a0_4],.agg #[.bool a1_0,.int .u64 a1_1,.int .u64 a1_2,.int .u64 a1_3,.int .u64 a1_4]] w fun e w'=>e = .returned (.tuple #[.agg #[.bool r1,.int .u64 r2,.int .u64 r3,.int .u64 r4,.int .u64 r5],.bool r6])∧Below w.heap.size w w':=by
 unfold wide_mul_f at h
 split at h
 ·rename_i hc
  simp only [Option.some.injEq,Prod.mk.injEq] at h
  obtain ⟨rfl,rfl,rfl,rfl,rfl,rfl⟩:=h
  obtain ⟨h1,h2,h3,h4⟩:=u4_iff.1 hc.1
  obtain ⟨k1,k2,k3,k4⟩:=u4_iff.1 hc.2
  obtain ⟨x0,rfl,l0⟩:=U_nat h1
  obtain ⟨x1,rfl,l1⟩:=U_nat h2
  obtain ⟨x2,rfl,l2⟩:=U_nat h3
  obtain ⟨x3,rfl,l3⟩:=U_nat h4
  obtain ⟨y0,rfl,m0⟩:=U_nat k1
  obtain ⟨y1,rfl,m1⟩:=U_nat k2
  obtain ⟨y2,rfl,m2⟩:=U_nat k3
  obtain ⟨y3,rfl,m3⟩:=U_nat k4
  refine (mul_walk a0_0 a1_0 l0 l1 l2 l3 m0 m1 m2 m3 w).mono ?_
  rintro e w' ⟨o0,o1,o2,o3,o4,o5,o6,o7,rfl,hd,⟨hv⟩,hb⟩
  have u:=fun n (hn:n∈[o0,o1,o2,o3,o4,o5,o6,o7])=>Lm_U (hd n hn)
  have u0:=u o0 (by simp)
  have u1:=u o1 (by simp)
  have u2:=u o2 (by simp)
  have u3:=u o3 (by simp)
  have u4:=u o4 (by simp)
  have u5:=u o5 (by simp)
  have u6:=u o6 (by simp)
  have u7:=u o7 (by simp)
  have hv2:val4 o0 o1 o2 o3+top4 * val4 o4 o5 o6 o7=val4 x0 x1 x2 x3 * val4 y0 y1 y2 y3:=by
   rw [← V8,← V4,← V4,hv]
   exact Int.natCast_mul _ _
  have b1:=val4_bound u0 u1 u2 u3
  have b2:=val4_bound u4 u5 u6 u7
  have hlo:val4 o0 o1 o2 o3=(val4 x0 x1 x2 x3 * val4 y0 y1 y2 y3) % top4:=by
   rw [← hv2,Int.add_mul_emod_self_left,Int.emod_eq_of_lt b1.1 b1.2]
  have hhi:noneB o4 o5 o6 o7=decide (val4 x0 x1 x2 x3 * val4 y0 y1 y2 y3 < top4):=by
   rw [noneB_iff u4 u5 u6 u7,Bool.eq_iff_iff,decide_eq_true_eq,decide_eq_true_eq,← hv2]
   unfold top4 at *
   omega
  rw [noneB_iff u0 u1 u2 u3,hlo,hhi,bne]
  obtain ⟨e0,e1,e2,e3⟩:=spl_eq u0 u1 u2 u3 hlo
  rw [← e0,← e1,← e2,← e3]
  exact ⟨rfl,hb⟩
 ·cases h
def bits_Mul64_f (a0 a1:Int):Option (Int × Int):=if 0≤a0∧a0 < 18446744073709551616∧0≤a1∧a1 < 18446744073709551616 then some (a0 * a1 / 18446744073709551616,a0 * a1 % 18446744073709551616) else none
theorem bits_Mul64_c (a0 a1 r1 r2:Int) (w:World) (h:bits_Mul64_f a0 a1=some (r1,r2)) :
  Calls Tryz.prog 101 #[.int .u64 a0,.int .u64 a1] w fun e w'=>e = .returned (.tuple #[.int .u64 r1,.int .u64 r2])∧Drawn0 w w':=by
 unfold bits_Mul64_f at h
 split at h
 ·rename_i hc
  simp only [Option.some.injEq,Prod.mk.injEq] at h
  obtain ⟨rfl,rfl⟩:=h
  obtain ⟨x,rfl,hx⟩:=U_nat ⟨hc.1,hc.2.1⟩
  obtain ⟨y,rfl,hy⟩:=U_nat ⟨hc.2.2.1,hc.2.2.2⟩
  refine (mul64_any hx hy w).mono ?_
  rintro e w' ⟨rfl,rfl⟩
  refine ⟨?_,Drawn0.refl _⟩
  rw [← Int.natCast_mul]
  rfl
 ·cases h
end Go.Proofs.YtkgagdjogedoiaaGreat

set_option linter.unusedVariables false
set_option linter.unusedSimpArgs false
namespace Go.Proofs.YtkgagdjogedoiaaGreat
open Go Go.Proofs Go.RowKit Go.Shelf Go.Proofs.YtkgagdjogedoiaaGreatW.PrintWords

theorem Box5.set {W:World} {B:Nat} {m:Bool} {a b c d:Nat} (h:Box5 W B m a b c d) (i v:Nat) (hi:i < 4):Box5 (W.setCell ⟨B,1+i,none⟩ (.int .u64 (v:Nat))) B m (if 0=i then v else a) (if 1=i then v else b) (if 2=i then v else c) (if 3=i then v else d):=by
 have h1:=blk_set h (1+i) (.int .u64 (v:Nat))
 obtain rfl|rfl|rfl|rfl:i=0∨i=1∨i=2∨i=3:=by omega
 all_goals exact h1
theorem Box5.at {W:World} {B:Nat} {m:Bool} {a b c d:Nat} (h:Box5 W B m a b c d) (i:Nat) (hi:i < 4):W.cell? ⟨B,1+i,none⟩=some (.int .u64 ([a,b,c,d].getD i 0:Nat)):=by
 obtain rfl|rfl|rfl|rfl:i=0∨i=1∨i=2∨i=3:=by omega
 ·exact h.cells.2.1
 ·exact h.cells.2.2.1
 ·exact h.cells.2.2.2.1
 ·exact h.cells.2.2.2.2
end Go.Proofs.YtkgagdjogedoiaaGreat


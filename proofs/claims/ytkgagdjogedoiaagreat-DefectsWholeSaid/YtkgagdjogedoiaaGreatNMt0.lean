/- Words of the printed walks, and given functions. -/
import Derived.Test.YtkgagdjogedoiaaGreatProg
import Derived.Below
import Derived.Deep.Draws
import Derived.Deep.AppendLies
import Derived.Maps.AppendAt
import Derived.OwnWalk
import Derived.Laws.BytesArg
import Derived.Laws.MakeOwn
import Derived.Laws.OwnMore
import Derived.Deep.OwnRows
import Derived.Tactics
import Derived.Lib.ConvBytes
import Derived.Laws.Slices
import Derived.WalkKit
import Derived.KernelRfl
import Derived.RowKit3
import Derived.Deep.LoopGhost
import Derived.Deep.QuietTactic
import Derived.BigQuiet
import Derived.WideLaws
import Derived.Deep.DeepCutAuto
import Derived.Deep.CutBlock
import Derived.Deep.RegionHeld3
import Derived.Laws.Rows
import Derived.Lib.AppendStr
import Derived.ArgAppend
import Derived.Laws.IdiomCopy
import Derived.OrdersHeld
import Derived.Laws.BitsLemmas
import Derived.RowKit
import Derived.Test.YtkgagdjogedoiaaGreatNLimb
import Derived.Test.YtkgagdjogedoiaaGreatV
namespace Go.Proofs.YtkgagdjogedoiaaGreat.MT
open Go.RowKit Go.Proofs.YtkgagdjogedoiaaGreatW.PrintWords Go.Proofs.YtkgagdjogedoiaaGreatW.PrintLast Go.Proofs.YtkgagdjogedoiaaGreatW.PrintMore
attribute [local go_sem] max2_int min2_int max_two min_two max_three min_three max_four min_four   -- for this text's walks alone
set_option linter.unusedVariables false
set_option linter.unusedSimpArgs false



def errW:Option Int→Value
 | none => .nilIface
 | some c => .iface 0 (.int .i64 c)
theorem errW_none:errW none = .nilIface:=rfl
theorem errW_some (c:Int):errW (some c) = .iface 0 (.int .i64 c):=rfl

theorem info3:(Tryz.prog.info? 3).map (fun i=>(i.zero,i.size,i.bytes))=some (some (.int .i64 0),1,8):=by kernel_rfl
/-! #### struct type 25 -/
structure S25 where
 f0:Int
 f1:Int
 f2:Int
 f3:Int
def z25:S25:=⟨(0:Int),(0:Int),(0:Int),(0:Int)⟩
def k25:Kd S25:=Kd.iso (Kd.pair (Kd.int .u64) (Kd.pair (Kd.int .u64) (Kd.pair (Kd.int .u64) (Kd.int .u64)))) (fun x:S25=>(x.f0,x.f1,x.f2,x.f3))
theorem k25_open {w:World} {x:S25} {cs:List Value} (h:k25.K w x cs):cs=[.int .u64 x.f0,.int .u64 x.f1,.int .u64 x.f2,.int .u64 x.f3]:=by
 obtain ⟨_,_,rfl,rfl,⟨_,_,rfl,rfl,⟨_,_,rfl,rfl,rfl⟩⟩⟩:=h
 exact rfl
theorem k25_mk (w:World) (x:S25)  : k25.K w x [.int .u64 x.f0,.int .u64 x.f1,.int .u64 x.f2,.int .u64 x.f3]:=⟨[.int .u64 x.f0],[.int .u64 x.f1,.int .u64 x.f2,.int .u64 x.f3],rfl,rfl,⟨[.int .u64 x.f1],[.int .u64 x.f2,.int .u64 x.f3],rfl,rfl,⟨[.int .u64 x.f2],[.int .u64 x.f3],rfl,rfl,rfl⟩⟩⟩
/-! #### struct type 27 -/
structure S27 where
 f0:Bool
 f1:S25
def z27:S27:=⟨false,z25⟩
def k27:Kd S27:=Kd.iso (Kd.pair Kd.bool k25) (fun x:S27=>(x.f0,x.f1))
theorem k27_open {w:World} {x:S27} {cs:List Value} (h:k27.K w x cs):cs=[.bool x.f0,.int .u64 x.f1.f0,.int .u64 x.f1.f1,.int .u64 x.f1.f2,.int .u64 x.f1.f3]:=by
 obtain ⟨_,_,rfl,rfl,s1⟩:=h
 obtain rfl:=k25_open s1
 exact rfl
theorem k27_mk (w:World) (x:S27)  : k27.K w x [.bool x.f0,.int .u64 x.f1.f0,.int .u64 x.f1.f1,.int .u64 x.f1.f2,.int .u64 x.f1.f3]:=⟨[.bool x.f0],[.int .u64 x.f1.f0,.int .u64 x.f1.f1,.int .u64 x.f1.f2,.int .u64 x.f1.f3],rfl,rfl,(k25_mk w x.f1 )⟩
def rd_T27 (xs:List S27) (i:Int):S27:=xs.getD i.toNat z27
theorem at_T27 {w:World} {A:Option Addr} {n:Nat} {xs:List S27} (h:Kd.C k27 w A n xs) (i:Int) (h0:0≤i) (h1:i < n):∃ ad , A=some ad∧w.cell? (ad.add (i.toNat * 5))=some (.bool (rd_T27 xs i).f0)∧w.cell? ⟨(ad.add (i.toNat * 5)).block,(ad.add (i.toNat * 5)).off+1,none⟩=some (.int .u64 (rd_T27 xs i).f1.f0)∧w.cell? ⟨(ad.add (i.toNat * 5)).block,(ad.add (i.toNat * 5)).off+2,none⟩=some (.int .u64 (rd_T27 xs i).f1.f1)∧w.cell? ⟨(ad.add (i.toNat * 5)).block,(ad.add (i.toNat * 5)).off+3,none⟩=some (.int .u64 (rd_T27 xs i).f1.f2)∧w.cell? ⟨(ad.add (i.toNat * 5)).block,(ad.add (i.toNat * 5)).off+4,none⟩=some (.int .u64 (rd_T27 xs i).f1.f3):=by
 obtain ⟨ad,c,e,_,hK,hc0⟩:=Kd.C_get h z27 i h0 h1
 have hc:∀ j u,c[j]?=some u→w.cell? (ad.add (i.toNat * 5+j))=some u:=hc0
 obtain rfl:=k27_open hK
 exact ⟨ad,e,hc 0 _ rfl,by rw [← add_field _ _ 1 (by omega)];exact hc 1 _ rfl,by rw [← add_field _ _ 2 (by omega)];exact hc 2 _ rfl,by rw [← add_field _ _ 3 (by omega)];exact hc 3 _ rfl,by rw [← add_field _ _ 4 (by omega)];exact hc 4 _ rfl⟩

structure Ltr (W W':World):Prop where
  blk:∀ (g:Nat) (o:Obj),W.heap[g]?=some o→W'.heap[g]?=some o
  sz:W.heap.size≤W'.heap.size
instance ltr_refl (W:World):Nonempty (Ltr W W):=⟨⟨fun _ _ h=>h,Nat.le_refl _⟩⟩
instance ltr_drew (W W':World) [h:Nonempty (Ltr W W')]:Nonempty (Ltr W W'.drew):=⟨⟨fun g o x=>let ⟨k⟩:=h;k.blk g o x,let ⟨k⟩:=h;k.sz⟩⟩
instance ltr_drewN (W W':World) (n:Nat) [h:Nonempty (Ltr W W')]:Nonempty (Ltr W (W'.drewN n)):=⟨⟨fun g o x=>let ⟨k⟩:=h;k.blk g o x,let ⟨k⟩:=h;k.sz⟩⟩
instance ltr_alloc (W W':World) (q:Obj) [h:Nonempty (Ltr W W')]:Nonempty (Ltr W (W'.alloc q)):=⟨⟨fun g o x=>let ⟨k⟩:=h;blk_alloc (k.blk g o x) q,let ⟨k⟩:=h;Nat.le_trans k.sz (below_alloc (Below.refl _ _) q).size⟩⟩
structure Szl (W W':World):Prop where
  sz:W.heap.size≤W'.heap.size
instance szl_refl (W:World):Nonempty (Szl W W):=⟨⟨Nat.le_refl _⟩⟩
instance szl_drew (W W':World) [h:Nonempty (Szl W W')]:Nonempty (Szl W W'.drew):=⟨⟨let ⟨k⟩:=h;k.sz⟩⟩
instance szl_drewN (W W':World) (n:Nat) [h:Nonempty (Szl W W')]:Nonempty (Szl W (W'.drewN n)):=⟨⟨let ⟨k⟩:=h;k.sz⟩⟩
instance szl_alloc (W W':World) (q:Obj) [h:Nonempty (Szl W W')]:Nonempty (Szl W (W'.alloc q)):=⟨⟨let ⟨k⟩:=h;Nat.le_trans k.sz (below_alloc (Below.refl _ _) q).size⟩⟩
instance szl_set (W W':World) (p:Addr) (v:Value) [h:Nonempty (Szl W W')]:Nonempty (Szl W (W'.setCell p v)):=⟨⟨let ⟨k⟩:=h;Nat.le_trans k.sz (by simp [World.setCell])⟩⟩
theorem lb {W W':World} {g:Nat} {o:Obj} [l:Nonempty (Ltr W W')] (h:W.heap[g]?=some o):W'.heap[g]?=some o:=let ⟨k⟩:=l;k.blk g o h
theorem bb {W W' w2:World} {g:Nat} {o:Obj} [l:Nonempty (Ltr W W')] (h:Aside0 (W.heap[g]?=some o)) (hb:Below W'.heap.size W' w2):Aside0 (w2.heap[g]?=some o):=⟨blk_below (lb h.out) hb⟩
theorem bnl {W W':World} {g g':Nat} {o:Obj} [l:Nonempty (Ltr W W')] (h:Aside0 (W.heap[g]?=some o)) (hg:g'=W'.heap.size):Aside0 (g≠g'):=⟨by rw [hg];exact Nat.ne_of_lt (blk_lt (w:=W') (lb h.out))⟩
theorem bng {W W':World} {g g':Nat} {o:Obj} [l:Nonempty (Ltr W W')] (h:Aside0 (W.heap[g]?=some o)) (hg:g'=W'.heap.size):Aside0 (g'≠g):=⟨by rw [hg];exact Nat.ne_of_gt (blk_lt (w:=W') (lb h.out))⟩
theorem bgw {w W W':World} {g:Nat} [l:Nonempty (Szl W W')] (h:Aside0 (Below w.heap.size w W)) (hg:g=W'.heap.size):Aside0 (w.heap.size≤g):=⟨by obtain ⟨k⟩:=l;rw [hg];exact Nat.le_trans h.out.size k.sz⟩
theorem qa {w W:World} (h:Below w.heap.size w W) (o:Obj):Below w.heap.size w (W.alloc o):=below_alloc h o
theorem qn {B:Nat} {w W:World} (h:Below B w W) (n:Nat):Below B w (W.drewN n):=pw_below_drewN h n
theorem qd {base:Nat} {w W:World} (h:Below base w W):Below base w W.drew:=below_drew1 h
theorem qs {w W:World} {g j:Nat} {v:Value} (h:Below w.heap.size w W) (hg:w.heap.size≤g):Below w.heap.size w (W.setCell ⟨g,j,none⟩ v):=below_set h hg
theorem cn {w:World} {g:Nat} {o:Obj} (h:w.heap[g]?=some o) (n:Nat):(w.drewN n).heap[g]?=some o:=blk_drewN h n
theorem cd {w:World} {g:Nat} {o:Obj} (h:w.heap[g]?=some o):w.drew.heap[g]?=some o:=blk_drew h
theorem ca {w:World} {g:Nat} {o:Obj} (h:w.heap[g]?=some o) (o':Obj):(w.alloc o').heap[g]?=some o:=blk_alloc h o'
abbrev Tt:Bool:=true
abbrev Ff:Bool:=false
theorem cf5 {W:World} {g B i:Nat} {y0 y1 y2 y3 y4:Value} {x:Option Value} (hne:g≠B) (h:W.cell? ⟨g,i,none⟩=x):(((((W.setCell ⟨B,0,none⟩ y0).setCell ⟨B,1,none⟩ y1).setCell ⟨B,2,none⟩ y2).setCell ⟨B,3,none⟩ y3).setCell ⟨B,4,none⟩ y4).cell? ⟨g,i,none⟩=x:=(cell_far (p:=⟨B,4,none⟩) hne _).trans ((cell_far (p:=⟨B,3,none⟩) hne _).trans ((cell_far (p:=⟨B,2,none⟩) hne _).trans ((cell_far (p:=⟨B,1,none⟩) hne _).trans ((cell_far (p:=⟨B,0,none⟩) hne _).trans (h)))))
theorem bp5 {W:World} {g:Nat} {t:TypeId} {x0 x1 x2 x3 x4 y0 y1 y2 y3 y4:Value} (h:W.heap[g]?=some (.cells #[x0,x1,x2,x3,x4] t (0,0))):(((((W.setCell ⟨g,0,none⟩ y0).setCell ⟨g,1,none⟩ y1).setCell ⟨g,2,none⟩ y2).setCell ⟨g,3,none⟩ y3).setCell ⟨g,4,none⟩ y4).heap[g]?=some (.cells #[y0,y1,y2,y3,y4] t (0,0)):=(blk_put (blk_put (blk_put (blk_put (blk_put h 0 y0 rfl) 1 y1 rfl) 2 y2 rfl) 3 y3 rfl) 4 y4 rfl)
theorem cl5 {W:World} {g:Nat} {t:TypeId} {x0 x1 x2 x3 x4:Value} (h:W.heap[g]?=some (.cells #[x0,x1,x2,x3,x4] t (0,0))):W.cell? ⟨g,0,none⟩=some x0∧W.cell? ⟨g,1,none⟩=some x1∧W.cell? ⟨g,2,none⟩=some x2∧W.cell? ⟨g,3,none⟩=some x3∧W.cell? ⟨g,4,none⟩=some x4:=⟨(blk_cell h 0).trans rfl,(blk_cell h 1).trans rfl,(blk_cell h 2).trans rfl,(blk_cell h 3).trans rfl,(blk_cell h 4).trans rfl⟩
theorem fr5 {W:World} {g:Nat} {t:TypeId} {x0 x1 x2 x3 x4:Value} (h:W.heap[g]?=some (.cells #[x0,x1,x2,x3,x4] t (0,0))):W.frozen? ⟨g,0,none⟩=false∧W.frozen? ⟨g,1,none⟩=false∧W.frozen? ⟨g,2,none⟩=false∧W.frozen? ⟨g,3,none⟩=false∧W.frozen? ⟨g,4,none⟩=false:=⟨blk_frozen h 0,blk_frozen h 1,blk_frozen h 2,blk_frozen h 3,blk_frozen h 4⟩
theorem cl4 {W:World} {g:Nat} {t:TypeId} {x0 x1 x2 x3:Value} (h:W.heap[g]?=some (.cells #[x0,x1,x2,x3] t (0,0))):W.cell? ⟨g,0,none⟩=some x0∧W.cell? ⟨g,1,none⟩=some x1∧W.cell? ⟨g,2,none⟩=some x2∧W.cell? ⟨g,3,none⟩=some x3:=⟨(blk_cell h 0).trans rfl,(blk_cell h 1).trans rfl,(blk_cell h 2).trans rfl,(blk_cell h 3).trans rfl⟩
theorem fr4 {W:World} {g:Nat} {t:TypeId} {x0 x1 x2 x3:Value} (h:W.heap[g]?=some (.cells #[x0,x1,x2,x3] t (0,0))):W.frozen? ⟨g,0,none⟩=false∧W.frozen? ⟨g,1,none⟩=false∧W.frozen? ⟨g,2,none⟩=false∧W.frozen? ⟨g,3,none⟩=false:=⟨blk_frozen h 0,blk_frozen h 1,blk_frozen h 2,blk_frozen h 3⟩
theorem cl2 {W:World} {g:Nat} {t:TypeId} {x0 x1:Value} (h:W.heap[g]?=some (.cells #[x0,x1] t (0,0))):W.cell? ⟨g,0,none⟩=some x0∧W.cell? ⟨g,1,none⟩=some x1:=⟨(blk_cell h 0).trans rfl,(blk_cell h 1).trans rfl⟩
theorem fr2 {W:World} {g:Nat} {t:TypeId} {x0 x1:Value} (h:W.heap[g]?=some (.cells #[x0,x1] t (0,0))):W.frozen? ⟨g,0,none⟩=false∧W.frozen? ⟨g,1,none⟩=false:=⟨blk_frozen h 0,blk_frozen h 1⟩
theorem eqA25 (d:Nat) (w:World) (x0 y0:Int) (x1 y1:Int) (x2 y2:Int) (x3 y3:Int) :
  (Op.equalIn (d+2) 94 (.agg #[.int .u64 x0,.int .u64 x1,.int .u64 x2,.int .u64 x3]) (.agg #[.int .u64 y0,.int .u64 y1,.int .u64 y2,.int .u64 y3])).run Tryz.prog w = .ok (x0==y0 && (x1==y1 && (x2==y2 && (x3==y3)))) w:=by
 exact Go.Proofs.YtkgagdjogedoiaaGreat.eqA94 d w _ _ _ _ _ _ _ _


theorem eqA27 (d:Nat) (w:World) (x0 y0:Bool) (x1 y1:Int) (x2 y2:Int) (x3 y3:Int) (x4 y4:Int) :
  (Op.equalIn (d+3) 96 (.agg #[.bool x0,.int .u64 x1,.int .u64 x2,.int .u64 x3,.int .u64 x4]) (.agg #[.bool y0,.int .u64 y1,.int .u64 y2,.int .u64 y3,.int .u64 y4])).run Tryz.prog w = .ok (x0==y0 && ((x1==y1 && (x2==y2 && (x3==y3 && (x4==y4)))))) w:=by
 exact Go.Proofs.YtkgagdjogedoiaaGreat.eqA96 d w _ _ _ _ _ _ _ _ _ _

/-! ### wide_mul: given 66 -/
def wide_mul.f (a0_0:Bool) (a0_1 a0_2 a0_3 a0_4:Int) (a1_0:Bool) (a1_1 a1_2 a1_3 a1_4:Int):Option (Bool × Int × Int × Int × Int × Bool):=wide_mul_f a0_0 a0_1 a0_2 a0_3 a0_4 a1_0 a1_1 a1_2 a1_3 a1_4
theorem wide_mul.calls (a0_0:Bool) (a0_1 a0_2 a0_3 a0_4:Int) (a1_0:Bool) (a1_1 a1_2 a1_3 a1_4:Int) (r1:Bool) (r2 r3 r4 r5:Int) (r6:Bool) (w:World) (h:wide_mul.f a0_0 a0_1 a0_2 a0_3 a0_4 a1_0 a1_1 a1_2 a1_3 a1_4=some (r1,r2,r3,r4,r5,r6)) :
  Calls Tryz.prog 126 #[.agg #[.bool a0_0,.int .u64 a0_1,.int .u64 a0_2,.int .u64 a0_3,.int .u64 a0_4],.agg #[.bool a1_0,.int .u64 a1_1,.int .u64 a1_2,.int .u64 a1_3,.int .u64 a1_4]] w fun e w'=>e = .returned (.tuple #[.agg #[.bool r1,.int .u64 r2,.int .u64 r3,.int .u64 r4,.int .u64 r5],.bool r6])∧Below w.heap.size w w' :=
 wide_mul_c a0_0 a0_1 a0_2 a0_3 a0_4 a1_0 a1_1 a1_2 a1_3 a1_4 r1 r2 r3 r4 r5 r6 w h
/-! ### wide_plus: given 71 -/
def wide_plus.f (a0_0 a0_1 a0_2 a0_3 a1_0 a1_1 a1_2 a1_3:Int):Option (Int × Int × Int × Int × Bool):=wide_plus_f a0_0 a0_1 a0_2 a0_3 a1_0 a1_1 a1_2 a1_3
theorem wide_plus.calls (a0_0 a0_1 a0_2 a0_3 a1_0 a1_1 a1_2 a1_3:Int) (r1 r2 r3 r4:Int) (r5:Bool) (w:World) (h:wide_plus.f a0_0 a0_1 a0_2 a0_3 a1_0 a1_1 a1_2 a1_3=some (r1,r2,r3,r4,r5)) :
  Calls Tryz.prog 147 #[.agg #[.int .u64 a0_0,.int .u64 a0_1,.int .u64 a0_2,.int .u64 a0_3],.agg #[.int .u64 a1_0,.int .u64 a1_1,.int .u64 a1_2,.int .u64 a1_3]] w fun e w'=>e = .returned (.tuple #[.agg #[.int .u64 r1,.int .u64 r2,.int .u64 r3,.int .u64 r4],.bool r5])∧Below w.heap.size w w' :=
 wide_plus_c a0_0 a0_1 a0_2 a0_3 a1_0 a1_1 a1_2 a1_3 r1 r2 r3 r4 r5 w h
/-! ### wide_less: given 72 -/
def wide_less.f (a0_0 a0_1 a0_2 a0_3 a1_0 a1_1 a1_2 a1_3:Int):Option (Int × Int × Int × Int):=wide_less_f a0_0 a0_1 a0_2 a0_3 a1_0 a1_1 a1_2 a1_3
theorem wide_less.calls (a0_0 a0_1 a0_2 a0_3 a1_0 a1_1 a1_2 a1_3:Int) (r1 r2 r3 r4:Int) (w:World) (h:wide_less.f a0_0 a0_1 a0_2 a0_3 a1_0 a1_1 a1_2 a1_3=some (r1,r2,r3,r4)) :
  Calls Tryz.prog 148 #[.agg #[.int .u64 a0_0,.int .u64 a0_1,.int .u64 a0_2,.int .u64 a0_3],.agg #[.int .u64 a1_0,.int .u64 a1_1,.int .u64 a1_2,.int .u64 a1_3]] w fun e w'=>e = .returned (.agg #[.int .u64 r1,.int .u64 r2,.int .u64 r3,.int .u64 r4])∧Below w.heap.size w w' :=
 wide_less_c a0_0 a0_1 a0_2 a0_3 a1_0 a1_1 a1_2 a1_3 r1 r2 r3 r4 w h
/-! ### wide_size: given 78 -/
def wide_size.f (a0_0 a0_1 a0_2 a0_3 a1_0 a1_1 a1_2 a1_3:Int):Option Int:=wide_size_f a0_0 a0_1 a0_2 a0_3 a1_0 a1_1 a1_2 a1_3
theorem wide_size.calls (a0_0 a0_1 a0_2 a0_3 a1_0 a1_1 a1_2 a1_3:Int) (r:Int) (w:World) (h:wide_size.f a0_0 a0_1 a0_2 a0_3 a1_0 a1_1 a1_2 a1_3=some r) :
  Calls Tryz.prog 93 #[.agg #[.int .u64 a0_0,.int .u64 a0_1,.int .u64 a0_2,.int .u64 a0_3],.agg #[.int .u64 a1_0,.int .u64 a1_1,.int .u64 a1_2,.int .u64 a1_3]] w fun e w'=>e = .returned (.int .i64 r)∧Below w.heap.size w w' :=
 wide_size_c a0_0 a0_1 a0_2 a0_3 a1_0 a1_1 a1_2 a1_3 r w h
/-! ### parquetref01_digit: function 74 -/
def parquetref01_digit.f (l0:List Int) (a1:Int):Option (Int):=if a1 < (l0.length:Int) then (if 0≤a1 then (some (rd l0 a1)) else (none)) else (some 0)
set_option maxHeartbeats 8000000 in
set_option maxRecDepth 100000 in
theorem parquetref01_digit.calls (A0:Option Addr) (c0:Nat) (l0:List Int) (a1:Int) (r:Int) (w:World) (hr0:Kd.C (Kd.int .i64) w A0 l0.length l0) (hc0:l0.length≤c0) (h:parquetref01_digit.f l0 a1=some r) :
  Calls Tryz.prog 83 #[.slice A0 l0.length c0,.int .i64 a1] w fun e w'=>e = .returned (.int .i64 r)∧Drawn0 w w':=by
 have HR0:=Aside0.mk hr0
 have HC0:=Aside0.mk hc0
 clear hr0 hc0
 have H:(if a1 < (l0.length:Int) then (if 0≤a1 then (some (rd l0 a1)) else (none)) else (some 0))=some r:=h
 clear h
 by_cases c3:a1 < (l0.length:Int)
 rotate_left
 ·rw [if_neg c3] at H
  have c3b0:decide (a1 < (l0.length:Int))=false:=decide_eq_false c3
  clear c3
  obtain rfl:=Option.some.inj H
  go_enter Tryz.func83,Tryz.ntmps83
  go_wp2
  go_ret
  exact ⟨by first|rfl|(simp;done)|(simp [*];done),by repeat (first|exact Drawn0.refl _|apply Drawn0.step)⟩
 rw [if_pos c3] at H
 have c3b0:decide (a1 < (l0.length:Int))=true:=decide_eq_true c3
 clear c3
 by_cases c4:0≤a1
 rotate_left
 ·rw [if_neg c4] at H
  exact absurd H (by simp)
 rw [if_pos c4] at H
 have c4b0:decide (0≤a1)=true:=decide_eq_true c4
 clear c4
 obtain rfl:=Option.some.inj H
 have p285:0≤(a1:Int):=of_decide_eq_true (by first|(with_reducible assumption)|assumption)
 have q285:a1 < (l0.length:Int):=of_decide_eq_true (by first|(with_reducible assumption)|assumption)
 obtain ⟨ad285,e285,hx285_0⟩:=Kd.at_int HR0.out a1 p285 q285
 cases e285
 replace p285:=eq_true p285
 replace q285:=eq_true q285
 go_enter Tryz.func83,Tryz.ntmps83
 go_wp2
 go_ret
 exact ⟨by first|rfl|(simp;done)|(simp [*];done),by repeat (first|exact Drawn0.refl _|apply Drawn0.step)⟩
/-! ### cmp_isNaN_int: function 95 -/
def cmp_isNaN_int.f (a0:Int):Option (Bool):=some (a0 != a0)
set_option maxHeartbeats 8000000 in
set_option maxRecDepth 100000 in
theorem cmp_isNaN_int.calls (a0:Int) (r:Bool) (w:World) (h:cmp_isNaN_int.f a0=some r) :
  Calls Tryz.prog 113 #[.int .i64 a0] w fun e w'=>e = .returned (.bool r)∧Drawn0 w w':=by
 have H:(some (a0 != a0))=some r:=h
 clear h
 obtain rfl:=Option.some.inj H
 go_enter Tryz.func113,Tryz.ntmps113
 go_wp2
 go_ret
 exact ⟨by first|rfl|(simp;done)|(simp [*];done),by repeat (first|exact Drawn0.refl _|apply Drawn0.step)⟩
end Go.Proofs.YtkgagdjogedoiaaGreat.MT

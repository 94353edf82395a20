/- Functions of the wide package, printed: each a Lean function, its contract proved. -/
import Derived.Test.YtkgagdjogedoiaaGreatNMt0
namespace Go.Proofs.YtkgagdjogedoiaaGreat.MT
open Go.RowKit Go.Proofs.YtkgagdjogedoiaaGreatW.PrintWords Go.Proofs.YtkgagdjogedoiaaGreatW.PrintLast Go.Proofs.YtkgagdjogedoiaaGreatW.PrintMore
attribute [local go_sem] max2_int min2_int max_two min_two max_three min_three max_four min_four   -- for this text's walks alone
set_option linter.unusedVariables false
set_option linter.unusedSimpArgs false
attribute [local go_sem high] eqA25
/-! ### wide_none: function 69 -/
def wide_none.f (a0_0:Int) (a0_1:Int) (a0_2:Int) (a0_3:Int):Option (Bool):=some (a0_0==0 && (a0_1==0 && (a0_2==0 && (a0_3==0))))
set_option maxHeartbeats 8000000 in
set_option maxRecDepth 100000 in
theorem wide_none.calls (a0_0:Int) (a0_1:Int) (a0_2:Int) (a0_3:Int) (r:Bool) (w:World) (h:wide_none.f a0_0 a0_1 a0_2 a0_3=some r) :
  Calls Tryz.prog 95 #[.agg #[.int .u64 a0_0,.int .u64 a0_1,.int .u64 a0_2,.int .u64 a0_3]] w fun e w'=>e = .returned (.bool r)∧Below w.heap.size w w':=by
 have hu25:=Tryz.underlying94
 have HB:=Aside0.mk (Below.refl w.heap.size w)
 have H:(some (a0_0==0 && (a0_1==0 && (a0_2==0 && (a0_3==0)))))=some r:=h
 clear h
 obtain rfl:=Option.some.inj H
 go_enter Tryz.func95,Tryz.ntmps95
 go_wp2_with (first|((with_reducible refine gate_dst (N:=1) rfl ?_);refine box_event ?hg (N:=1) ?hd (cs:=#[.int .u64 a0_0,.int .u64 a0_1,.int .u64 a0_2,.int .u64 a0_3]) (t:=94) ?hr ?_;(case hd=>rfl);(case hg=>rfl);(case hr=>first|(go_simp;done)|(go_simp;rfl));intro gb101 hg w2 hbox hb;have n0_:=Aside0.mk (below_step (by repeat (first|(with_reducible first|exact HB.out|apply qa|apply qn|apply qd)|exact HB.out)) hb);have n1_:=Aside0.mk (hbox);have n2_:=bgw HB hg;have n3_:=bgw HB hg;clear HB;have HB:=n0_;have BK101:=n1_;have GW101:=n2_;have GE101:=n3_;clear n0_ n1_ n2_ n3_;clear hb hbox hg;obtain ⟨hcz3_0,hcz3_1,hcz3_2,hcz3_3⟩:=cl4 BK101.out;obtain ⟨hfz3_0,hfz3_1,hfz3_2,hfz3_3⟩:=fr4 BK101.out))
 go_ret
 exact ⟨by first|rfl|(simp [errW_none,errW_some]<;>rfl)|(simp [*,errW_none,errW_some]<;>rfl),by repeat (first|(with_reducible first|exact HB.out|apply qa|apply qn|apply qd|refine qs ?_ GE101.out)|exact HB.out)⟩
end Go.Proofs.YtkgagdjogedoiaaGreat.MT
namespace Go.Proofs.YtkgagdjogedoiaaGreat.MT
open Go.RowKit Go.Proofs.YtkgagdjogedoiaaGreatW.PrintWords Go.Proofs.YtkgagdjogedoiaaGreatW.PrintLast Go.Proofs.YtkgagdjogedoiaaGreatW.PrintMore
attribute [local go_sem] max2_int min2_int max_two min_two max_three min_three max_four min_four   -- for this text's walks alone
set_option linter.unusedVariables false
set_option linter.unusedSimpArgs false
attribute [local go_sem high] eqA25
/-! ### wide_of: function 67 -/
def wide_of.f (a0:Bool) (a1_0:Int) (a1_1:Int) (a1_2:Int) (a1_3:Int):Option (Bool × Int × Int × Int × Int):=if a0=true then ((wide_none.f a1_0 a1_1 a1_2 a1_3).bind fun t104=>(some (!t104,a1_0,a1_1,a1_2,a1_3))) else (some (false,a1_0,a1_1,a1_2,a1_3))
def wide_of.T1:Bool × List (List Nat × List Nat):=(true,[([],[]),([0],[0]),([1],[1]),([2,1,1],[1,2]),([3,1],[1,3]),([1,4],[1,4]),([],[]),([5,6],[5,6]),([7,3,0,1,2,3,4,5,6,7],[7])])
def wide_of.B1:List Nat:=[0,1,3,7,15,31,0,127,255]
theorem wide_of.tab1:rtab .any (opsOf Tryz.f97 1)=wide_of.T1:=by kernel_rfl
theorem wide_of.bits1:waitsOk wide_of.T1.2 wide_of.B1=true:=by kernel_rfl
set_option maxHeartbeats 8000000 in
set_option maxRecDepth 100000 in
theorem wide_of.calls (a0:Bool) (a1_0:Int) (a1_1:Int) (a1_2:Int) (a1_3:Int) (r1:Bool) (r2:Int) (r3:Int) (r4:Int) (r5:Int) (w:World) (h:wide_of.f a0 a1_0 a1_1 a1_2 a1_3=some (r1,r2,r3,r4,r5)) :
  Calls Tryz.prog 97 #[.bool a0,.agg #[.int .u64 a1_0,.int .u64 a1_1,.int .u64 a1_2,.int .u64 a1_3]] w fun e w'=>e = .returned (.agg #[.bool r1,.int .u64 r2,.int .u64 r3,.int .u64 r4,.int .u64 r5])∧Below w.heap.size w w':=by
 have hu25:=Tryz.underlying94
 have hu27:=Tryz.underlying96
 have HB:=Aside0.mk (Below.refl w.heap.size w)
 have H:(if a0=true then ((wide_none.f a1_0 a1_1 a1_2 a1_3).bind fun t104=>(some (!t104,a1_0,a1_1,a1_2,a1_3))) else (some (false,a1_0,a1_1,a1_2,a1_3)))=some (r1,r2,r3,r4,r5):=h
 clear h
 by_cases c3:a0=true
 rotate_left
 ·replace c3:=Bool.eq_false_iff.mpr c3
  subst c3
  have H1:(some (false,a1_0,a1_1,a1_2,a1_3))=some (r1,r2,r3,r4,r5):=by rw [if_neg (show ¬ (false=true) by decide)] at H;exact H
  clear H
  have H:=H1
  clear H1
  simp only [Option.some.injEq,Prod.mk.injEq] at H
  obtain ⟨rfl,rfl,rfl,rfl,rfl⟩:=H
  go_enter Tryz.func97,Tryz.ntmps97
  try go_wp2_with (first|((with_reducible refine gate_dst (N:=3) rfl ?_);refine box_event ?hg (N:=3) ?hd (cs:=#[.int .u64 a1_0,.int .u64 a1_1,.int .u64 a1_2,.int .u64 a1_3]) (t:=94) ?hr ?_;(case hd=>rfl);(case hg=>rfl);(case hr=>first|(go_simp;done)|(go_simp;rfl));intro gb102 hg w14 hbox hb;have n0_:=Aside0.mk (below_step (by repeat (first|(with_reducible first|exact HB.out|apply qa|apply qn|apply qd)|exact HB.out)) hb);have n1_:=Aside0.mk (hbox);have n2_:=bgw HB hg;have n3_:=bgw HB hg;clear HB;have HB:=n0_;have BK102:=n1_;have GW102:=n2_;have GE102:=n3_;clear n0_ n1_ n2_ n3_;clear hb hbox hg)|((with_reducible refine gate_dst (N:=4) rfl ?_);refine box_event ?hg (N:=4) ?hd (cs:=#[.bool false,.int .u64 0,.int .u64 0,.int .u64 0,.int .u64 0]) (t:=96) ?hr ?_;(case hd=>rfl);(case hg=>rfl);(case hr=>first|(go_simp;done)|(go_simp;rfl));intro gb103 hg w15 hbox hb;have n0_:=bb BK102 hb;have n1_:=Aside0.mk (below_step (by repeat (first|(with_reducible first|exact HB.out|apply qa|apply qn|apply qd|refine qs ?_ GE102.out)|exact HB.out)) hb);have n2_:=Aside0.mk (hbox);have n3_:=bgw HB hg;have n4_:=bgw HB hg;have n5_:=bnl BK102 hg;have n6_:=bng BK102 hg;clear BK102;clear HB;have BK102:=n0_;have HB:=n1_;have BK103:=n2_;have GW103:=n3_;have GE103:=n4_;have NB102_103:=n5_;have NB103_102:=n6_;clear n0_ n1_ n2_ n3_ n4_ n5_ n6_;clear hb hbox hg))
  have n0_:=Aside0.mk (blk_drew BK102.out)
  have n1_:=Aside0.mk (blk_drew BK103.out)
  have n2_:=Aside0.mk (below_drew1 HB.out)
  clear BK102
  clear BK103
  clear HB
  have BK102:=n0_
  have BK103:=n1_
  have HB:=n2_
  clear n0_ n1_ n2_
  refine start_ (n:=9) (S:=fun w'=>w'.cell? ⟨gb102,0,none⟩=some (.int .u64 a1_0)∧w'.cell? ⟨gb102,1,none⟩=some (.int .u64 a1_1)∧w'.cell? ⟨gb102,2,none⟩=some (.int .u64 a1_2)∧w'.cell? ⟨gb102,3,none⟩=some (.int .u64 a1_3)) (ds:=[]) #[Ff,Ff,Ff,Ff,Ff,Ff,Ff,Ff,Ff] (by kernel_rfl) rfl rfl ⟨(blk_cell BK102.out 0).trans rfl,(blk_cell BK102.out 1).trans rfl,(blk_cell BK102.out 2).trans rfl,(blk_cell BK102.out 3).trans rfl⟩ (fun hHeld=>?_);refine with_tabW wide_of.tab1 wide_of.bits1 (fun HT_ HW_=>?_)
  generalize w15.drew=w16 at BK102 BK103 HB hHeld ⊢
  refine pure_ (i:=0) (N:=some 5) (v:=?_) (a':=?_) #[Tt,Ff,Ff,Ff,Ff,Ff,Ff,Ff,Ff] rfl rfl (any_of HT_.out (by kernel_rfl)) (fun _ _ _ h=>h) (Or.inl ⟨by rfl,?_⟩) ?_ ?_
  rotate_left
  ·intro w'
   go_simp
   with_reducible rfl
  rotate_left
  ·simp only [Act.put,List.setIfInBounds_toArray,List.set_cons_zero,List.set_cons_succ,i64_w,i32_w]
   rfl
  refine pure_ (i:=1) (N:=some 6) (v:=?_) (a':=?_) #[Tt,Tt,Ff,Ff,Ff,Ff,Ff,Ff,Ff] rfl rfl (any_of HT_.out (by kernel_rfl)) (fun _ _ _ h=>h) (Or.inl ⟨by rfl,?_⟩) ?_ ?_
  rotate_left
  ·intro w'
   go_simp
   with_reducible rfl
  rotate_left
  ·simp only [Act.put,List.setIfInBounds_toArray,List.set_cons_zero,List.set_cons_succ,i64_w,i32_w]
   rfl
  refine pure_ (i:=2) (N:=some 7) (v:=undef) (a':=?_) #[Tt,Tt,Tt,Ff,Ff,Ff,Ff,Ff,Ff] rfl rfl (any_of HT_.out (by kernel_rfl)) (fun _ _ _ h=>h) (Or.inr ⟨by rfl,rfl⟩) ?_ ?_
  rotate_left
  ·simp only [Act.put,List.setIfInBounds_toArray,List.set_cons_zero,List.set_cons_succ,i64_w,i32_w]
   rfl
  refine pure_ (i:=3) (N:=some 8) (v:=undef) (a':=?_) #[Tt,Tt,Tt,Tt,Ff,Ff,Ff,Ff,Ff] rfl rfl (any_of HT_.out (by kernel_rfl)) (fun _ _ _ h=>h) (Or.inr ⟨by rfl,rfl⟩) ?_ ?_
  rotate_left
  ·simp only [Act.put,List.setIfInBounds_toArray,List.set_cons_zero,List.set_cons_succ,i64_w,i32_w]
   rfl
  refine pure_ (i:=4) (N:=some 9) (v:=undef) (a':=?_) #[Tt,Tt,Tt,Tt,Tt,Ff,Ff,Ff,Ff] rfl rfl (any_of HT_.out (by kernel_rfl)) (fun _ _ _ h=>h) (Or.inr ⟨by rfl,rfl⟩) ?_ ?_
  rotate_left
  ·simp only [Act.put,List.setIfInBounds_toArray,List.set_cons_zero,List.set_cons_succ,i64_w,i32_w]
   rfl
  refine pure_ (i:=5) (N:=some 10) (v:=?_) (a':=?_) #[Tt,Tt,Tt,Tt,Tt,Tt,Ff,Ff,Ff] rfl rfl (any_of HT_.out (by kernel_rfl)) (fun _ _ _ h=>h) (Or.inl ⟨by rfl,?_⟩) ?_ ?_
  rotate_left
  ·intro w'
   go_simp
   with_reducible rfl
  rotate_left
  ·simp only [Act.put,List.setIfInBounds_toArray,List.set_cons_zero,List.set_cons_succ,i64_w,i32_w]
   rfl
  refine take_ (i:=6) (N:=some 11) (v:=?_) (a':=?_) #[Tt,Tt,Tt,Tt,Tt,Tt,Tt,Ff,Ff] rfl rfl (take_ofW HT_.out HW_.out (by kernel_rfl)) (fun _ _ _ h=>h) (Or.inl ⟨by rfl,?_⟩) hHeld ?_ ?_
  rotate_left
  ·rintro w' ⟨s0,s1,s2,s3⟩
   go_simp
   with_reducible rfl
  rotate_left
  ·simp only [Act.put,List.setIfInBounds_toArray,List.set_cons_zero,List.set_cons_succ,i64_w,i32_w]
   rfl
  refine pure_ (i:=7) (N:=some 12) (v:=?_) (a':=?_) #[Tt,Tt,Tt,Tt,Tt,Tt,Tt,Tt,Ff] rfl rfl (any_of HT_.out (by kernel_rfl)) (fun _ _ _ h=>h) (Or.inl ⟨by rfl,?_⟩) ?_ ?_
  rotate_left
  ·intro w'
   go_simp
   with_reducible rfl
  rotate_left
  ·simp only [Act.put,List.setIfInBounds_toArray,List.set_cons_zero,List.set_cons_succ,i64_w,i32_w]
   rfl
  refine one_ (i:=8) (N:=none) #[Tt,Tt,Tt,Tt,Tt,Tt,Tt,Tt,Tt] rfl rfl (one_of HT_.out (by kernel_rfl)) (by decide) (fun K hK=>?_)
  have hs17:w16.cell? ⟨gb103,0,none⟩=some (.bool false):=(blk_cell BK103.out 0).trans rfl
  have hfs17:=blk_frozen BK103.out 0
  have hns17_0:=NB102_103.out
  have hms17_0:=NB103_102.out
  have hs18:w16.cell? ⟨gb103,1,none⟩=some (.int .u64 0):=(blk_cell BK103.out 1).trans rfl
  have hfs18:=blk_frozen BK103.out 1
  have hns18_0:=NB102_103.out
  have hms18_0:=NB103_102.out
  have hs19:w16.cell? ⟨gb103,2,none⟩=some (.int .u64 0):=(blk_cell BK103.out 2).trans rfl
  have hfs19:=blk_frozen BK103.out 2
  have hns19_0:=NB102_103.out
  have hms19_0:=NB103_102.out
  have hs20:w16.cell? ⟨gb103,3,none⟩=some (.int .u64 0):=(blk_cell BK103.out 3).trans rfl
  have hfs20:=blk_frozen BK103.out 3
  have hns20_0:=NB102_103.out
  have hms20_0:=NB103_102.out
  have hs21:w16.cell? ⟨gb103,4,none⟩=some (.int .u64 0):=(blk_cell BK103.out 4).trans rfl
  have hfs21:=blk_frozen BK103.out 4
  have hns21_0:=NB102_103.out
  have hms21_0:=NB103_102.out
  refine skip_ (w1:=?_) (by rfl) rfl ?_ ?_
  rotate_left
  ·go_simp
   rfl
  refine hK.out _ _ ⟨(cf5 NB102_103.out hHeld.1),(cf5 NB102_103.out hHeld.2.1),(cf5 NB102_103.out hHeld.2.2.1),(cf5 NB102_103.out hHeld.2.2.2)⟩ (fun hHeld=>?_)
  clear hK K
  refine done_ (done_of HT_.out (by kernel_rfl)) ?_
  try go_wp2
  refine bodyPost_ret (results_cell_row rfl _ _ gb103 96 #[.bool false,.int .u64 a1_0,.int .u64 a1_1,.int .u64 a1_2,.int .u64 a1_3] (0,0) _ rfl (by (with_reducible repeat (first|refine cn ?_ _|refine cd ?_|refine ca ?_ _));exact bp5 (lb BK103.out)) Tryz.underlying96 rfl (by kernel_rfl)) rfl ?_
  exact ⟨by first|rfl|(simp [errW_none,errW_some]<;>rfl)|(simp [*,errW_none,errW_some]<;>rfl),by repeat (first|(with_reducible first|exact HB.out|apply qa|apply qn|apply qd|refine qs ?_ GE102.out|refine qs ?_ GE103.out)|exact HB.out)⟩
 subst c3
 have H1:((wide_none.f a1_0 a1_1 a1_2 a1_3).bind fun t104=>(some (!t104,a1_0,a1_1,a1_2,a1_3)))=some (r1,r2,r3,r4,r5):=by rw [if_pos rfl] at H;exact H
 clear H
 have H:=H1
 clear H1
 replace H:=Option.bind_eq_some_iff.mp H
 obtain ⟨t104,A40,H⟩:=H
 replace H:(some (!t104,a1_0,a1_1,a1_2,a1_3))=some (r1,r2,r3,r4,r5):=H
 have A4:=Aside0.mk A40
 clear A40
 simp only [Option.some.injEq,Prod.mk.injEq] at H
 obtain ⟨rfl,rfl,rfl,rfl,rfl⟩:=H
 go_enter Tryz.func97,Tryz.ntmps97
 try go_wp2_with (first|((with_reducible refine gate_dst (N:=3) rfl ?_);refine box_event ?hg (N:=3) ?hd (cs:=#[.int .u64 a1_0,.int .u64 a1_1,.int .u64 a1_2,.int .u64 a1_3]) (t:=94) ?hr ?_;(case hd=>rfl);(case hg=>rfl);(case hr=>first|(go_simp;done)|(go_simp;rfl));intro gb102 hg w5 hbox hb;have n0_:=Aside0.mk (below_step (by repeat (first|(with_reducible first|exact HB.out|apply qa|apply qn|apply qd)|exact HB.out)) hb);have n1_:=Aside0.mk (hbox);have n2_:=bgw HB hg;have n3_:=bgw HB hg;clear HB;have HB:=n0_;have BK102:=n1_;have GW102:=n2_;have GE102:=n3_;clear n0_ n1_ n2_ n3_;clear hb hbox hg)|((with_reducible refine gate_dst (N:=4) rfl ?_);refine box_event ?hg (N:=4) ?hd (cs:=#[.bool false,.int .u64 0,.int .u64 0,.int .u64 0,.int .u64 0]) (t:=96) ?hr ?_;(case hd=>rfl);(case hg=>rfl);(case hr=>first|(go_simp;done)|(go_simp;rfl));intro gb103 hg w6 hbox hb;have n0_:=bb BK102 hb;have n1_:=Aside0.mk (below_step (by repeat (first|(with_reducible first|exact HB.out|apply qa|apply qn|apply qd|refine qs ?_ GE102.out)|exact HB.out)) hb);have n2_:=Aside0.mk (hbox);have n3_:=bgw HB hg;have n4_:=bgw HB hg;have n5_:=bnl BK102 hg;have n6_:=bng BK102 hg;clear BK102;clear HB;have BK102:=n0_;have HB:=n1_;have BK103:=n2_;have GW103:=n3_;have GE103:=n4_;have NB102_103:=n5_;have NB103_102:=n6_;clear n0_ n1_ n2_ n3_ n4_ n5_ n6_;clear hb hbox hg))
 have n0_:=Aside0.mk (blk_drew BK102.out)
 have n1_:=Aside0.mk (blk_drew BK103.out)
 have n2_:=Aside0.mk (below_drew1 HB.out)
 clear BK102
 clear BK103
 clear HB
 have BK102:=n0_
 have BK103:=n1_
 have HB:=n2_
 clear n0_ n1_ n2_
 refine start_ (n:=9) (S:=fun w'=>w'.cell? ⟨gb102,0,none⟩=some (.int .u64 a1_0)∧w'.cell? ⟨gb102,1,none⟩=some (.int .u64 a1_1)∧w'.cell? ⟨gb102,2,none⟩=some (.int .u64 a1_2)∧w'.cell? ⟨gb102,3,none⟩=some (.int .u64 a1_3)) (ds:=[]) #[Ff,Ff,Ff,Ff,Ff,Ff,Ff,Ff,Ff] (by kernel_rfl) rfl rfl ⟨(blk_cell BK102.out 0).trans rfl,(blk_cell BK102.out 1).trans rfl,(blk_cell BK102.out 2).trans rfl,(blk_cell BK102.out 3).trans rfl⟩ (fun hHeld=>?_);refine with_tabW wide_of.tab1 wide_of.bits1 (fun HT_ HW_=>?_)
 generalize w6.drew=w7 at BK102 BK103 HB hHeld ⊢
 refine pure_ (i:=0) (N:=some 5) (v:=?_) (a':=?_) #[Tt,Ff,Ff,Ff,Ff,Ff,Ff,Ff,Ff] rfl rfl (any_of HT_.out (by kernel_rfl)) (fun _ _ _ h=>h) (Or.inl ⟨by rfl,?_⟩) ?_ ?_
 rotate_left
 ·intro w'
  go_simp
  with_reducible rfl
 rotate_left
 ·simp only [Act.put,List.setIfInBounds_toArray,List.set_cons_zero,List.set_cons_succ,i64_w,i32_w]
  rfl
 refine pure_ (i:=1) (N:=some 6) (v:=?_) (a':=?_) #[Tt,Tt,Ff,Ff,Ff,Ff,Ff,Ff,Ff] rfl rfl (any_of HT_.out (by kernel_rfl)) (fun _ _ _ h=>h) (Or.inl ⟨by rfl,?_⟩) ?_ ?_
 rotate_left
 ·intro w'
  go_simp
  with_reducible rfl
 rotate_left
 ·simp only [Act.put,List.setIfInBounds_toArray,List.set_cons_zero,List.set_cons_succ,i64_w,i32_w]
  rfl
 refine take_ (i:=2) (N:=some 7) (v:=?_) (a':=?_) #[Tt,Tt,Tt,Ff,Ff,Ff,Ff,Ff,Ff] rfl rfl (take_ofW HT_.out HW_.out (by kernel_rfl)) (fun _ _ _ h=>h) (Or.inl ⟨by rfl,?_⟩) hHeld ?_ ?_
 rotate_left
 ·rintro w' ⟨s0,s1,s2,s3⟩
  go_simp
  with_reducible rfl
 rotate_left
 ·simp only [Act.put,List.setIfInBounds_toArray,List.set_cons_zero,List.set_cons_succ,i64_w,i32_w]
  rfl
 refine take_ (i:=6) (N:=some 11) (v:=?_) (a':=?_) #[Tt,Tt,Tt,Ff,Ff,Ff,Tt,Ff,Ff] rfl rfl (take_ofW HT_.out HW_.out (by kernel_rfl)) (fun _ _ _ h=>h) (Or.inl ⟨by rfl,?_⟩) hHeld ?_ ?_
 rotate_left
 ·rintro w' ⟨s0,s1,s2,s3⟩
  go_simp
  with_reducible rfl
 rotate_left
 ·simp only [Act.put,List.setIfInBounds_toArray,List.set_cons_zero,List.set_cons_succ,i64_w,i32_w]
  rfl
 refine one_ (i:=3) (N:=some 8) #[Tt,Tt,Tt,Tt,Ff,Ff,Tt,Ff,Ff] rfl rfl (one_of HT_.out (by kernel_rfl)) (by decide) (fun K hK=>?_)
 refine goes_ Tryz.func95 (by kernel_rfl) rfl #[.agg #[.int .u64 a1_0,.int .u64 a1_1,.int .u64 a1_2,.int .u64 a1_3]] (by rfl) rfl rfl (by (try simp only [List.map_toArray,List.map_cons,List.map_nil]);first|done|rfl|(simp only [List.length_drop,List.length_take];rfl)) ?_
 with_reducible refine (wide_none.calls a1_0 a1_1 a1_2 a1_3 t104 _ A4.out).mono ?_
 rintro e w8 ⟨rfl,hb⟩
 refine ⟨_,rfl,?_⟩
 have n0_:=bb BK102 hb
 have n1_:=bb BK103 hb
 have n2_:=Aside0.mk (below_step (by repeat (first|(with_reducible first|exact HB.out|apply qa|apply qn|apply qd|refine qs ?_ GE102.out|refine qs ?_ GE103.out)|exact HB.out)) hb)
 clear BK102
 clear BK103
 clear HB
 have BK102:=n0_
 have BK103:=n1_
 have HB:=n2_
 clear n0_ n1_ n2_
 (try clear hb)
 (try clear hb2)
 (try clear hk)
 (try clear hi)
 refine hK.out _ _ ⟨(blk_cell BK102.out 0).trans rfl,(blk_cell BK102.out 1).trans rfl,(blk_cell BK102.out 2).trans rfl,(blk_cell BK102.out 3).trans rfl⟩ (fun hHeld=>?_)
 clear hK K
 refine norm_ (a':=?_) ?_ ?_
 rotate_left
 ·show Act.put _ (some 8) _=_
  simp only [Act.put,List.setIfInBounds_toArray,List.set_cons_zero,List.set_cons_succ,i64_w,i32_w]
  rfl
 refine pure_ (i:=4) (N:=some 9) (v:=?_) (a':=?_) #[Tt,Tt,Tt,Tt,Tt,Ff,Tt,Ff,Ff] rfl rfl (any_of HT_.out (by kernel_rfl)) (fun _ _ _ h=>h) (Or.inl ⟨by rfl,?_⟩) ?_ ?_
 rotate_left
 ·intro w'
  go_simp
  with_reducible rfl
 rotate_left
 ·simp only [Act.put,List.setIfInBounds_toArray,List.set_cons_zero,List.set_cons_succ,i64_w,i32_w]
  rfl
 refine pure_ (i:=5) (N:=some 10) (v:=?_) (a':=?_) #[Tt,Tt,Tt,Tt,Tt,Tt,Tt,Ff,Ff] rfl rfl (any_of HT_.out (by kernel_rfl)) (fun _ _ _ h=>h) (Or.inl ⟨by rfl,?_⟩) ?_ ?_
 rotate_left
 ·intro w'
  go_simp
  with_reducible rfl
 rotate_left
 ·simp only [Act.put,List.setIfInBounds_toArray,List.set_cons_zero,List.set_cons_succ,i64_w,i32_w]
  rfl
 refine pure_ (i:=7) (N:=some 12) (v:=?_) (a':=?_) #[Tt,Tt,Tt,Tt,Tt,Tt,Tt,Tt,Ff] rfl rfl (any_of HT_.out (by kernel_rfl)) (fun _ _ _ h=>h) (Or.inl ⟨by rfl,?_⟩) ?_ ?_
 rotate_left
 ·intro w'
  go_simp
  with_reducible rfl
 rotate_left
 ·simp only [Act.put,List.setIfInBounds_toArray,List.set_cons_zero,List.set_cons_succ,i64_w,i32_w]
  rfl
 refine one_ (i:=8) (N:=none) #[Tt,Tt,Tt,Tt,Tt,Tt,Tt,Tt,Tt] rfl rfl (one_of HT_.out (by kernel_rfl)) (by decide) (fun K hK=>?_)
 have hs9:w8.cell? ⟨gb103,0,none⟩=some (.bool false):=(blk_cell BK103.out 0).trans rfl
 have hfs9:=blk_frozen BK103.out 0
 have hns9_0:=NB102_103.out
 have hms9_0:=NB103_102.out
 have hs10:w8.cell? ⟨gb103,1,none⟩=some (.int .u64 0):=(blk_cell BK103.out 1).trans rfl
 have hfs10:=blk_frozen BK103.out 1
 have hns10_0:=NB102_103.out
 have hms10_0:=NB103_102.out
 have hs11:w8.cell? ⟨gb103,2,none⟩=some (.int .u64 0):=(blk_cell BK103.out 2).trans rfl
 have hfs11:=blk_frozen BK103.out 2
 have hns11_0:=NB102_103.out
 have hms11_0:=NB103_102.out
 have hs12:w8.cell? ⟨gb103,3,none⟩=some (.int .u64 0):=(blk_cell BK103.out 3).trans rfl
 have hfs12:=blk_frozen BK103.out 3
 have hns12_0:=NB102_103.out
 have hms12_0:=NB103_102.out
 have hs13:w8.cell? ⟨gb103,4,none⟩=some (.int .u64 0):=(blk_cell BK103.out 4).trans rfl
 have hfs13:=blk_frozen BK103.out 4
 have hns13_0:=NB102_103.out
 have hms13_0:=NB103_102.out
 refine skip_ (w1:=?_) (by rfl) rfl ?_ ?_
 rotate_left
 ·go_simp
  rfl
 refine hK.out _ _ ⟨(cf5 NB102_103.out hHeld.1),(cf5 NB102_103.out hHeld.2.1),(cf5 NB102_103.out hHeld.2.2.1),(cf5 NB102_103.out hHeld.2.2.2)⟩ (fun hHeld=>?_)
 clear hK K
 refine done_ (done_of HT_.out (by kernel_rfl)) ?_
 try go_wp2
 refine bodyPost_ret (results_cell_row rfl _ _ gb103 96 #[.bool (!t104),.int .u64 a1_0,.int .u64 a1_1,.int .u64 a1_2,.int .u64 a1_3] (0,0) _ rfl (by (with_reducible repeat (first|refine cn ?_ _|refine cd ?_|refine ca ?_ _));exact bp5 (lb BK103.out)) Tryz.underlying96 rfl (by kernel_rfl)) rfl ?_
 exact ⟨by first|rfl|(simp [errW_none,errW_some]<;>rfl)|(simp [*,errW_none,errW_some]<;>rfl),by repeat (first|(with_reducible first|exact HB.out|apply qa|apply qn|apply qd|refine qs ?_ GE102.out|refine qs ?_ GE103.out)|exact HB.out)⟩
end Go.Proofs.YtkgagdjogedoiaaGreat.MT
namespace Go.Proofs.YtkgagdjogedoiaaGreat.MT
open Go.RowKit Go.Proofs.YtkgagdjogedoiaaGreatW.PrintWords Go.Proofs.YtkgagdjogedoiaaGreatW.PrintLast Go.Proofs.YtkgagdjogedoiaaGreatW.PrintMore
attribute [local go_sem] max2_int min2_int max_two min_two max_three min_three max_four min_four   -- for this text's walks alone
set_option linter.unusedVariables false
set_option linter.unusedSimpArgs false
attribute [local go_sem high] eqA25
/-! ### wide_Of: function 38 -/
def wide_Of.f (a0:Int):Option (Bool × Int × Int × Int × Int):=if a0 < 0 then ((wide_of.f true (IntKind.u64.wrap (-(IntKind.u64.wrap (a0)))) 0 0 0).bind fun bt106=>(some (bt106.1,bt106.2.1,bt106.2.2.1,bt106.2.2.2.1,bt106.2.2.2.2))) else ((wide_of.f false (IntKind.u64.wrap (a0)) 0 0 0).bind fun bt111=>(some (bt111.1,bt111.2.1,bt111.2.2.1,bt111.2.2.2.1,bt111.2.2.2.2)))
set_option maxHeartbeats 8000000 in
set_option maxRecDepth 100000 in
theorem wide_Of.calls (a0:Int) (r1:Bool) (r2:Int) (r3:Int) (r4:Int) (r5:Int) (w:World) (h:wide_Of.f a0=some (r1,r2,r3,r4,r5)) :
  Calls Tryz.prog 68 #[.int .i64 a0] w fun e w'=>e = .returned (.agg #[.bool r1,.int .u64 r2,.int .u64 r3,.int .u64 r4,.int .u64 r5])∧Below w.heap.size w w':=by
 have hu27:=Tryz.underlying96
 have hu25:=Tryz.underlying94
 have HB:=Aside0.mk (Below.refl w.heap.size w)
 have H:(if a0 < 0 then ((wide_of.f true (IntKind.u64.wrap (-(IntKind.u64.wrap (a0)))) 0 0 0).bind fun bt106=>(some (bt106.1,bt106.2.1,bt106.2.2.1,bt106.2.2.2.1,bt106.2.2.2.2))) else ((wide_of.f false (IntKind.u64.wrap (a0)) 0 0 0).bind fun bt111=>(some (bt111.1,bt111.2.1,bt111.2.2.1,bt111.2.2.2.1,bt111.2.2.2.2))))=some (r1,r2,r3,r4,r5):=h
 clear h
 by_cases c2:a0 < 0
 rotate_left
 ·rw [if_neg c2] at H
  have c2b0:decide (a0 < 0)=false:=decide_eq_false c2
  clear c2
  replace H:=Option.bind_eq_some_iff.mp H
  obtain ⟨⟨t111,t112,t113,t114,t115⟩,A70,H⟩:=H
  replace H:(some (t111,t112,t113,t114,t115))=some (r1,r2,r3,r4,r5):=H
  have A7:=Aside0.mk A70
  clear A70
  simp only [Option.some.injEq,Prod.mk.injEq] at H
  obtain ⟨rfl,rfl,rfl,rfl,rfl⟩:=H
  go_enter Tryz.func68,Tryz.ntmps68
  go_wp2_with (first|((with_reducible refine gate_dst (N:=2) rfl ?_);refine box_event ?hg (N:=2) ?hd (cs:=#[.bool false,.int .u64 0,.int .u64 0,.int .u64 0,.int .u64 0]) (t:=96) ?hr ?_;(case hd=>rfl);(case hg=>rfl);(case hr=>first|(go_simp;done)|(go_simp;rfl));intro gb105 hg w8 hbox hb;have n0_:=Aside0.mk (below_step (by repeat (first|(with_reducible first|exact HB.out|apply qa|apply qn|apply qd)|exact HB.out)) hb);have n1_:=Aside0.mk (hbox);have n2_:=bgw HB hg;have n3_:=bgw HB hg;clear HB;have HB:=n0_;have BK105:=n1_;have GW105:=n2_;have GE105:=n3_;clear n0_ n1_ n2_ n3_;clear hb hbox hg)|((with_reducible refine gate_callee (f:=97) rfl ?_);refine goesL_ (some 13) rfl rfl Tryz.func97 (by kernel_rfl) rfl #[.bool false,.agg #[.int .u64 (IntKind.u64.wrap (a0)),.int .u64 0,.int .u64 0,.int .u64 0]] rfl (by (try simp only [List.map_toArray,List.map_cons,List.map_nil]);first|done|rfl|(simp only [List.length_drop,List.length_take];rfl)) ?_;(with_reducible refine (wide_of.calls false (IntKind.u64.wrap (a0)) 0 0 0 t111 t112 t113 t114 t115 _ A7.out).mono ?_);rintro e w9 ⟨rfl,hb⟩;refine ⟨_,rfl,?_⟩;have n0_:=bb BK105 hb;have n1_:=Aside0.mk (below_step (by repeat (first|(with_reducible first|exact HB.out|apply qa|apply qn|apply qd|refine qs ?_ GE105.out)|exact HB.out)) hb);clear BK105;clear HB;have BK105:=n0_;have HB:=n1_;clear n0_ n1_;(try clear hb);(try clear hb2);(try clear hk);(try clear hi);obtain ⟨hcz10_0,hcz10_1,hcz10_2,hcz10_3,hcz10_4⟩:=cl5 BK105.out;obtain ⟨hfz10_0,hfz10_1,hfz10_2,hfz10_3,hfz10_4⟩:=fr5 BK105.out))
  refine bodyPost_ret (results_cell_row rfl _ _ gb105 96 #[.bool t111,.int .u64 t112,.int .u64 t113,.int .u64 t114,.int .u64 t115] (0,0) _ rfl (by (with_reducible repeat (first|refine cn ?_ _|refine cd ?_|refine ca ?_ _));exact bp5 (lb BK105.out)) Tryz.underlying96 rfl (by kernel_rfl)) rfl ?_
  exact ⟨by first|rfl|(simp [errW_none,errW_some]<;>rfl)|(simp [*,errW_none,errW_some]<;>rfl),by repeat (first|(with_reducible first|exact HB.out|apply qa|apply qn|apply qd|refine qs ?_ GE105.out)|exact HB.out)⟩
 rw [if_pos c2] at H
 have c2b0:decide (a0 < 0)=true:=decide_eq_true c2
 clear c2
 replace H:=Option.bind_eq_some_iff.mp H
 obtain ⟨⟨t106,t107,t108,t109,t110⟩,A30,H⟩:=H
 replace H:(some (t106,t107,t108,t109,t110))=some (r1,r2,r3,r4,r5):=H
 have A3:=Aside0.mk A30
 clear A30
 simp only [Option.some.injEq,Prod.mk.injEq] at H
 obtain ⟨rfl,rfl,rfl,rfl,rfl⟩:=H
 go_enter Tryz.func68,Tryz.ntmps68
 go_wp2_with (first|((with_reducible refine gate_dst (N:=2) rfl ?_);refine box_event ?hg (N:=2) ?hd (cs:=#[.bool false,.int .u64 0,.int .u64 0,.int .u64 0,.int .u64 0]) (t:=96) ?hr ?_;(case hd=>rfl);(case hg=>rfl);(case hr=>first|(go_simp;done)|(go_simp;rfl));intro gb105 hg w4 hbox hb;have n0_:=Aside0.mk (below_step (by repeat (first|(with_reducible first|exact HB.out|apply qa|apply qn|apply qd)|exact HB.out)) hb);have n1_:=Aside0.mk (hbox);have n2_:=bgw HB hg;have n3_:=bgw HB hg;clear HB;have HB:=n0_;have BK105:=n1_;have GW105:=n2_;have GE105:=n3_;clear n0_ n1_ n2_ n3_;clear hb hbox hg)|((with_reducible refine gate_callee (f:=97) rfl ?_);refine goesL_ (some 9) rfl rfl Tryz.func97 (by kernel_rfl) rfl #[.bool true,.agg #[.int .u64 (IntKind.u64.wrap (-(IntKind.u64.wrap (a0)))),.int .u64 0,.int .u64 0,.int .u64 0]] rfl (by (try simp only [List.map_toArray,List.map_cons,List.map_nil]);first|done|rfl|(simp only [List.length_drop,List.length_take];rfl)) ?_;(with_reducible refine (wide_of.calls true (IntKind.u64.wrap (-(IntKind.u64.wrap (a0)))) 0 0 0 t106 t107 t108 t109 t110 _ A3.out).mono ?_);rintro e w5 ⟨rfl,hb⟩;refine ⟨_,rfl,?_⟩;have n0_:=bb BK105 hb;have n1_:=Aside0.mk (below_step (by repeat (first|(with_reducible first|exact HB.out|apply qa|apply qn|apply qd|refine qs ?_ GE105.out)|exact HB.out)) hb);clear BK105;clear HB;have BK105:=n0_;have HB:=n1_;clear n0_ n1_;(try clear hb);(try clear hb2);(try clear hk);(try clear hi);obtain ⟨hcz6_0,hcz6_1,hcz6_2,hcz6_3,hcz6_4⟩:=cl5 BK105.out;obtain ⟨hfz6_0,hfz6_1,hfz6_2,hfz6_3,hfz6_4⟩:=fr5 BK105.out))
 refine bodyPost_ret (results_cell_row rfl _ _ gb105 96 #[.bool t106,.int .u64 t107,.int .u64 t108,.int .u64 t109,.int .u64 t110] (0,0) _ rfl (by (with_reducible repeat (first|refine cn ?_ _|refine cd ?_|refine ca ?_ _));exact bp5 (lb BK105.out)) Tryz.underlying96 rfl (by kernel_rfl)) rfl ?_
 exact ⟨by first|rfl|(simp [errW_none,errW_some]<;>rfl)|(simp [*,errW_none,errW_some]<;>rfl),by repeat (first|(with_reducible first|exact HB.out|apply qa|apply qn|apply qd|refine qs ?_ GE105.out)|exact HB.out)⟩
end Go.Proofs.YtkgagdjogedoiaaGreat.MT
namespace Go.Proofs.YtkgagdjogedoiaaGreat.MT
open Go.RowKit Go.Proofs.YtkgagdjogedoiaaGreatW.PrintWords Go.Proofs.YtkgagdjogedoiaaGreatW.PrintLast Go.Proofs.YtkgagdjogedoiaaGreatW.PrintMore
attribute [local go_sem] max2_int min2_int max_two min_two max_three min_three max_four min_four   -- for this text's walks alone
set_option linter.unusedVariables false
set_option linter.unusedSimpArgs false
/-! ### wide_Neg: function 39 -/
def wide_Neg.f (a0_0:Bool) (a0_1:Int) (a0_2:Int) (a0_3:Int) (a0_4:Int):Option (Bool × Int × Int × Int × Int):=(wide_of.f (!a0_0) a0_1 a0_2 a0_3 a0_4).bind fun bt330=>(some (bt330.1,bt330.2.1,bt330.2.2.1,bt330.2.2.2.1,bt330.2.2.2.2))
set_option maxHeartbeats 8000000 in
set_option maxRecDepth 100000 in
theorem wide_Neg.calls (a0_0:Bool) (a0_1:Int) (a0_2:Int) (a0_3:Int) (a0_4:Int) (r1:Bool) (r2:Int) (r3:Int) (r4:Int) (r5:Int) (w:World) (h:wide_Neg.f a0_0 a0_1 a0_2 a0_3 a0_4=some (r1,r2,r3,r4,r5)) :
  Calls Tryz.prog 94 #[.agg #[.bool a0_0,.int .u64 a0_1,.int .u64 a0_2,.int .u64 a0_3,.int .u64 a0_4]] w fun e w'=>e = .returned (.agg #[.bool r1,.int .u64 r2,.int .u64 r3,.int .u64 r4,.int .u64 r5])∧Below w.heap.size w w':=by
 have hu27:=Tryz.underlying96
 have hu25:=Tryz.underlying94
 have HB:=Aside0.mk (Below.refl w.heap.size w)
 have H:((wide_of.f (!a0_0) a0_1 a0_2 a0_3 a0_4).bind fun bt330=>(some (bt330.1,bt330.2.1,bt330.2.2.1,bt330.2.2.2.1,bt330.2.2.2.2)))=some (r1,r2,r3,r4,r5):=h
 clear h
 replace H:=Option.bind_eq_some_iff.mp H
 obtain ⟨⟨t330,t331,t332,t333,t334⟩,A20,H⟩:=H
 replace H:(some (t330,t331,t332,t333,t334))=some (r1,r2,r3,r4,r5):=H
 have A2:=Aside0.mk A20
 clear A20
 simp only [Option.some.injEq,Prod.mk.injEq] at H
 obtain ⟨rfl,rfl,rfl,rfl,rfl⟩:=H
 go_enter Tryz.func94,Tryz.ntmps94
 go_wp2_with (first|((with_reducible refine gate_dst (N:=1) rfl ?_);refine box_event ?hg (N:=1) ?hd (cs:=#[.bool a0_0,.int .u64 a0_1,.int .u64 a0_2,.int .u64 a0_3,.int .u64 a0_4]) (t:=96) ?hr ?_;(case hd=>rfl);(case hg=>rfl);(case hr=>first|(go_simp;done)|(go_simp;rfl));intro gb328 hg w3 hbox hb;have n0_:=Aside0.mk (below_step (by repeat (first|(with_reducible first|exact HB.out|apply qa|apply qn|apply qd)|exact HB.out)) hb);have n1_:=Aside0.mk (hbox);have n2_:=bgw HB hg;have n3_:=bgw HB hg;clear HB;have HB:=n0_;have BK328:=n1_;have GW328:=n2_;have GE328:=n3_;clear n0_ n1_ n2_ n3_;clear hb hbox hg)|((with_reducible refine gate_dst (N:=2) rfl ?_);refine box_event ?hg (N:=2) ?hd (cs:=#[.bool false,.int .u64 0,.int .u64 0,.int .u64 0,.int .u64 0]) (t:=96) ?hr ?_;(case hd=>rfl);(case hg=>rfl);(case hr=>first|(go_simp;done)|(go_simp;rfl));intro gb329 hg w4 hbox hb;have n0_:=bb BK328 hb;have n1_:=Aside0.mk (below_step (by repeat (first|(with_reducible first|exact HB.out|apply qa|apply qn|apply qd|refine qs ?_ GE328.out)|exact HB.out)) hb);have n2_:=Aside0.mk (hbox);have n3_:=bgw HB hg;have n4_:=bgw HB hg;have n5_:=bnl BK328 hg;have n6_:=bng BK328 hg;clear BK328;clear HB;have BK328:=n0_;have HB:=n1_;have BK329:=n2_;have GW329:=n3_;have GE329:=n4_;have NB328_329:=n5_;have NB329_328:=n6_;clear n0_ n1_ n2_ n3_ n4_ n5_ n6_;clear hb hbox hg;have hnb5:=NB328_329.out;have hnc5:=NB329_328.out;obtain ⟨hcz6_0,hcz6_1,hcz6_2,hcz6_3,hcz6_4⟩:=cl5 BK328.out;obtain ⟨hfz6_0,hfz6_1,hfz6_2,hfz6_3,hfz6_4⟩:=fr5 BK328.out)|((with_reducible refine gate_callee (f:=97) rfl ?_);refine goesL_ (some 8) rfl rfl Tryz.func97 (by kernel_rfl) rfl #[.bool (!a0_0),.agg #[.int .u64 a0_1,.int .u64 a0_2,.int .u64 a0_3,.int .u64 a0_4]] rfl (by (try simp only [List.map_toArray,List.map_cons,List.map_nil]);first|done|rfl|(simp only [List.length_drop,List.length_take];rfl)) ?_;(with_reducible refine (wide_of.calls (!a0_0) a0_1 a0_2 a0_3 a0_4 t330 t331 t332 t333 t334 _ A2.out).mono ?_);rintro e w7 ⟨rfl,hb⟩;refine ⟨_,rfl,?_⟩;have n0_:=bb BK328 hb;have n1_:=bb BK329 hb;have n2_:=Aside0.mk (below_step (by repeat (first|(with_reducible first|exact HB.out|apply qa|apply qn|apply qd|refine qs ?_ GE328.out|refine qs ?_ GE329.out)|exact HB.out)) hb);clear BK328;clear BK329;clear HB;have BK328:=n0_;have BK329:=n1_;have HB:=n2_;clear n0_ n1_ n2_;(try clear hb);(try clear hb2);(try clear hk);(try clear hi);obtain ⟨hcz8_0,hcz8_1,hcz8_2,hcz8_3,hcz8_4⟩:=cl5 BK329.out;obtain ⟨hfz8_0,hfz8_1,hfz8_2,hfz8_3,hfz8_4⟩:=fr5 BK329.out))
 refine bodyPost_ret (results_cell_row rfl _ _ gb329 96 #[.bool t330,.int .u64 t331,.int .u64 t332,.int .u64 t333,.int .u64 t334] (0,0) _ rfl (by (with_reducible repeat (first|refine cn ?_ _|refine cd ?_|refine ca ?_ _));exact bp5 (lb BK329.out)) Tryz.underlying96 rfl (by kernel_rfl)) rfl ?_
 exact ⟨by first|rfl|(simp [errW_none,errW_some]<;>rfl)|(simp [*,errW_none,errW_some]<;>rfl),by repeat (first|(with_reducible first|exact HB.out|apply qa|apply qn|apply qd|refine qs ?_ GE328.out|refine qs ?_ GE329.out)|exact HB.out)⟩
end Go.Proofs.YtkgagdjogedoiaaGreat.MT
namespace Go.Proofs.YtkgagdjogedoiaaGreat.MT
open Go.RowKit Go.Proofs.YtkgagdjogedoiaaGreatW.PrintWords Go.Proofs.YtkgagdjogedoiaaGreatW.PrintLast Go.Proofs.YtkgagdjogedoiaaGreatW.PrintMore
attribute [local go_sem] max2_int min2_int max_two min_two max_three min_three max_four min_four   -- for this text's walks alone
set_option linter.unusedVariables false
set_option linter.unusedSimpArgs false
/-! ### wide_Sign: function 42 -/
def wide_Sign.f (a0_0:Bool) (a0_1:Int) (a0_2:Int) (a0_3:Int) (a0_4:Int):Option (Int):=(wide_none.f a0_1 a0_2 a0_3 a0_4).bind fun t342=>(if t342=true then (some 0) else (if a0_0=true then (some (-1)) else (some 1)))
set_option maxHeartbeats 8000000 in
set_option maxRecDepth 100000 in
theorem wide_Sign.calls (a0_0:Bool) (a0_1:Int) (a0_2:Int) (a0_3:Int) (a0_4:Int) (r:Int) (w:World) (h:wide_Sign.f a0_0 a0_1 a0_2 a0_3 a0_4=some r) :
  Calls Tryz.prog 66 #[.agg #[.bool a0_0,.int .u64 a0_1,.int .u64 a0_2,.int .u64 a0_3,.int .u64 a0_4]] w fun e w'=>e = .returned (.int .i64 r)∧Below w.heap.size w w':=by
 have hu27:=Tryz.underlying96
 have hu25:=Tryz.underlying94
 have HB:=Aside0.mk (Below.refl w.heap.size w)
 have H:((wide_none.f a0_1 a0_2 a0_3 a0_4).bind fun t342=>(if t342=true then (some 0) else (if a0_0=true then (some (-1)) else (some 1))))=some r:=h
 clear h
 replace H:=Option.bind_eq_some_iff.mp H
 obtain ⟨t342,A20,H⟩:=H
 replace H:(if t342=true then (some 0) else (if a0_0=true then (some (-1)) else (some 1)))=some r:=H
 have A2:=Aside0.mk A20
 clear A20
 by_cases c3:t342=true
 ·subst c3
  have H1:(some 0)=some r:=by rw [if_pos rfl] at H;exact H
  clear H
  have H:=H1
  clear H1
  obtain rfl:=Option.some.inj H
  go_enter Tryz.func66,Tryz.ntmps66
  go_wp2_with (first|((with_reducible refine gate_dst (N:=1) rfl ?_);refine box_event ?hg (N:=1) ?hd (cs:=#[.bool a0_0,.int .u64 a0_1,.int .u64 a0_2,.int .u64 a0_3,.int .u64 a0_4]) (t:=96) ?hr ?_;(case hd=>rfl);(case hg=>rfl);(case hr=>first|(go_simp;done)|(go_simp;rfl));intro gb341 hg w4 hbox hb;have n0_:=Aside0.mk (below_step (by repeat (first|(with_reducible first|exact HB.out|apply qa|apply qn|apply qd)|exact HB.out)) hb);have n1_:=Aside0.mk (hbox);have n2_:=bgw HB hg;have n3_:=bgw HB hg;clear HB;have HB:=n0_;have BK341:=n1_;have GW341:=n2_;have GE341:=n3_;clear n0_ n1_ n2_ n3_;clear hb hbox hg;obtain ⟨hcz5_0,hcz5_1,hcz5_2,hcz5_3,hcz5_4⟩:=cl5 BK341.out;obtain ⟨hfz5_0,hfz5_1,hfz5_2,hfz5_3,hfz5_4⟩:=fr5 BK341.out)|((with_reducible refine gate_callee (f:=95) rfl ?_);refine goesL_ (some 6) rfl rfl Tryz.func95 (by kernel_rfl) rfl #[.agg #[.int .u64 a0_1,.int .u64 a0_2,.int .u64 a0_3,.int .u64 a0_4]] rfl (by (try simp only [List.map_toArray,List.map_cons,List.map_nil]);first|done|rfl|(simp only [List.length_drop,List.length_take];rfl)) ?_;(with_reducible refine (wide_none.calls a0_1 a0_2 a0_3 a0_4 true _ A2.out).mono ?_);rintro e w6 ⟨rfl,hb⟩;refine ⟨_,rfl,?_⟩;have n0_:=bb BK341 hb;have n1_:=Aside0.mk (below_step (by repeat (first|(with_reducible first|exact HB.out|apply qa|apply qn|apply qd|refine qs ?_ GE341.out)|exact HB.out)) hb);clear BK341;clear HB;have BK341:=n0_;have HB:=n1_;clear n0_ n1_;(try clear hb);(try clear hb2);(try clear hk);(try clear hi)))
  go_ret
  exact ⟨by first|rfl|(simp [errW_none,errW_some]<;>rfl)|(simp [*,errW_none,errW_some]<;>rfl),by repeat (first|(with_reducible first|exact HB.out|apply qa|apply qn|apply qd|refine qs ?_ GE341.out)|exact HB.out)⟩
 replace c3:=Bool.eq_false_iff.mpr c3
 subst c3
 have H1:(if a0_0=true then (some (-1)) else (some 1))=some r:=by rw [if_neg (show ¬ (false=true) by decide)] at H;exact H
 clear H
 have H:=H1
 clear H1
 by_cases c7:a0_0=true
 ·subst c7
  have H1:(some (-1))=some r:=by rw [if_pos rfl] at H;exact H
  clear H
  have H:=H1
  clear H1
  obtain rfl:=Option.some.inj H
  go_enter Tryz.func66,Tryz.ntmps66
  go_wp2_with (first|((with_reducible refine gate_dst (N:=1) rfl ?_);refine box_event ?hg (N:=1) ?hd (cs:=#[.bool true,.int .u64 a0_1,.int .u64 a0_2,.int .u64 a0_3,.int .u64 a0_4]) (t:=96) ?hr ?_;(case hd=>rfl);(case hg=>rfl);(case hr=>first|(go_simp;done)|(go_simp;rfl));intro gb341 hg w8 hbox hb;have n0_:=Aside0.mk (below_step (by repeat (first|(with_reducible first|exact HB.out|apply qa|apply qn|apply qd)|exact HB.out)) hb);have n1_:=Aside0.mk (hbox);have n2_:=bgw HB hg;have n3_:=bgw HB hg;clear HB;have HB:=n0_;have BK341:=n1_;have GW341:=n2_;have GE341:=n3_;clear n0_ n1_ n2_ n3_;clear hb hbox hg;obtain ⟨hcz9_0,hcz9_1,hcz9_2,hcz9_3,hcz9_4⟩:=cl5 BK341.out;obtain ⟨hfz9_0,hfz9_1,hfz9_2,hfz9_3,hfz9_4⟩:=fr5 BK341.out)|((with_reducible refine gate_callee (f:=95) rfl ?_);refine goesL_ (some 6) rfl rfl Tryz.func95 (by kernel_rfl) rfl #[.agg #[.int .u64 a0_1,.int .u64 a0_2,.int .u64 a0_3,.int .u64 a0_4]] rfl (by (try simp only [List.map_toArray,List.map_cons,List.map_nil]);first|done|rfl|(simp only [List.length_drop,List.length_take];rfl)) ?_;(with_reducible refine (wide_none.calls a0_1 a0_2 a0_3 a0_4 false _ A2.out).mono ?_);rintro e w10 ⟨rfl,hb⟩;refine ⟨_,rfl,?_⟩;have n0_:=bb BK341 hb;have n1_:=Aside0.mk (below_step (by repeat (first|(with_reducible first|exact HB.out|apply qa|apply qn|apply qd|refine qs ?_ GE341.out)|exact HB.out)) hb);clear BK341;clear HB;have BK341:=n0_;have HB:=n1_;clear n0_ n1_;(try clear hb);(try clear hb2);(try clear hk);(try clear hi);obtain ⟨hcz11_0,hcz11_1,hcz11_2,hcz11_3,hcz11_4⟩:=cl5 BK341.out;obtain ⟨hfz11_0,hfz11_1,hfz11_2,hfz11_3,hfz11_4⟩:=fr5 BK341.out))
  go_ret
  exact ⟨by first|rfl|(simp [errW_none,errW_some]<;>rfl)|(simp [*,errW_none,errW_some]<;>rfl),by repeat (first|(with_reducible first|exact HB.out|apply qa|apply qn|apply qd|refine qs ?_ GE341.out)|exact HB.out)⟩
 replace c7:=Bool.eq_false_iff.mpr c7
 subst c7
 have H1:(some 1)=some r:=by rw [if_neg (show ¬ (false=true) by decide)] at H;exact H
 clear H
 have H:=H1
 clear H1
 obtain rfl:=Option.some.inj H
 go_enter Tryz.func66,Tryz.ntmps66
 go_wp2_with (first|((with_reducible refine gate_dst (N:=1) rfl ?_);refine box_event ?hg (N:=1) ?hd (cs:=#[.bool false,.int .u64 a0_1,.int .u64 a0_2,.int .u64 a0_3,.int .u64 a0_4]) (t:=96) ?hr ?_;(case hd=>rfl);(case hg=>rfl);(case hr=>first|(go_simp;done)|(go_simp;rfl));intro gb341 hg w12 hbox hb;have n0_:=Aside0.mk (below_step (by repeat (first|(with_reducible first|exact HB.out|apply qa|apply qn|apply qd)|exact HB.out)) hb);have n1_:=Aside0.mk (hbox);have n2_:=bgw HB hg;have n3_:=bgw HB hg;clear HB;have HB:=n0_;have BK341:=n1_;have GW341:=n2_;have GE341:=n3_;clear n0_ n1_ n2_ n3_;clear hb hbox hg;obtain ⟨hcz13_0,hcz13_1,hcz13_2,hcz13_3,hcz13_4⟩:=cl5 BK341.out;obtain ⟨hfz13_0,hfz13_1,hfz13_2,hfz13_3,hfz13_4⟩:=fr5 BK341.out)|((with_reducible refine gate_callee (f:=95) rfl ?_);refine goesL_ (some 6) rfl rfl Tryz.func95 (by kernel_rfl) rfl #[.agg #[.int .u64 a0_1,.int .u64 a0_2,.int .u64 a0_3,.int .u64 a0_4]] rfl (by (try simp only [List.map_toArray,List.map_cons,List.map_nil]);first|done|rfl|(simp only [List.length_drop,List.length_take];rfl)) ?_;(with_reducible refine (wide_none.calls a0_1 a0_2 a0_3 a0_4 false _ A2.out).mono ?_);rintro e w14 ⟨rfl,hb⟩;refine ⟨_,rfl,?_⟩;have n0_:=bb BK341 hb;have n1_:=Aside0.mk (below_step (by repeat (first|(with_reducible first|exact HB.out|apply qa|apply qn|apply qd|refine qs ?_ GE341.out)|exact HB.out)) hb);clear BK341;clear HB;have BK341:=n0_;have HB:=n1_;clear n0_ n1_;(try clear hb);(try clear hb2);(try clear hk);(try clear hi);obtain ⟨hcz15_0,hcz15_1,hcz15_2,hcz15_3,hcz15_4⟩:=cl5 BK341.out;obtain ⟨hfz15_0,hfz15_1,hfz15_2,hfz15_3,hfz15_4⟩:=fr5 BK341.out))
 go_ret
 exact ⟨by first|rfl|(simp [errW_none,errW_some]<;>rfl)|(simp [*,errW_none,errW_some]<;>rfl),by repeat (first|(with_reducible first|exact HB.out|apply qa|apply qn|apply qd|refine qs ?_ GE341.out)|exact HB.out)⟩
end Go.Proofs.YtkgagdjogedoiaaGreat.MT
namespace Go.Proofs.YtkgagdjogedoiaaGreat.MT
open Go.RowKit Go.Proofs.YtkgagdjogedoiaaGreatW.PrintWords Go.Proofs.YtkgagdjogedoiaaGreatW.PrintLast Go.Proofs.YtkgagdjogedoiaaGreatW.PrintMore
attribute [local go_sem] max2_int min2_int max_two min_two max_three min_three max_four min_four   -- for this text's walks alone
set_option linter.unusedVariables false
set_option linter.unusedSimpArgs false
/-! ### cmp_Compare_int: function 77 -/
def cmp_Compare_int.f (a0:Int) (a1:Int):Option (Int):=(cmp_isNaN_int.f a0).bind fun t450=>((cmp_isNaN_int.f a1).bind fun t451=>(if t450=true then (if t451=true then (some 0) else (some (-1))) else (if t451=true then (some 1) else (if a0 < a1 then (some (-1)) else (if a0 > a1 then (some 1) else (some 0))))))
set_option maxHeartbeats 8000000 in
set_option maxRecDepth 100000 in
theorem cmp_Compare_int.calls (a0:Int) (a1:Int) (r:Int) (w:World) (h:cmp_Compare_int.f a0 a1=some r) :
  Calls Tryz.prog 90 #[.int .i64 a0,.int .i64 a1] w fun e w'=>e = .returned (.int .i64 r)∧Drawn0 w w':=by
 have H:((cmp_isNaN_int.f a0).bind fun t450=>((cmp_isNaN_int.f a1).bind fun t451=>(if t450=true then (if t451=true then (some 0) else (some (-1))) else (if t451=true then (some 1) else (if a0 < a1 then (some (-1)) else (if a0 > a1 then (some 1) else (some 0)))))))=some r:=h
 clear h
 replace H:=Option.bind_eq_some_iff.mp H
 obtain ⟨t450,A30,H⟩:=H
 replace H:((cmp_isNaN_int.f a1).bind fun t451=>(if t450=true then (if t451=true then (some 0) else (some (-1))) else (if t451=true then (some 1) else (if a0 < a1 then (some (-1)) else (if a0 > a1 then (some 1) else (some 0))))))=some r:=H
 have A3:=Aside0.mk A30
 clear A30
 replace H:=Option.bind_eq_some_iff.mp H
 obtain ⟨t451,A40,H⟩:=H
 replace H:(if t450=true then (if t451=true then (some 0) else (some (-1))) else (if t451=true then (some 1) else (if a0 < a1 then (some (-1)) else (if a0 > a1 then (some 1) else (some 0)))))=some r:=H
 have A4:=Aside0.mk A40
 clear A40
 by_cases c5:t450=true
 ·subst c5
  have H1:(if t451=true then (some 0) else (some (-1)))=some r:=by rw [if_pos rfl] at H;exact H
  clear H
  have H:=H1
  clear H1
  by_cases c6:t451=true
  ·subst c6
   have H1:(some 0)=some r:=by rw [if_pos rfl] at H;exact H
   clear H
   have H:=H1
   clear H1
   obtain rfl:=Option.some.inj H
   go_enter Tryz.func90,Tryz.ntmps90
   go_wp2_with (first|((with_reducible refine gate_callee (f:=113) rfl ?_);refine goesL_ (some 8) rfl rfl Tryz.func113 (by kernel_rfl) rfl #[.int .i64 a0] rfl (by (try simp only [List.map_toArray,List.map_cons,List.map_nil]);first|done|rfl|(simp only [List.length_drop,List.length_take];rfl)) ?_;(with_reducible refine (cmp_isNaN_int.calls a0 true _ A3.out).mono ?_);rintro e w' ⟨rfl,⟨nd,rfl⟩⟩;refine ⟨_,rfl,?_⟩)|((with_reducible refine gate_callee (f:=113) rfl ?_);refine goesL_ (some 10) rfl rfl Tryz.func113 (by kernel_rfl) rfl #[.int .i64 a1] rfl (by (try simp only [List.map_toArray,List.map_cons,List.map_nil]);first|done|rfl|(simp only [List.length_drop,List.length_take];rfl)) ?_;(with_reducible refine (cmp_isNaN_int.calls a1 true _ A4.out).mono ?_);rintro e w' ⟨rfl,⟨nd,rfl⟩⟩;refine ⟨_,rfl,?_⟩))
   go_ret
   exact ⟨by first|rfl|(simp;done)|(simp [*];done),by repeat (first|exact Drawn0.refl _|apply Drawn0.step)⟩
  replace c6:=Bool.eq_false_iff.mpr c6
  subst c6
  have H1:(some (-1))=some r:=by rw [if_neg (show ¬ (false=true) by decide)] at H;exact H
  clear H
  have H:=H1
  clear H1
  obtain rfl:=Option.some.inj H
  go_enter Tryz.func90,Tryz.ntmps90
  go_wp2_with (first|((with_reducible refine gate_callee (f:=113) rfl ?_);refine goesL_ (some 8) rfl rfl Tryz.func113 (by kernel_rfl) rfl #[.int .i64 a0] rfl (by (try simp only [List.map_toArray,List.map_cons,List.map_nil]);first|done|rfl|(simp only [List.length_drop,List.length_take];rfl)) ?_;(with_reducible refine (cmp_isNaN_int.calls a0 true _ A3.out).mono ?_);rintro e w' ⟨rfl,⟨nd,rfl⟩⟩;refine ⟨_,rfl,?_⟩)|((with_reducible refine gate_callee (f:=113) rfl ?_);refine goesL_ (some 10) rfl rfl Tryz.func113 (by kernel_rfl) rfl #[.int .i64 a1] rfl (by (try simp only [List.map_toArray,List.map_cons,List.map_nil]);first|done|rfl|(simp only [List.length_drop,List.length_take];rfl)) ?_;(with_reducible refine (cmp_isNaN_int.calls a1 false _ A4.out).mono ?_);rintro e w' ⟨rfl,⟨nd,rfl⟩⟩;refine ⟨_,rfl,?_⟩))
  go_ret
  exact ⟨by first|rfl|(simp;done)|(simp [*];done),by repeat (first|exact Drawn0.refl _|apply Drawn0.step)⟩
 replace c5:=Bool.eq_false_iff.mpr c5
 subst c5
 have H1:(if t451=true then (some 1) else (if a0 < a1 then (some (-1)) else (if a0 > a1 then (some 1) else (some 0))))=some r:=by rw [if_neg (show ¬ (false=true) by decide)] at H;exact H
 clear H
 have H:=H1
 clear H1
 by_cases c7:t451=true
 ·subst c7
  have H1:(some 1)=some r:=by rw [if_pos rfl] at H;exact H
  clear H
  have H:=H1
  clear H1
  obtain rfl:=Option.some.inj H
  go_enter Tryz.func90,Tryz.ntmps90
  go_wp2_with (first|((with_reducible refine gate_callee (f:=113) rfl ?_);refine goesL_ (some 8) rfl rfl Tryz.func113 (by kernel_rfl) rfl #[.int .i64 a0] rfl (by (try simp only [List.map_toArray,List.map_cons,List.map_nil]);first|done|rfl|(simp only [List.length_drop,List.length_take];rfl)) ?_;(with_reducible refine (cmp_isNaN_int.calls a0 false _ A3.out).mono ?_);rintro e w' ⟨rfl,⟨nd,rfl⟩⟩;refine ⟨_,rfl,?_⟩)|((with_reducible refine gate_callee (f:=113) rfl ?_);refine goesL_ (some 10) rfl rfl Tryz.func113 (by kernel_rfl) rfl #[.int .i64 a1] rfl (by (try simp only [List.map_toArray,List.map_cons,List.map_nil]);first|done|rfl|(simp only [List.length_drop,List.length_take];rfl)) ?_;(with_reducible refine (cmp_isNaN_int.calls a1 true _ A4.out).mono ?_);rintro e w' ⟨rfl,⟨nd,rfl⟩⟩;refine ⟨_,rfl,?_⟩))
  go_ret
  exact ⟨by first|rfl|(simp;done)|(simp [*];done),by repeat (first|exact Drawn0.refl _|apply Drawn0.step)⟩
 replace c7:=Bool.eq_false_iff.mpr c7
 subst c7
 have H1:(if a0 < a1 then (some (-1)) else (if a0 > a1 then (some 1) else (some 0)))=some r:=by rw [if_neg (show ¬ (false=true) by decide)] at H;exact H
 clear H
 have H:=H1
 clear H1
 by_cases c8:a0 < a1
 ·rw [if_pos c8] at H
  have c8b0:decide (a0 < a1)=true:=decide_eq_true c8
  clear c8
  obtain rfl:=Option.some.inj H
  go_enter Tryz.func90,Tryz.ntmps90
  go_wp2_with (first|((with_reducible refine gate_callee (f:=113) rfl ?_);refine goesL_ (some 8) rfl rfl Tryz.func113 (by kernel_rfl) rfl #[.int .i64 a0] rfl (by (try simp only [List.map_toArray,List.map_cons,List.map_nil]);first|done|rfl|(simp only [List.length_drop,List.length_take];rfl)) ?_;(with_reducible refine (cmp_isNaN_int.calls a0 false _ A3.out).mono ?_);rintro e w' ⟨rfl,⟨nd,rfl⟩⟩;refine ⟨_,rfl,?_⟩)|((with_reducible refine gate_callee (f:=113) rfl ?_);refine goesL_ (some 10) rfl rfl Tryz.func113 (by kernel_rfl) rfl #[.int .i64 a1] rfl (by (try simp only [List.map_toArray,List.map_cons,List.map_nil]);first|done|rfl|(simp only [List.length_drop,List.length_take];rfl)) ?_;(with_reducible refine (cmp_isNaN_int.calls a1 false _ A4.out).mono ?_);rintro e w' ⟨rfl,⟨nd,rfl⟩⟩;refine ⟨_,rfl,?_⟩))
  go_ret
  exact ⟨by first|rfl|(simp;done)|(simp [*];done),by repeat (first|exact Drawn0.refl _|apply Drawn0.step)⟩
 rw [if_neg c8] at H
 have c8b0:decide (a0 < a1)=false:=decide_eq_false c8
 clear c8
 by_cases c9:a0 > a1
 ·rw [if_pos c9] at H
  have c9b0:decide (a1 < a0)=true:=decide_eq_true c9
  clear c9
  obtain rfl:=Option.some.inj H
  go_enter Tryz.func90,Tryz.ntmps90
  go_wp2_with (first|((with_reducible refine gate_callee (f:=113) rfl ?_);refine goesL_ (some 8) rfl rfl Tryz.func113 (by kernel_rfl) rfl #[.int .i64 a0] rfl (by (try simp only [List.map_toArray,List.map_cons,List.map_nil]);first|done|rfl|(simp only [List.length_drop,List.length_take];rfl)) ?_;(with_reducible refine (cmp_isNaN_int.calls a0 false _ A3.out).mono ?_);rintro e w' ⟨rfl,⟨nd,rfl⟩⟩;refine ⟨_,rfl,?_⟩)|((with_reducible refine gate_callee (f:=113) rfl ?_);refine goesL_ (some 10) rfl rfl Tryz.func113 (by kernel_rfl) rfl #[.int .i64 a1] rfl (by (try simp only [List.map_toArray,List.map_cons,List.map_nil]);first|done|rfl|(simp only [List.length_drop,List.length_take];rfl)) ?_;(with_reducible refine (cmp_isNaN_int.calls a1 false _ A4.out).mono ?_);rintro e w' ⟨rfl,⟨nd,rfl⟩⟩;refine ⟨_,rfl,?_⟩))
  go_ret
  exact ⟨by first|rfl|(simp;done)|(simp [*];done),by repeat (first|exact Drawn0.refl _|apply Drawn0.step)⟩
 rw [if_neg c9] at H
 have c9b0:decide (a1 < a0)=false:=decide_eq_false c9
 clear c9
 obtain rfl:=Option.some.inj H
 go_enter Tryz.func90,Tryz.ntmps90
 go_wp2_with (first|((with_reducible refine gate_callee (f:=113) rfl ?_);refine goesL_ (some 8) rfl rfl Tryz.func113 (by kernel_rfl) rfl #[.int .i64 a0] rfl (by (try simp only [List.map_toArray,List.map_cons,List.map_nil]);first|done|rfl|(simp only [List.length_drop,List.length_take];rfl)) ?_;(with_reducible refine (cmp_isNaN_int.calls a0 false _ A3.out).mono ?_);rintro e w' ⟨rfl,⟨nd,rfl⟩⟩;refine ⟨_,rfl,?_⟩)|((with_reducible refine gate_callee (f:=113) rfl ?_);refine goesL_ (some 10) rfl rfl Tryz.func113 (by kernel_rfl) rfl #[.int .i64 a1] rfl (by (try simp only [List.map_toArray,List.map_cons,List.map_nil]);first|done|rfl|(simp only [List.length_drop,List.length_take];rfl)) ?_;(with_reducible refine (cmp_isNaN_int.calls a1 false _ A4.out).mono ?_);rintro e w' ⟨rfl,⟨nd,rfl⟩⟩;refine ⟨_,rfl,?_⟩))
 go_ret
 exact ⟨by first|rfl|(simp;done)|(simp [*];done),by repeat (first|exact Drawn0.refl _|apply Drawn0.step)⟩
end Go.Proofs.YtkgagdjogedoiaaGreat.MT
namespace Go.Proofs.YtkgagdjogedoiaaGreat.MT
open Go.RowKit Go.Proofs.YtkgagdjogedoiaaGreatW.PrintWords Go.Proofs.YtkgagdjogedoiaaGreatW.PrintLast Go.Proofs.YtkgagdjogedoiaaGreatW.PrintMore
attribute [local go_sem] max2_int min2_int max_two min_two max_three min_three max_four min_four   -- for this text's walks alone
set_option linter.unusedVariables false
set_option linter.unusedSimpArgs false
/-! ### wide_Cmp: function 40 -/
def wide_Cmp.j0:Nat→Int→Int→Bool→Bool→Int→Int→Int→Int→Bool→Int→Int→Int→Int→Option (Int)
 | 0,_,_,_,_,_,_,_,_,_,_,_,_,_=>none
 | k+1,x5,x6,x17,x453000,x453001,x453002,x453003,x453004,x454000,x454001,x454002,x454003,x454004=>if x17=true then ((cmp_Compare_int.f x5 x6).bind fun t456=>(some t456)) else ((wide_size.f x453001 x453002 x453003 x453004 x454001 x454002 x454003 x454004).bind fun t457=>(some (wrap64 (x5 * t457))))
def wide_Cmp.f (k:Nat) (a0_0:Bool) (a0_1:Int) (a0_2:Int) (a0_3:Int) (a0_4:Int) (a1_0:Bool) (a1_1:Int) (a1_2:Int) (a1_3:Int) (a1_4:Int):Option (Int):=(wide_Sign.f a0_0 a0_1 a0_2 a0_3 a0_4).bind fun t454=>((wide_Sign.f a1_0 a1_1 a1_2 a1_3 a1_4).bind fun t455=>(if t454=t455 then (wide_Cmp.j0 k t454 t455 (t454==0) a0_0 a0_1 a0_2 a0_3 a0_4 a1_0 a1_1 a1_2 a1_3 a1_4) else (wide_Cmp.j0 k t454 t455 true a0_0 a0_1 a0_2 a0_3 a0_4 a1_0 a1_1 a1_2 a1_3 a1_4)))
theorem wide_Cmp.mono_l:∀ k,(∀ y0 y1 y2 y3 y4 y5 y6 y7 y8 y9 y10 y11 y12,LeO (wide_Cmp.j0 k y0 y1 y2 y3 y4 y5 y6 y7 y8 y9 y10 y11 y12) (wide_Cmp.j0 (k+1) y0 y1 y2 y3 y4 y5 y6 y7 y8 y9 y10 y11 y12))
 | 0=>fun _ _ _ _ _ _ _ _ _ _ _ _ _ r h=>by simp [wide_Cmp.j0] at h
 | k+1=>by
  have ih0:=wide_Cmp.mono_l k
  ·intro y0 y1 y2 y3 y4 y5 y6 y7 y8 y9 y10 y11 y12
   unfold wide_Cmp.j0
   repeat' first
   | (with_reducible exact ih0 _ _ _ _ _ _ _ _ _ _ _ _ _)
   | (with_reducible exact LeO.refl _)
   | (with_reducible exact LeO.none _)
   | (with_reducible refine LeO.ite ?_ ?_)
   | (with_reducible refine LeO.bind ?_ (fun _=>?_))
   | exact ih0 _ _ _ _ _ _ _ _ _ _ _ _ _
   | exact LeO.none _
   | refine LeO.ite ?_ ?_
   | refine LeO.bind ?_ (fun _=>?_)
theorem wide_Cmp.mono:∀ a0 a1 a2 a3 a4 a5 a6 a7 a8 a9 k,LeO (wide_Cmp.f k a0 a1 a2 a3 a4 a5 a6 a7 a8 a9) (wide_Cmp.f (k+1) a0 a1 a2 a3 a4 a5 a6 a7 a8 a9):=by
 intro a0 a1 a2 a3 a4 a5 a6 a7 a8 a9 k
 have ih0:=wide_Cmp.mono_l k
 unfold wide_Cmp.f
 repeat' first
   | (with_reducible exact ih0 _ _ _ _ _ _ _ _ _ _ _ _ _)
   | (with_reducible exact LeO.refl _)
   | (with_reducible exact LeO.none _)
   | (with_reducible refine LeO.ite ?_ ?_)
   | (with_reducible refine LeO.bind ?_ (fun _=>?_))
   | exact ih0 _ _ _ _ _ _ _ _ _ _ _ _ _
   | exact LeO.none _
   | refine LeO.ite ?_ ?_
   | refine LeO.bind ?_ (fun _=>?_)
set_option maxHeartbeats 8000000 in
set_option maxRecDepth 100000 in
theorem wide_Cmp.calls (k:Nat) (a0_0:Bool) (a0_1:Int) (a0_2:Int) (a0_3:Int) (a0_4:Int) (a1_0:Bool) (a1_1:Int) (a1_2:Int) (a1_3:Int) (a1_4:Int) (r:Int) (w:World) (h:wide_Cmp.f k a0_0 a0_1 a0_2 a0_3 a0_4 a1_0 a1_1 a1_2 a1_3 a1_4=some r) :
  Calls Tryz.prog 64 #[.agg #[.bool a0_0,.int .u64 a0_1,.int .u64 a0_2,.int .u64 a0_3,.int .u64 a0_4],.agg #[.bool a1_0,.int .u64 a1_1,.int .u64 a1_2,.int .u64 a1_3,.int .u64 a1_4]] w fun e w'=>e = .returned (.int .i64 r)∧Below w.heap.size w w':=by
 have hu27:=Tryz.underlying96
 have hu25:=Tryz.underlying94
 have HB:=Aside0.mk (Below.refl w.heap.size w)
 have H:((wide_Sign.f a0_0 a0_1 a0_2 a0_3 a0_4).bind fun t454=>((wide_Sign.f a1_0 a1_1 a1_2 a1_3 a1_4).bind fun t455=>(if t454=t455 then (wide_Cmp.j0 k t454 t455 (t454==0) a0_0 a0_1 a0_2 a0_3 a0_4 a1_0 a1_1 a1_2 a1_3 a1_4) else (wide_Cmp.j0 k t454 t455 true a0_0 a0_1 a0_2 a0_3 a0_4 a1_0 a1_1 a1_2 a1_3 a1_4))))=some r:=h
 clear h
 replace H:=Option.bind_eq_some_iff.mp H
 obtain ⟨t454,A30,H⟩:=H
 replace H:((wide_Sign.f a1_0 a1_1 a1_2 a1_3 a1_4).bind fun t455=>(if t454=t455 then (wide_Cmp.j0 k t454 t455 (t454==0) a0_0 a0_1 a0_2 a0_3 a0_4 a1_0 a1_1 a1_2 a1_3 a1_4) else (wide_Cmp.j0 k t454 t455 true a0_0 a0_1 a0_2 a0_3 a0_4 a1_0 a1_1 a1_2 a1_3 a1_4)))=some r:=H
 have A3:=Aside0.mk A30
 clear A30
 replace H:=Option.bind_eq_some_iff.mp H
 obtain ⟨t455,A40,H⟩:=H
 replace H:(if t454=t455 then (wide_Cmp.j0 k t454 t455 (t454==0) a0_0 a0_1 a0_2 a0_3 a0_4 a1_0 a1_1 a1_2 a1_3 a1_4) else (wide_Cmp.j0 k t454 t455 true a0_0 a0_1 a0_2 a0_3 a0_4 a1_0 a1_1 a1_2 a1_3 a1_4))=some r:=H
 have A4:=Aside0.mk A40
 clear A40
 have HC5:=Aside0.mk H
 clear H
 go_enter Tryz.func64,Tryz.ntmps64
 try go_wp2_with (first|((with_reducible refine gate_dst (N:=2) rfl ?_);refine box_event ?hg (N:=2) ?hd (cs:=#[.bool a0_0,.int .u64 a0_1,.int .u64 a0_2,.int .u64 a0_3,.int .u64 a0_4]) (t:=96) ?hr ?_;(case hd=>rfl);(case hg=>rfl);(case hr=>first|(go_simp;done)|(go_simp;rfl));intro gb452 hg w6 hbox hb;have n0_:=Aside0.mk (below_step (by repeat (first|(with_reducible first|exact HB.out|apply qa|apply qn|apply qd)|exact HB.out)) hb);have n1_:=Aside0.mk (hbox);have n2_:=bgw HB hg;have n3_:=bgw HB hg;clear HB;have HB:=n0_;have BK452:=n1_;have GW452:=n2_;have GE452:=n3_;clear n0_ n1_ n2_ n3_;clear hb hbox hg)|((with_reducible refine gate_dst (N:=3) rfl ?_);refine box_event ?hg (N:=3) ?hd (cs:=#[.bool a1_0,.int .u64 a1_1,.int .u64 a1_2,.int .u64 a1_3,.int .u64 a1_4]) (t:=96) ?hr ?_;(case hd=>rfl);(case hg=>rfl);(case hr=>first|(go_simp;done)|(go_simp;rfl));intro gb453 hg w7 hbox hb;have n0_:=bb BK452 hb;have n1_:=Aside0.mk (below_step (by repeat (first|(with_reducible first|exact HB.out|apply qa|apply qn|apply qd|refine qs ?_ GE452.out)|exact HB.out)) hb);have n2_:=Aside0.mk (hbox);have n3_:=bgw HB hg;have n4_:=bgw HB hg;have n5_:=bnl BK452 hg;have n6_:=bng BK452 hg;clear BK452;clear HB;have BK452:=n0_;have HB:=n1_;have BK453:=n2_;have GW453:=n3_;have GE453:=n4_;have NB452_453:=n5_;have NB453_452:=n6_;clear n0_ n1_ n2_ n3_ n4_ n5_ n6_;clear hb hbox hg))
 have n0_:=Aside0.mk (blk_drew BK452.out)
 have n1_:=Aside0.mk (blk_drew BK453.out)
 have n2_:=Aside0.mk (below_drew1 HB.out)
 clear BK452
 clear BK453
 clear HB
 have BK452:=n0_
 have BK453:=n1_
 have HB:=n2_
 clear n0_ n1_ n2_
 refine start_ (n:=6) (S:=fun w'=>w'.cell? ⟨gb452,0,none⟩=some (.bool a0_0)∧w'.cell? ⟨gb452,1,none⟩=some (.int .u64 a0_1)∧w'.cell? ⟨gb452,2,none⟩=some (.int .u64 a0_2)∧w'.cell? ⟨gb452,3,none⟩=some (.int .u64 a0_3)∧w'.cell? ⟨gb452,4,none⟩=some (.int .u64 a0_4)∧w'.cell? ⟨gb453,0,none⟩=some (.bool a1_0)∧w'.cell? ⟨gb453,1,none⟩=some (.int .u64 a1_1)∧w'.cell? ⟨gb453,2,none⟩=some (.int .u64 a1_2)∧w'.cell? ⟨gb453,3,none⟩=some (.int .u64 a1_3)∧w'.cell? ⟨gb453,4,none⟩=some (.int .u64 a1_4)) (ds:=[]) #[Ff,Ff,Ff,Ff,Ff,Ff] (by kernel_rfl) rfl rfl ⟨(blk_cell BK452.out 0).trans rfl,(blk_cell BK452.out 1).trans rfl,(blk_cell BK452.out 2).trans rfl,(blk_cell BK452.out 3).trans rfl,(blk_cell BK452.out 4).trans rfl,(blk_cell BK453.out 0).trans rfl,(blk_cell BK453.out 1).trans rfl,(blk_cell BK453.out 2).trans rfl,(blk_cell BK453.out 3).trans rfl,(blk_cell BK453.out 4).trans rfl⟩ (fun hHeld=>?_)
 generalize w7.drew=w8 at BK452 BK453 HB hHeld ⊢
 refine take_ (i:=0) (N:=some 7) (v:=?_) (a':=?_) #[Tt,Ff,Ff,Ff,Ff,Ff] rfl rfl (by kernel_rfl) (fun _ _ _ h=>h) (Or.inl ⟨by rfl,?_⟩) hHeld ?_ ?_
 rotate_left
 ·rintro w' ⟨s0,s1,s2,s3,s4,s5,s6,s7,s8,s9⟩
  go_simp
  with_reducible rfl
 rotate_left
 ·simp only [Act.put,List.setIfInBounds_toArray,List.set_cons_zero,List.set_cons_succ,i64_w,i32_w]
  rfl
 refine take_ (i:=2) (N:=some 9) (v:=?_) (a':=?_) #[Tt,Ff,Tt,Ff,Ff,Ff] rfl rfl (by kernel_rfl) (fun _ _ _ h=>h) (Or.inl ⟨by rfl,?_⟩) hHeld ?_ ?_
 rotate_left
 ·rintro w' ⟨s0,s1,s2,s3,s4,s5,s6,s7,s8,s9⟩
  go_simp
  with_reducible rfl
 rotate_left
 ·simp only [Act.put,List.setIfInBounds_toArray,List.set_cons_zero,List.set_cons_succ,i64_w,i32_w]
  rfl
 refine one_ (i:=1) (N:=some 8) #[Tt,Tt,Tt,Ff,Ff,Ff] rfl rfl (by kernel_rfl) (by decide) (fun K hK=>?_)
 refine goes_ Tryz.func66 (by kernel_rfl) rfl #[.agg #[.bool a0_0,.int .u64 a0_1,.int .u64 a0_2,.int .u64 a0_3,.int .u64 a0_4]] (by rfl) rfl rfl (by (try simp only [List.map_toArray,List.map_cons,List.map_nil]);first|done|rfl|(simp only [List.length_drop,List.length_take];rfl)) ?_
 with_reducible refine (wide_Sign.calls a0_0 a0_1 a0_2 a0_3 a0_4 t454 _ A3.out).mono ?_
 rintro e w9 ⟨rfl,hb⟩
 refine ⟨_,rfl,?_⟩
 have n0_:=bb BK452 hb
 have n1_:=bb BK453 hb
 have n2_:=Aside0.mk (below_step (by repeat (first|(with_reducible first|exact HB.out|apply qa|apply qn|apply qd|refine qs ?_ GE452.out|refine qs ?_ GE453.out)|exact HB.out)) hb)
 clear BK452
 clear BK453
 clear HB
 have BK452:=n0_
 have BK453:=n1_
 have HB:=n2_
 clear n0_ n1_ n2_
 (try clear hb)
 (try clear hb2)
 (try clear hk)
 (try clear hi)
 refine hK.out _ _ ⟨(blk_cell BK452.out 0).trans rfl,(blk_cell BK452.out 1).trans rfl,(blk_cell BK452.out 2).trans rfl,(blk_cell BK452.out 3).trans rfl,(blk_cell BK452.out 4).trans rfl,(blk_cell BK453.out 0).trans rfl,(blk_cell BK453.out 1).trans rfl,(blk_cell BK453.out 2).trans rfl,(blk_cell BK453.out 3).trans rfl,(blk_cell BK453.out 4).trans rfl⟩ (fun hHeld=>?_)
 clear hK K
 refine norm_ (a':=?_) ?_ ?_
 rotate_left
 ·show Act.put _ (some 8) _=_
  simp only [Act.put,List.setIfInBounds_toArray,List.set_cons_zero,List.set_cons_succ,i64_w,i32_w]
  rfl
 refine one_ (i:=3) (N:=some 10) #[Tt,Tt,Tt,Tt,Ff,Ff] rfl rfl (by kernel_rfl) (by decide) (fun K hK=>?_)
 refine goes_ Tryz.func66 (by kernel_rfl) rfl #[.agg #[.bool a1_0,.int .u64 a1_1,.int .u64 a1_2,.int .u64 a1_3,.int .u64 a1_4]] (by rfl) rfl rfl (by (try simp only [List.map_toArray,List.map_cons,List.map_nil]);first|done|rfl|(simp only [List.length_drop,List.length_take];rfl)) ?_
 with_reducible refine (wide_Sign.calls a1_0 a1_1 a1_2 a1_3 a1_4 t455 _ A4.out).mono ?_
 rintro e w10 ⟨rfl,hb⟩
 refine ⟨_,rfl,?_⟩
 have n0_:=bb BK452 hb
 have n1_:=bb BK453 hb
 have n2_:=Aside0.mk (below_step (by repeat (first|(with_reducible first|exact HB.out|apply qa|apply qn|apply qd|refine qs ?_ GE452.out|refine qs ?_ GE453.out)|exact HB.out)) hb)
 clear BK452
 clear BK453
 clear HB
 have BK452:=n0_
 have BK453:=n1_
 have HB:=n2_
 clear n0_ n1_ n2_
 (try clear hb)
 (try clear hb2)
 (try clear hk)
 (try clear hi)
 refine hK.out _ _ ⟨(blk_cell BK452.out 0).trans rfl,(blk_cell BK452.out 1).trans rfl,(blk_cell BK452.out 2).trans rfl,(blk_cell BK452.out 3).trans rfl,(blk_cell BK452.out 4).trans rfl,(blk_cell BK453.out 0).trans rfl,(blk_cell BK453.out 1).trans rfl,(blk_cell BK453.out 2).trans rfl,(blk_cell BK453.out 3).trans rfl,(blk_cell BK453.out 4).trans rfl⟩ (fun hHeld=>?_)
 clear hK K
 refine norm_ (a':=?_) ?_ ?_
 rotate_left
 ·show Act.put _ (some 10) _=_
  simp only [Act.put,List.setIfInBounds_toArray,List.set_cons_zero,List.set_cons_succ,i64_w,i32_w]
  rfl
 refine pure_ (i:=4) (N:=some 5) (v:=?_) (a':=?_) #[Tt,Tt,Tt,Tt,Tt,Ff] rfl rfl (by kernel_rfl) (fun _ _ _ h=>h) (Or.inl ⟨by rfl,?_⟩) ?_ ?_
 rotate_left
 ·intro w'
  go_simp
  with_reducible rfl
 rotate_left
 ·simp only [Act.put,List.setIfInBounds_toArray,List.set_cons_zero,List.set_cons_succ,i64_w,i32_w]
  rfl
 refine pure_ (i:=5) (N:=some 6) (v:=?_) (a':=?_) #[Tt,Tt,Tt,Tt,Tt,Tt] rfl rfl (by kernel_rfl) (fun _ _ _ h=>h) (Or.inl ⟨by rfl,?_⟩) ?_ ?_
 rotate_left
 ·intro w'
  go_simp
  with_reducible rfl
 rotate_left
 ·simp only [Act.put,List.setIfInBounds_toArray,List.set_cons_zero,List.set_cons_succ,i64_w,i32_w]
  rfl
 refine done_ (by kernel_rfl) ?_
 go_upto_region 2 with (fail)
 go_cut [17] (fun v17 wc=>∃ (kq:Nat) (x17_4:Bool),v17 = .bool x17_4∧Aside0 (wide_Cmp.j0 kq t454 t455 x17_4 a0_0 a0_1 a0_2 a0_3 a0_4 a1_0 a1_1 a1_2 a1_3 a1_4=some r)∧Aside0 (kq≤k)∧Aside0 (wc.heap[gb452]?=some (.cells #[.bool a0_0,.int .u64 a0_1,.int .u64 a0_2,.int .u64 a0_3,.int .u64 a0_4] 96 (0,0)))∧Aside0 (wc.heap[gb453]?=some (.cells #[.bool a1_0,.int .u64 a1_1,.int .u64 a1_2,.int .u64 a1_3,.int .u64 a1_4] 96 (0,0)))∧Aside0 (Below w.heap.size w wc))
 case first =>
  have H:=HC5.out
  clear HC5
  by_cases c11:t454=t455
  rotate_left
  ·rw [if_neg c11] at H
   have c11b0:(t454==t455)=false:=beq_eq_false_iff_ne.mpr c11
   have c11b1:(t454 != t455)=true:=bne_iff_ne.mpr c11
   (first|rw [c11b0]|(simp only [i64_w,i32_w];rw [c11b0])|skip)
   have H':=Aside0.mk H
   clear H
   go_wp2
   go_meet
   case rel=>exact ⟨_,(true),(by first|rfl|(simp;done)|(simp [*];done)),H',⟨by first|omega|exact Nat.le_refl _⟩,⟨by (with_reducible repeat (first|refine cn ?_ _|refine cd ?_|refine ca ?_ _));exact BK452.out⟩,⟨by (with_reducible repeat (first|refine cn ?_ _|refine cd ?_|refine ca ?_ _));exact BK453.out⟩,⟨by repeat (first|(with_reducible first|exact HB.out|apply qa|apply qn|apply qd|refine qs ?_ GE452.out|refine qs ?_ GE453.out)|exact HB.out)⟩⟩
  rw [if_pos c11] at H
  have c11b0:(t454==t455)=true:=beq_iff_eq.mpr c11
  have c11b1:(t454 != t455)=false:=bne_eq_false_iff_eq.mpr c11
  clear c11
  (first|rw [c11b0]|(simp only [i64_w,i32_w];rw [c11b0])|skip)
  have H':=Aside0.mk H
  clear H
  go_wp2
  go_meet
  case rel=>exact ⟨_,((t454==0)),(by first|rfl|(simp;done)|(simp [*];done)),H',⟨by first|omega|exact Nat.le_refl _⟩,⟨by (with_reducible repeat (first|refine cn ?_ _|refine cd ?_|refine ca ?_ _));exact BK452.out⟩,⟨by (with_reducible repeat (first|refine cn ?_ _|refine cd ?_|refine ca ?_ _));exact BK453.out⟩,⟨by repeat (first|(with_reducible first|exact HB.out|apply qa|apply qn|apply qd|refine qs ?_ GE452.out|refine qs ?_ GE453.out)|exact HB.out)⟩⟩
 case rest =>
  clear HC5
  try clear c1
  try clear p2
  try clear c4
  try clear c11
  try clear c11b0
  try clear c11b1
  obtain ⟨kq,x17_4,rfl,HA,HJ4,BK452,BK453,HB⟩:=hcut
  cases kq with
  | zero=>exact absurd HA.out (by simp [wide_Cmp.j0])
  | succ kj4 =>
   have H:=HA.out
   clear HA
   simp only [wide_Cmp.j0] at H
   by_cases c12:x17_4=true
   ·subst c12
    have H1:((cmp_Compare_int.f t454 t455).bind fun t456=>(some t456))=some r:=by rw [if_pos rfl] at H;exact H
    clear H
    have H:=H1
    clear H1
    replace H:=Option.bind_eq_some_iff.mp H
    obtain ⟨t456,A130,H⟩:=H
    replace H:(some t456)=some r:=H
    have A13:=Aside0.mk A130
    clear A130
    obtain rfl:=Option.some.inj H
    go_wp2_with (first|((with_reducible refine gate_callee (f:=90) rfl ?_);refine goesL_ (some 20) rfl rfl Tryz.func90 (by kernel_rfl) rfl #[.int .i64 t454,.int .i64 t455] rfl (by (try simp only [List.map_toArray,List.map_cons,List.map_nil]);first|done|rfl|(simp only [List.length_drop,List.length_take];rfl)) ?_;(with_reducible refine (cmp_Compare_int.calls t454 t455 t456 _ A13.out).mono ?_);rintro e w' ⟨rfl,⟨nd,rfl⟩⟩;refine ⟨_,rfl,?_⟩))
    go_ret
    exact ⟨by first|rfl|(simp [errW_none,errW_some]<;>rfl)|(simp [*,errW_none,errW_some]<;>rfl),by repeat (first|(with_reducible first|exact HB.out|apply qa|apply qn|apply qd|refine qs ?_ GE452.out|refine qs ?_ GE453.out)|exact HB.out)⟩
   replace c12:=Bool.eq_false_iff.mpr c12
   subst c12
   have H1:((wide_size.f a0_1 a0_2 a0_3 a0_4 a1_1 a1_2 a1_3 a1_4).bind fun t457=>(some (wrap64 (t454 * t457))))=some r:=by rw [if_neg (show ¬ (false=true) by decide)] at H;exact H
   clear H
   have H:=H1
   clear H1
   replace H:=Option.bind_eq_some_iff.mp H
   obtain ⟨t457,A140,H⟩:=H
   replace H:(some (wrap64 (t454 * t457)))=some r:=H
   have A14:=Aside0.mk A140
   clear A140
   obtain rfl:=Option.some.inj H
   have hnb15:=NB452_453.out
   have hnc15:=NB453_452.out
   obtain ⟨hcz16_0,hcz16_1,hcz16_2,hcz16_3,hcz16_4⟩:=cl5 BK452.out
   obtain ⟨hfz16_0,hfz16_1,hfz16_2,hfz16_3,hfz16_4⟩:=fr5 BK452.out
   obtain ⟨hcz17_0,hcz17_1,hcz17_2,hcz17_3,hcz17_4⟩:=cl5 BK453.out
   obtain ⟨hfz17_0,hfz17_1,hfz17_2,hfz17_3,hfz17_4⟩:=fr5 BK453.out
   go_wp2_with (first|((with_reducible refine gate_callee (f:=93) rfl ?_);refine goesL_ (some 26) rfl rfl Tryz.func93 (by kernel_rfl) rfl #[.agg #[.int .u64 a0_1,.int .u64 a0_2,.int .u64 a0_3,.int .u64 a0_4],.agg #[.int .u64 a1_1,.int .u64 a1_2,.int .u64 a1_3,.int .u64 a1_4]] rfl (by (try simp only [List.map_toArray,List.map_cons,List.map_nil]);first|done|rfl|(simp only [List.length_drop,List.length_take];rfl)) ?_;(with_reducible refine (wide_size.calls a0_1 a0_2 a0_3 a0_4 a1_1 a1_2 a1_3 a1_4 t457 _ A14.out).mono ?_);rintro e w18 ⟨rfl,hb⟩;refine ⟨_,rfl,?_⟩;have n0_:=bb BK452 hb;have n1_:=bb BK453 hb;have n2_:=Aside0.mk (below_step (by repeat (first|(with_reducible first|exact HB.out|apply qa|apply qn|apply qd|refine qs ?_ GE452.out|refine qs ?_ GE453.out)|exact HB.out)) hb);clear BK452;clear BK453;clear HB;have BK452:=n0_;have BK453:=n1_;have HB:=n2_;clear n0_ n1_ n2_;(try clear hb);(try clear hb2);(try clear hk);(try clear hi)))
   go_ret
   exact ⟨by first|rfl|(simp [errW_none,errW_some]<;>rfl)|(simp [*,errW_none,errW_some]<;>rfl),by repeat (first|(with_reducible first|exact HB.out|apply qa|apply qn|apply qd|refine qs ?_ GE452.out|refine qs ?_ GE453.out)|exact HB.out)⟩
end Go.Proofs.YtkgagdjogedoiaaGreat.MT
namespace Go.Proofs.YtkgagdjogedoiaaGreat.MT
open Go.RowKit Go.Proofs.YtkgagdjogedoiaaGreatW.PrintWords Go.Proofs.YtkgagdjogedoiaaGreatW.PrintLast Go.Proofs.YtkgagdjogedoiaaGreatW.PrintMore
attribute [local go_sem] max2_int min2_int max_two min_two max_three min_three max_four min_four   -- for this text's walks alone
set_option linter.unusedVariables false
set_option linter.unusedSimpArgs false
end Go.Proofs.YtkgagdjogedoiaaGreat.MT
namespace Go.Proofs.YtkgagdjogedoiaaGreat.MT
open Go.RowKit Go.Proofs.YtkgagdjogedoiaaGreatW.PrintWords Go.Proofs.YtkgagdjogedoiaaGreatW.PrintLast Go.Proofs.YtkgagdjogedoiaaGreatW.PrintMore
attribute [local go_sem] max2_int min2_int max_two min_two max_three min_three max_four min_four   -- for this text's walks alone
set_option linter.unusedVariables false
set_option linter.unusedSimpArgs false
/-! ### wide_Mul: function 21 -/
def wide_Mul.l0:Nat→List (S27)→Int→Int→Bool→Int→Int→Int→Int→Option (Bool × Int × Int × Int × Int × Int)
 | 0,_,_,_,_,_,_,_,_=>none
 | k+1,x10,x11,x12,x123000,x123001,x123002,x123003,x123004=>if x12 < x11 then (if 0≤x12 then (if x12 < (x10.length:Int) then ((wide_mul.f x123000 x123001 x123002 x123003 x123004 ((rd_T27 x10 x12).f0) ((rd_T27 x10 x12).f1.f0) ((rd_T27 x10 x12).f1.f1) ((rd_T27 x10 x12).f1.f2) ((rd_T27 x10 x12).f1.f3)).bind fun bt125=>(if x12=0 then ((wide_of.f ((rd_T27 x10 x12).f0) ((rd_T27 x10 x12).f1.f0) ((rd_T27 x10 x12).f1.f1) ((rd_T27 x10 x12).f1.f2) ((rd_T27 x10 x12).f1.f3)).bind fun bt132=>(if bt125.2.2.2.2.2=true then (wide_Mul.l0 k x10 x11 (wrap64 (x12+1)) bt132.1 bt132.2.1 bt132.2.2.1 bt132.2.2.2.1 bt132.2.2.2.2) else (some (false,0,0,0,0,10)))) else (if bt125.2.2.2.2.2=true then (wide_Mul.l0 k x10 x11 (wrap64 (x12+1)) bt125.1 bt125.2.1 bt125.2.2.1 bt125.2.2.2.1 bt125.2.2.2.2.1) else (some (false,0,0,0,0,10))))) else (none)) else (none)) else (some (x123000,x123001,x123002,x123003,x123004,0))
def wide_Mul.f (k:Nat) (l0:List (S27)):Option (Bool × Int × Int × Int × Int × Int):=(wide_Of.f 1).bind fun bt117=>(wide_Mul.l0 k l0 (l0.length:Int) 0 bt117.1 bt117.2.1 bt117.2.2.1 bt117.2.2.2.1 bt117.2.2.2.2)
theorem wide_Mul.mono_l:∀ k,(∀ y0 y1 y2 y3 y4 y5 y6 y7,LeO (wide_Mul.l0 k y0 y1 y2 y3 y4 y5 y6 y7) (wide_Mul.l0 (k+1) y0 y1 y2 y3 y4 y5 y6 y7))
 | 0=>fun _ _ _ _ _ _ _ _ r h=>by simp [wide_Mul.l0] at h
 | k+1=>by
  have ih0:=wide_Mul.mono_l k
  ·intro y0 y1 y2 y3 y4 y5 y6 y7
   unfold wide_Mul.l0
   repeat' first
   | (with_reducible exact ih0 _ _ _ _ _ _ _ _)
   | (with_reducible exact LeO.refl _)
   | (with_reducible exact LeO.none _)
   | (with_reducible refine LeO.ite ?_ ?_)
   | (with_reducible refine LeO.bind ?_ (fun _=>?_))
   | exact ih0 _ _ _ _ _ _ _ _
   | exact LeO.none _
   | refine LeO.ite ?_ ?_
   | refine LeO.bind ?_ (fun _=>?_)
theorem wide_Mul.mono:∀ a0 k,LeO (wide_Mul.f k a0) (wide_Mul.f (k+1) a0):=by
 intro a0 k
 have ih0:=wide_Mul.mono_l k
 unfold wide_Mul.f
 repeat' first
   | (with_reducible exact ih0 _ _ _ _ _ _ _ _)
   | (with_reducible exact LeO.refl _)
   | (with_reducible exact LeO.none _)
   | (with_reducible refine LeO.ite ?_ ?_)
   | (with_reducible refine LeO.bind ?_ (fun _=>?_))
   | exact ih0 _ _ _ _ _ _ _ _
   | exact LeO.none _
   | refine LeO.ite ?_ ?_
   | refine LeO.bind ?_ (fun _=>?_)
set_option maxHeartbeats 8000000 in
set_option maxRecDepth 100000 in
theorem wide_Mul.calls (k:Nat) (A0:Option Addr) (c0:Nat) (l0:List (S27)) (r1:Bool) (r2:Int) (r3:Int) (r4:Int) (r5:Int) (r6:Int) (w:World) (hr0:Kd.C k27 w A0 l0.length l0) (hc0:l0.length≤c0) (h:wide_Mul.f k l0=some (r1,r2,r3,r4,r5,r6)) :
  Calls Tryz.prog 96 #[.slice A0 l0.length c0] w fun e w'=>e = .returned (.tuple #[.agg #[.bool r1,.int .u64 r2,.int .u64 r3,.int .u64 r4,.int .u64 r5],.int .i64 r6])∧Below w.heap.size w w':=by
 have hu27:=Tryz.underlying96
 have hu25:=Tryz.underlying94
 have HR0:=Aside0.mk hr0
 have HC0:=Aside0.mk hc0
 clear hr0 hc0
 have HB:=Aside0.mk (Below.refl w.heap.size w)
 have H:((wide_Of.f 1).bind fun bt117=>(wide_Mul.l0 k l0 (l0.length:Int) 0 bt117.1 bt117.2.1 bt117.2.2.1 bt117.2.2.2.1 bt117.2.2.2.2))=some (r1,r2,r3,r4,r5,r6):=h
 clear h
 replace H:=Option.bind_eq_some_iff.mp H
 obtain ⟨⟨t117,t118,t119,t120,t121⟩,A20,H⟩:=H
 replace H:(wide_Mul.l0 k l0 (l0.length:Int) 0 t117 t118 t119 t120 t121)=some (r1,r2,r3,r4,r5,r6):=H
 have A2:=Aside0.mk A20
 clear A20
 have H':=Aside0.mk H
 clear H
 go_enter Tryz.func96,Tryz.ntmps96
 go_wp2_with (first|((with_reducible refine gate_dst (N:=2) rfl ?_);refine box_event ?hg (N:=2) ?hd (cs:=#[.bool false,.int .u64 0,.int .u64 0,.int .u64 0,.int .u64 0]) (t:=96) ?hr ?_;(case hd=>rfl);(case hg=>rfl);(case hr=>first|(go_simp;done)|(go_simp;rfl));intro gb116 hg w3 hbox hb;have n0_:=Aside0.mk (below_step (by repeat (first|(with_reducible first|exact HB.out|apply qa|apply qn|apply qd)|exact HB.out)) hb);have n1_:=Aside0.mk (hbox);have n2_:=bgw HB hg;have n3_:=bgw HB hg;clear HB;have HB:=n0_;have BK116:=n1_;have GW116:=n2_;have GE116:=n3_;clear n0_ n1_ n2_ n3_;clear hb hbox hg)|((with_reducible refine gate_callee (f:=68) rfl ?_);refine goesL_ (some 9) rfl rfl Tryz.func68 (by kernel_rfl) rfl #[.int .i64 1] rfl (by (try simp only [List.map_toArray,List.map_cons,List.map_nil]);first|done|rfl|(simp only [List.length_drop,List.length_take];rfl)) ?_;(with_reducible refine (wide_Of.calls 1 t117 t118 t119 t120 t121 _ A2.out).mono ?_);rintro e w4 ⟨rfl,hb⟩;refine ⟨_,rfl,?_⟩;have n0_:=bb BK116 hb;have n1_:=Aside0.mk (below_step (by repeat (first|(with_reducible first|exact HB.out|apply qa|apply qn|apply qd|refine qs ?_ GE116.out)|exact HB.out)) hb);clear BK116;clear HB;have BK116:=n0_;have HB:=n1_;clear n0_ n1_;(try clear hb);(try clear hb2);(try clear hk);(try clear hi))|((with_reducible refine gate_dst (N:=4) rfl ?_);refine box_event ?hg (N:=4) ?hd (cs:=#[.bool false,.int .u64 0,.int .u64 0,.int .u64 0,.int .u64 0]) (t:=96) ?hr ?_;(case hd=>rfl);(case hg=>rfl);(case hr=>first|(go_simp;done)|(go_simp;rfl));intro gb122 hg w5 hbox hb;have n0_:=bb BK116 hb;have n1_:=Aside0.mk (below_step (by repeat (first|(with_reducible first|exact HB.out|apply qa|apply qn|apply qd|refine qs ?_ GE116.out)|exact HB.out)) hb);have n2_:=Aside0.mk (hbox);have n3_:=bgw HB hg;have n4_:=bgw HB hg;have n5_:=bnl BK116 hg;have n6_:=bng BK116 hg;clear BK116;clear HB;have BK116:=n0_;have HB:=n1_;have BK122:=n2_;have GW122:=n3_;have GE122:=n4_;have NB116_122:=n5_;have NB122_116:=n6_;clear n0_ n1_ n2_ n3_ n4_ n5_ n6_;clear hb hbox hg;have hnb6:=NB122_116.out;have hnc6:=NB116_122.out;obtain ⟨hcz7_0,hcz7_1,hcz7_2,hcz7_3,hcz7_4⟩:=cl5 BK122.out;obtain ⟨hfz7_0,hfz7_1,hfz7_2,hfz7_3,hfz7_4⟩:=fr5 BK122.out))
 go_loopg [12] k (fun kq v12 w'=>∃ (x12_1:Int) (x117000_1:Bool) (x117001_1:Int) (x117002_1:Int) (x117003_1:Int) (x117004_1:Int) (x123000_1:Bool) (x123001_1:Int) (x123002_1:Int) (x123003_1:Int) (x123004_1:Int),v12 = .int .i64 x12_1∧Aside0 (wide_Mul.l0 kq l0 (l0.length:Int) x12_1 x123000_1 x123001_1 x123002_1 x123003_1 x123004_1=some (r1,r2,r3,r4,r5,r6))∧Aside0 (kq≤k)∧Aside0 (w'.heap[gb116]?=some (.cells #[.bool x117000_1,.int .u64 x117001_1,.int .u64 x117002_1,.int .u64 x117003_1,.int .u64 x117004_1] 96 (0,0)))∧Aside0 (w'.heap[gb122]?=some (.cells #[.bool x123000_1,.int .u64 x123001_1,.int .u64 x123002_1,.int .u64 x123003_1,.int .u64 x123004_1] 96 (0,0)))∧Aside0 (Below w.heap.size w w'))
 case atStart=>exact ⟨(0),(false),(0),(0),(0),(0),(t117),(t118),(t119),(t120),(t121),(by first|rfl|(simp;done)|(simp [*];done)),H',⟨Nat.le_refl _⟩,⟨by repeat (with_reducible first|exact lb BK116.out|refine blk_far ?_ NB116_122.out _|refine cn ?_ _|refine cd ?_|refine ca ?_ _)⟩,⟨by repeat (with_reducible first|exact bp5 (lb BK122.out)|refine cn ?_ _|refine cd ?_|refine ca ?_ _)⟩,⟨by repeat (first|(with_reducible first|exact HB.out|apply qa|apply qn|apply qd|refine qs ?_ GE116.out|refine qs ?_ GE122.out)|exact HB.out)⟩⟩
 case round =>
  clear H'
  try clear c2
  try clear p2
  try clear c3
  try clear c6
  try clear hcz7_0
  try clear hcz7_1
  try clear hcz7_2
  try clear hcz7_3
  try clear hcz7_4
  try clear hfz7_0
  try clear hfz7_1
  try clear hfz7_2
  try clear hfz7_3
  try clear hfz7_4
  obtain ⟨x12_1,x117000_1,x117001_1,x117002_1,x117003_1,x117004_1,x123000_1,x123001_1,x123002_1,x123003_1,x123004_1,rfl,HA,HK1,BK116,BK122,HB⟩:=hrel
  cases gk with
  | zero=>exact absurd HA.out (by simp [wide_Mul.l0])
  | succ k1 =>
   have H:=HA.out
   clear HA
   simp only [wide_Mul.l0] at H
   by_cases c8:x12_1 < (l0.length:Int)
   rotate_left
   ·rw [if_neg c8] at H
    have c8b0:decide (x12_1 < (l0.length:Int))=false:=decide_eq_false c8
    clear c8
    simp only [Option.some.injEq,Prod.mk.injEq] at H
    obtain ⟨rfl,rfl,rfl,rfl,rfl,rfl⟩:=H
    have hnb74:=NB122_116.out
    have hnc74:=NB116_122.out
    obtain ⟨hcz75_0,hcz75_1,hcz75_2,hcz75_3,hcz75_4⟩:=cl5 BK122.out
    obtain ⟨hfz75_0,hfz75_1,hfz75_2,hfz75_3,hfz75_4⟩:=fr5 BK122.out
    obtain ⟨hcz76_0,hcz76_1,hcz76_2,hcz76_3,hcz76_4⟩:=cl5 BK116.out
    obtain ⟨hfz76_0,hfz76_1,hfz76_2,hfz76_3,hfz76_4⟩:=fr5 BK116.out
    go_wp2
    refine bodyPost_ret (results_ct rfl _ _ gb116 96 #[.bool x123000_1,.int .u64 x123001_1,.int .u64 x123002_1,.int .u64 x123003_1,.int .u64 x123004_1] (0,0) _ rfl (by (with_reducible repeat (first|refine cn ?_ _|refine cd ?_|refine ca ?_ _));exact bp5 (lb BK116.out)) Tryz.underlying96 rfl (by kernel_rfl)) rfl ?_
    exact ⟨by first|rfl|(simp [errW_none,errW_some]<;>rfl)|(simp [*,errW_none,errW_some]<;>rfl),by repeat (first|(with_reducible first|exact HB.out|apply qa|apply qn|apply qd|refine qs ?_ GE116.out|refine qs ?_ GE122.out)|exact HB.out)⟩
   rw [if_pos c8] at H
   have c8b0:decide (x12_1 < (l0.length:Int))=true:=decide_eq_true c8
   clear c8
   by_cases c9:0≤x12_1
   rotate_left
   ·rw [if_neg c9] at H
    exact absurd H (by simp)
   rw [if_pos c9] at H
   have c9b0:decide (0≤x12_1)=true:=decide_eq_true c9
   clear c9
   by_cases c10:x12_1 < (l0.length:Int)
   rotate_left
   ·rw [if_neg c10] at H
    exact absurd H (by simp)
   rw [if_pos c10] at H
   have c10b0:decide (x12_1 < (l0.length:Int))=true:=decide_eq_true c10
   clear c10
   replace H:=Option.bind_eq_some_iff.mp H
   obtain ⟨⟨t125,t126,t127,t128,t129,t130⟩,A110,H⟩:=H
   replace H:(if x12_1=0 then ((wide_of.f ((rd_T27 l0 x12_1).f0) ((rd_T27 l0 x12_1).f1.f0) ((rd_T27 l0 x12_1).f1.f1) ((rd_T27 l0 x12_1).f1.f2) ((rd_T27 l0 x12_1).f1.f3)).bind fun bt132=>(if t130=true then (wide_Mul.l0 k1 l0 (l0.length:Int) (wrap64 (x12_1+1)) bt132.1 bt132.2.1 bt132.2.2.1 bt132.2.2.2.1 bt132.2.2.2.2) else (some (false,0,0,0,0,10)))) else (if t130=true then (wide_Mul.l0 k1 l0 (l0.length:Int) (wrap64 (x12_1+1)) t125 t126 t127 t128 t129) else (some (false,0,0,0,0,10))))=some (r1,r2,r3,r4,r5,r6):=H
   have A11:=Aside0.mk A110
   clear A110
   by_cases c12:x12_1=0
   rotate_left
   ·rw [if_neg c12] at H
    have c12b0:(x12_1==0)=false:=beq_eq_false_iff_ne.mpr c12
    have c12b1:(x12_1 != 0)=true:=bne_iff_ne.mpr c12
    by_cases c47:t130=true
    rotate_left
    ·replace c47:=Bool.eq_false_iff.mpr c47
     subst c47
     have H1:(some (false,0,0,0,0,10))=some (r1,r2,r3,r4,r5,r6):=by rw [if_neg (show ¬ (false=true) by decide)] at H;exact H
     clear H
     have H:=H1
     clear H1
     simp only [Option.some.injEq,Prod.mk.injEq] at H
     obtain ⟨rfl,rfl,rfl,rfl,rfl,rfl⟩:=H
     have p123:0≤(x12_1:Int):=of_decide_eq_true (by first|(with_reducible assumption)|assumption)
     have q123:x12_1 < (l0.length:Int):=of_decide_eq_true (by first|(with_reducible assumption)|assumption)
     obtain ⟨ad123,e123,hx123_0,hx123_1,hx123_2,hx123_3,hx123_4⟩:=at_T27 HR0.out x12_1 p123 q123
     cases e123
     replace hx123_0:=(HB.out.cell (World.block_lt_of_cell? w _ hx123_0)).trans hx123_0
     replace hx123_1:=(HB.out.cell (World.block_lt_of_cell? w _ hx123_1)).trans hx123_1
     replace hx123_2:=(HB.out.cell (World.block_lt_of_cell? w _ hx123_2)).trans hx123_2
     replace hx123_3:=(HB.out.cell (World.block_lt_of_cell? w _ hx123_3)).trans hx123_3
     replace hx123_4:=(HB.out.cell (World.block_lt_of_cell? w _ hx123_4)).trans hx123_4
     replace p123:=eq_true p123
     replace q123:=eq_true q123
     go_wp2_with (first|((with_reducible refine gate_dst (N:=6) rfl ?_);refine box_event ?hg (N:=6) ?hd (cs:=#[.bool false,.int .u64 0,.int .u64 0,.int .u64 0,.int .u64 0]) (t:=96) ?hr ?_;(case hd=>rfl);(case hg=>rfl);(case hr=>first|(go_simp;done)|(go_simp;rfl));intro gb124 hg w61 hbox hb;have n0_:=bb BK116 hb;have n1_:=bb BK122 hb;have n2_:=Aside0.mk (below_step (by repeat (first|(with_reducible first|exact HB.out|apply qa|apply qn|apply qd|refine qs ?_ GE116.out|refine qs ?_ GE122.out)|exact HB.out)) hb);have n3_:=Aside0.mk (hbox);have n4_:=bgw HB hg;have n5_:=bgw HB hg;have n6_:=bnl BK116 hg;have n7_:=bng BK116 hg;have n8_:=bnl BK122 hg;have n9_:=bng BK122 hg;clear BK116;clear BK122;clear HB;have BK116:=n0_;have BK122:=n1_;have HB:=n2_;have BK124:=n3_;have GW124:=n4_;have GE124:=n5_;have NB116_124:=n6_;have NB124_116:=n7_;have NB122_124:=n8_;have NB124_122:=n9_;clear n0_ n1_ n2_ n3_ n4_ n5_ n6_ n7_ n8_ n9_;clear hb hbox hg;have hnb62:=NB124_116.out;have hnc62:=NB116_124.out;have hnb63:=NB124_122.out;have hnc63:=NB122_124.out;obtain ⟨hcz64_0,hcz64_1,hcz64_2,hcz64_3,hcz64_4⟩:=cl5 BK124.out;obtain ⟨hfz64_0,hfz64_1,hfz64_2,hfz64_3,hfz64_4⟩:=fr5 BK124.out;have hnb65:=NB122_116.out;have hnc65:=NB116_122.out;obtain ⟨hcz66_0,hcz66_1,hcz66_2,hcz66_3,hcz66_4⟩:=cl5 BK122.out;obtain ⟨hfz66_0,hfz66_1,hfz66_2,hfz66_3,hfz66_4⟩:=fr5 BK122.out)|((with_reducible refine gate_callee (f:=126) rfl ?_);refine goesL_ (some 20) rfl rfl Tryz.func126 (by kernel_rfl) rfl #[.agg #[.bool x123000_1,.int .u64 x123001_1,.int .u64 x123002_1,.int .u64 x123003_1,.int .u64 x123004_1],.agg #[.bool ((rd_T27 l0 x12_1).f0),.int .u64 ((rd_T27 l0 x12_1).f1.f0),.int .u64 ((rd_T27 l0 x12_1).f1.f1),.int .u64 ((rd_T27 l0 x12_1).f1.f2),.int .u64 ((rd_T27 l0 x12_1).f1.f3)]] rfl (by (try simp only [List.map_toArray,List.map_cons,List.map_nil]);first|done|rfl|(simp only [List.length_drop,List.length_take];rfl)) ?_;(with_reducible refine (wide_mul.calls x123000_1 x123001_1 x123002_1 x123003_1 x123004_1 ((rd_T27 l0 x12_1).f0) ((rd_T27 l0 x12_1).f1.f0) ((rd_T27 l0 x12_1).f1.f1) ((rd_T27 l0 x12_1).f1.f2) ((rd_T27 l0 x12_1).f1.f3) t125 t126 t127 t128 t129 false _ A11.out).mono ?_);rintro e w67 ⟨rfl,hb⟩;refine ⟨_,rfl,?_⟩;have n0_:=Aside0.mk (blk_below (g:=gb116) (o := .cells #[.bool x117000_1,.int .u64 x117001_1,.int .u64 x117002_1,.int .u64 x117003_1,.int .u64 x117004_1] 96 (0,0)) (by repeat (with_reducible first|exact lb BK116.out|refine blk_far ?_ NB116_124.out _|refine cn ?_ _|refine cd ?_|refine ca ?_ _)) hb);have n1_:=Aside0.mk (blk_below (g:=gb122) (o := .cells #[.bool x123000_1,.int .u64 x123001_1,.int .u64 x123002_1,.int .u64 x123003_1,.int .u64 x123004_1] 96 (0,0)) (by repeat (with_reducible first|exact lb BK122.out|refine blk_far ?_ NB122_124.out _|refine cn ?_ _|refine cd ?_|refine ca ?_ _)) hb);have n2_:=Aside0.mk (blk_below (g:=gb124) (o := .cells #[.bool ((rd_T27 l0 x12_1).f0),.int .u64 ((rd_T27 l0 x12_1).f1.f0),.int .u64 ((rd_T27 l0 x12_1).f1.f1),.int .u64 ((rd_T27 l0 x12_1).f1.f2),.int .u64 ((rd_T27 l0 x12_1).f1.f3)] 96 (0,0)) (by (with_reducible repeat (first|refine cn ?_ _|refine cd ?_|refine ca ?_ _));exact bp5 (lb BK124.out)) hb);have n3_:=Aside0.mk (below_step (by repeat (first|(with_reducible first|exact HB.out|apply qa|apply qn|apply qd|refine qs ?_ GE116.out|refine qs ?_ GE122.out|refine qs ?_ GE124.out)|exact HB.out)) hb);clear BK116;clear BK122;clear BK124;clear HB;have BK116:=n0_;have BK122:=n1_;have BK124:=n2_;have HB:=n3_;clear n0_ n1_ n2_ n3_;(try clear hb);(try clear hb2);(try clear hk);(try clear hi))|((with_reducible refine gate_dst (N:=7) rfl ?_);refine box_event ?hg (N:=7) ?hd (cs:=#[.bool false,.int .u64 0,.int .u64 0,.int .u64 0,.int .u64 0]) (t:=96) ?hr ?_;(case hd=>rfl);(case hg=>rfl);(case hr=>first|(go_simp;done)|(go_simp;rfl));intro gb131 hg w68 hbox hb;have n0_:=bb BK116 hb;have n1_:=bb BK122 hb;have n2_:=bb BK124 hb;have n3_:=Aside0.mk (below_step (by repeat (first|(with_reducible first|exact HB.out|apply qa|apply qn|apply qd|refine qs ?_ GE116.out|refine qs ?_ GE122.out|refine qs ?_ GE124.out)|exact HB.out)) hb);have n4_:=Aside0.mk (hbox);have n5_:=bgw HB hg;have n6_:=bgw HB hg;have n7_:=bnl BK116 hg;have n8_:=bng BK116 hg;have n9_:=bnl BK122 hg;have n10_:=bng BK122 hg;have n11_:=bnl BK124 hg;have n12_:=bng BK124 hg;clear BK116;clear BK122;clear BK124;clear HB;have BK116:=n0_;have BK122:=n1_;have BK124:=n2_;have HB:=n3_;have BK131:=n4_;have GW131:=n5_;have GE131:=n6_;have NB116_131:=n7_;have NB131_116:=n8_;have NB122_131:=n9_;have NB131_122:=n10_;have NB124_131:=n11_;have NB131_124:=n12_;clear n0_ n1_ n2_ n3_ n4_ n5_ n6_ n7_ n8_ n9_ n10_ n11_ n12_;clear hb hbox hg;have hnb69:=NB131_116.out;have hnc69:=NB116_131.out;have hnb70:=NB131_122.out;have hnc70:=NB122_131.out;have hnb71:=NB131_124.out;have hnc71:=NB124_131.out;obtain ⟨hcz72_0,hcz72_1,hcz72_2,hcz72_3,hcz72_4⟩:=cl5 BK131.out;obtain ⟨hfz72_0,hfz72_1,hfz72_2,hfz72_3,hfz72_4⟩:=fr5 BK131.out;obtain ⟨hcz73_0,hcz73_1,hcz73_2,hcz73_3,hcz73_4⟩:=cl5 BK116.out;obtain ⟨hfz73_0,hfz73_1,hfz73_2,hfz73_3,hfz73_4⟩:=fr5 BK116.out))
     refine bodyPost_ret (results_ct rfl _ _ gb116 96 #[.bool false,.int .u64 0,.int .u64 0,.int .u64 0,.int .u64 0] (0,0) _ rfl (by (with_reducible repeat (first|refine cn ?_ _|refine cd ?_|refine ca ?_ _));refine blk_put (cs:=#[.bool false,.int .u64 0,.int .u64 0,.int .u64 0,.int .u64 x117004_1]) ?_ 4 _ rfl;(with_reducible repeat (first|refine cn ?_ _|refine cd ?_|refine ca ?_ _));refine blk_put (cs:=#[.bool false,.int .u64 0,.int .u64 0,.int .u64 x117003_1,.int .u64 x117004_1]) ?_ 3 _ rfl;(with_reducible repeat (first|refine cn ?_ _|refine cd ?_|refine ca ?_ _));refine blk_put (cs:=#[.bool false,.int .u64 0,.int .u64 x117002_1,.int .u64 x117003_1,.int .u64 x117004_1]) ?_ 2 _ rfl;(with_reducible repeat (first|refine cn ?_ _|refine cd ?_|refine ca ?_ _));refine blk_put (cs:=#[.bool false,.int .u64 x117001_1,.int .u64 x117002_1,.int .u64 x117003_1,.int .u64 x117004_1]) ?_ 1 _ rfl;(with_reducible repeat (first|refine cn ?_ _|refine cd ?_|refine ca ?_ _));refine blk_put (cs:=#[.bool x117000_1,.int .u64 x117001_1,.int .u64 x117002_1,.int .u64 x117003_1,.int .u64 x117004_1]) ?_ 0 _ rfl;(with_reducible repeat (first|refine cn ?_ _|refine cd ?_|refine ca ?_ _));refine blk_far ?_ NB116_131.out _;(with_reducible repeat (first|refine cn ?_ _|refine cd ?_|refine ca ?_ _));refine blk_far ?_ NB116_131.out _;(with_reducible repeat (first|refine cn ?_ _|refine cd ?_|refine ca ?_ _));refine blk_far ?_ NB116_131.out _;(with_reducible repeat (first|refine cn ?_ _|refine cd ?_|refine ca ?_ _));refine blk_far ?_ NB116_131.out _;(with_reducible repeat (first|refine cn ?_ _|refine cd ?_|refine ca ?_ _));refine blk_far ?_ NB116_131.out _;(with_reducible repeat (first|refine cn ?_ _|refine cd ?_|refine ca ?_ _));exact BK116.out) Tryz.underlying96 rfl (by kernel_rfl)) rfl ?_
     exact ⟨by first|rfl|(simp [errW_none,errW_some]<;>rfl)|(simp [*,errW_none,errW_some]<;>rfl),by repeat (first|(with_reducible first|exact HB.out|apply qa|apply qn|apply qd|refine qs ?_ GE116.out|refine qs ?_ GE122.out|refine qs ?_ GE124.out|refine qs ?_ GE131.out)|exact HB.out)⟩
    subst c47
    have H1:(wide_Mul.l0 k1 l0 (l0.length:Int) (wrap64 (x12_1+1)) t125 t126 t127 t128 t129)=some (r1,r2,r3,r4,r5,r6):=by rw [if_pos rfl] at H;exact H
    clear H
    have H:=H1
    clear H1
    have H':=Aside0.mk H
    clear H
    have p123:0≤(x12_1:Int):=of_decide_eq_true (by first|(with_reducible assumption)|assumption)
    have q123:x12_1 < (l0.length:Int):=of_decide_eq_true (by first|(with_reducible assumption)|assumption)
    obtain ⟨ad123,e123,hx123_0,hx123_1,hx123_2,hx123_3,hx123_4⟩:=at_T27 HR0.out x12_1 p123 q123
    cases e123
    replace hx123_0:=(HB.out.cell (World.block_lt_of_cell? w _ hx123_0)).trans hx123_0
    replace hx123_1:=(HB.out.cell (World.block_lt_of_cell? w _ hx123_1)).trans hx123_1
    replace hx123_2:=(HB.out.cell (World.block_lt_of_cell? w _ hx123_2)).trans hx123_2
    replace hx123_3:=(HB.out.cell (World.block_lt_of_cell? w _ hx123_3)).trans hx123_3
    replace hx123_4:=(HB.out.cell (World.block_lt_of_cell? w _ hx123_4)).trans hx123_4
    replace p123:=eq_true p123
    replace q123:=eq_true q123
    go_wp2_with (first|((with_reducible refine gate_dst (N:=6) rfl ?_);refine box_event ?hg (N:=6) ?hd (cs:=#[.bool false,.int .u64 0,.int .u64 0,.int .u64 0,.int .u64 0]) (t:=96) ?hr ?_;(case hd=>rfl);(case hg=>rfl);(case hr=>first|(go_simp;done)|(go_simp;rfl));intro gb124 hg w48 hbox hb;have n0_:=bb BK116 hb;have n1_:=bb BK122 hb;have n2_:=Aside0.mk (below_step (by repeat (first|(with_reducible first|exact HB.out|apply qa|apply qn|apply qd|refine qs ?_ GE116.out|refine qs ?_ GE122.out)|exact HB.out)) hb);have n3_:=Aside0.mk (hbox);have n4_:=bgw HB hg;have n5_:=bgw HB hg;have n6_:=bnl BK116 hg;have n7_:=bng BK116 hg;have n8_:=bnl BK122 hg;have n9_:=bng BK122 hg;clear BK116;clear BK122;clear HB;have BK116:=n0_;have BK122:=n1_;have HB:=n2_;have BK124:=n3_;have GW124:=n4_;have GE124:=n5_;have NB116_124:=n6_;have NB124_116:=n7_;have NB122_124:=n8_;have NB124_122:=n9_;clear n0_ n1_ n2_ n3_ n4_ n5_ n6_ n7_ n8_ n9_;clear hb hbox hg;have hnb49:=NB124_116.out;have hnc49:=NB116_124.out;have hnb50:=NB124_122.out;have hnc50:=NB122_124.out;obtain ⟨hcz51_0,hcz51_1,hcz51_2,hcz51_3,hcz51_4⟩:=cl5 BK124.out;obtain ⟨hfz51_0,hfz51_1,hfz51_2,hfz51_3,hfz51_4⟩:=fr5 BK124.out;have hnb52:=NB122_116.out;have hnc52:=NB116_122.out;obtain ⟨hcz53_0,hcz53_1,hcz53_2,hcz53_3,hcz53_4⟩:=cl5 BK122.out;obtain ⟨hfz53_0,hfz53_1,hfz53_2,hfz53_3,hfz53_4⟩:=fr5 BK122.out)|((with_reducible refine gate_callee (f:=126) rfl ?_);refine goesL_ (some 20) rfl rfl Tryz.func126 (by kernel_rfl) rfl #[.agg #[.bool x123000_1,.int .u64 x123001_1,.int .u64 x123002_1,.int .u64 x123003_1,.int .u64 x123004_1],.agg #[.bool ((rd_T27 l0 x12_1).f0),.int .u64 ((rd_T27 l0 x12_1).f1.f0),.int .u64 ((rd_T27 l0 x12_1).f1.f1),.int .u64 ((rd_T27 l0 x12_1).f1.f2),.int .u64 ((rd_T27 l0 x12_1).f1.f3)]] rfl (by (try simp only [List.map_toArray,List.map_cons,List.map_nil]);first|done|rfl|(simp only [List.length_drop,List.length_take];rfl)) ?_;(with_reducible refine (wide_mul.calls x123000_1 x123001_1 x123002_1 x123003_1 x123004_1 ((rd_T27 l0 x12_1).f0) ((rd_T27 l0 x12_1).f1.f0) ((rd_T27 l0 x12_1).f1.f1) ((rd_T27 l0 x12_1).f1.f2) ((rd_T27 l0 x12_1).f1.f3) t125 t126 t127 t128 t129 true _ A11.out).mono ?_);rintro e w54 ⟨rfl,hb⟩;refine ⟨_,rfl,?_⟩;have n0_:=Aside0.mk (blk_below (g:=gb116) (o := .cells #[.bool x117000_1,.int .u64 x117001_1,.int .u64 x117002_1,.int .u64 x117003_1,.int .u64 x117004_1] 96 (0,0)) (by repeat (with_reducible first|exact lb BK116.out|refine blk_far ?_ NB116_124.out _|refine cn ?_ _|refine cd ?_|refine ca ?_ _)) hb);have n1_:=Aside0.mk (blk_below (g:=gb122) (o := .cells #[.bool x123000_1,.int .u64 x123001_1,.int .u64 x123002_1,.int .u64 x123003_1,.int .u64 x123004_1] 96 (0,0)) (by repeat (with_reducible first|exact lb BK122.out|refine blk_far ?_ NB122_124.out _|refine cn ?_ _|refine cd ?_|refine ca ?_ _)) hb);have n2_:=Aside0.mk (blk_below (g:=gb124) (o := .cells #[.bool ((rd_T27 l0 x12_1).f0),.int .u64 ((rd_T27 l0 x12_1).f1.f0),.int .u64 ((rd_T27 l0 x12_1).f1.f1),.int .u64 ((rd_T27 l0 x12_1).f1.f2),.int .u64 ((rd_T27 l0 x12_1).f1.f3)] 96 (0,0)) (by (with_reducible repeat (first|refine cn ?_ _|refine cd ?_|refine ca ?_ _));exact bp5 (lb BK124.out)) hb);have n3_:=Aside0.mk (below_step (by repeat (first|(with_reducible first|exact HB.out|apply qa|apply qn|apply qd|refine qs ?_ GE116.out|refine qs ?_ GE122.out|refine qs ?_ GE124.out)|exact HB.out)) hb);clear BK116;clear BK122;clear BK124;clear HB;have BK116:=n0_;have BK122:=n1_;have BK124:=n2_;have HB:=n3_;clear n0_ n1_ n2_ n3_;(try clear hb);(try clear hb2);(try clear hk);(try clear hi))|((with_reducible refine gate_dst (N:=7) rfl ?_);refine box_event ?hg (N:=7) ?hd (cs:=#[.bool false,.int .u64 0,.int .u64 0,.int .u64 0,.int .u64 0]) (t:=96) ?hr ?_;(case hd=>rfl);(case hg=>rfl);(case hr=>first|(go_simp;done)|(go_simp;rfl));intro gb131 hg w55 hbox hb;have n0_:=bb BK116 hb;have n1_:=bb BK122 hb;have n2_:=bb BK124 hb;have n3_:=Aside0.mk (below_step (by repeat (first|(with_reducible first|exact HB.out|apply qa|apply qn|apply qd|refine qs ?_ GE116.out|refine qs ?_ GE122.out|refine qs ?_ GE124.out)|exact HB.out)) hb);have n4_:=Aside0.mk (hbox);have n5_:=bgw HB hg;have n6_:=bgw HB hg;have n7_:=bnl BK116 hg;have n8_:=bng BK116 hg;have n9_:=bnl BK122 hg;have n10_:=bng BK122 hg;have n11_:=bnl BK124 hg;have n12_:=bng BK124 hg;clear BK116;clear BK122;clear BK124;clear HB;have BK116:=n0_;have BK122:=n1_;have BK124:=n2_;have HB:=n3_;have BK131:=n4_;have GW131:=n5_;have GE131:=n6_;have NB116_131:=n7_;have NB131_116:=n8_;have NB122_131:=n9_;have NB131_122:=n10_;have NB124_131:=n11_;have NB131_124:=n12_;clear n0_ n1_ n2_ n3_ n4_ n5_ n6_ n7_ n8_ n9_ n10_ n11_ n12_;clear hb hbox hg;have hnb56:=NB131_116.out;have hnc56:=NB116_131.out;have hnb57:=NB131_122.out;have hnc57:=NB122_131.out;have hnb58:=NB131_124.out;have hnc58:=NB124_131.out;obtain ⟨hcz59_0,hcz59_1,hcz59_2,hcz59_3,hcz59_4⟩:=cl5 BK131.out;obtain ⟨hfz59_0,hfz59_1,hfz59_2,hfz59_3,hfz59_4⟩:=fr5 BK131.out;obtain ⟨hcz60_0,hcz60_1,hcz60_2,hcz60_3,hcz60_4⟩:=cl5 BK122.out;obtain ⟨hfz60_0,hfz60_1,hfz60_2,hfz60_3,hfz60_4⟩:=fr5 BK122.out))
    go_roundg k1
    case measure=>have:=HK1.out;omega
    case rel=>exact ⟨(wrap64 (x12_1+1)),(x117000_1),(x117001_1),(x117002_1),(x117003_1),(x117004_1),(t125),(t126),(t127),(t128),(t129),(by first|rfl|(simp;done)|(simp [*];done)),H',⟨by have:=HK1.out;omega⟩,⟨by repeat (with_reducible first|exact lb BK116.out|refine blk_far ?_ NB116_122.out _|refine blk_far ?_ NB116_131.out _|refine cn ?_ _|refine cd ?_|refine ca ?_ _)⟩,⟨by (with_reducible repeat (first|refine cn ?_ _|refine cd ?_|refine ca ?_ _));refine blk_put (cs:=#[.bool t125,.int .u64 t126,.int .u64 t127,.int .u64 t128,.int .u64 x123004_1]) ?_ 4 _ rfl;(with_reducible repeat (first|refine cn ?_ _|refine cd ?_|refine ca ?_ _));refine blk_put (cs:=#[.bool t125,.int .u64 t126,.int .u64 t127,.int .u64 x123003_1,.int .u64 x123004_1]) ?_ 3 _ rfl;(with_reducible repeat (first|refine cn ?_ _|refine cd ?_|refine ca ?_ _));refine blk_put (cs:=#[.bool t125,.int .u64 t126,.int .u64 x123002_1,.int .u64 x123003_1,.int .u64 x123004_1]) ?_ 2 _ rfl;(with_reducible repeat (first|refine cn ?_ _|refine cd ?_|refine ca ?_ _));refine blk_put (cs:=#[.bool t125,.int .u64 x123001_1,.int .u64 x123002_1,.int .u64 x123003_1,.int .u64 x123004_1]) ?_ 1 _ rfl;(with_reducible repeat (first|refine cn ?_ _|refine cd ?_|refine ca ?_ _));refine blk_put (cs:=#[.bool x123000_1,.int .u64 x123001_1,.int .u64 x123002_1,.int .u64 x123003_1,.int .u64 x123004_1]) ?_ 0 _ rfl;(with_reducible repeat (first|refine cn ?_ _|refine cd ?_|refine ca ?_ _));refine blk_far ?_ NB122_131.out _;(with_reducible repeat (first|refine cn ?_ _|refine cd ?_|refine ca ?_ _));refine blk_far ?_ NB122_131.out _;(with_reducible repeat (first|refine cn ?_ _|refine cd ?_|refine ca ?_ _));refine blk_far ?_ NB122_131.out _;(with_reducible repeat (first|refine cn ?_ _|refine cd ?_|refine ca ?_ _));refine blk_far ?_ NB122_131.out _;(with_reducible repeat (first|refine cn ?_ _|refine cd ?_|refine ca ?_ _));refine blk_far ?_ NB122_131.out _;(with_reducible repeat (first|refine cn ?_ _|refine cd ?_|refine ca ?_ _));exact BK122.out⟩,⟨by repeat (first|(with_reducible first|exact HB.out|apply qa|apply qn|apply qd|refine qs ?_ GE116.out|refine qs ?_ GE122.out|refine qs ?_ GE124.out|refine qs ?_ GE131.out)|exact HB.out)⟩⟩
   rw [if_pos c12] at H
   have c12b0:(x12_1==0)=true:=beq_iff_eq.mpr c12
   have c12b1:(x12_1 != 0)=false:=bne_eq_false_iff_eq.mpr c12
   clear c12
   replace H:=Option.bind_eq_some_iff.mp H
   obtain ⟨⟨t132,t133,t134,t135,t136⟩,A130,H⟩:=H
   replace H:(if t130=true then (wide_Mul.l0 k1 l0 (l0.length:Int) (wrap64 (x12_1+1)) t132 t133 t134 t135 t136) else (some (false,0,0,0,0,10)))=some (r1,r2,r3,r4,r5,r6):=H
   have A13:=Aside0.mk A130
   clear A130
   by_cases c14:t130=true
   rotate_left
   ·replace c14:=Bool.eq_false_iff.mpr c14
    subst c14
    have H1:(some (false,0,0,0,0,10))=some (r1,r2,r3,r4,r5,r6):=by rw [if_neg (show ¬ (false=true) by decide)] at H;exact H
    clear H
    have H:=H1
    clear H1
    simp only [Option.some.injEq,Prod.mk.injEq] at H
    obtain ⟨rfl,rfl,rfl,rfl,rfl,rfl⟩:=H
    have p123:0≤(x12_1:Int):=of_decide_eq_true (by first|(with_reducible assumption)|assumption)
    have q123:x12_1 < (l0.length:Int):=of_decide_eq_true (by first|(with_reducible assumption)|assumption)
    obtain ⟨ad123,e123,hx123_0,hx123_1,hx123_2,hx123_3,hx123_4⟩:=at_T27 HR0.out x12_1 p123 q123
    cases e123
    replace hx123_0:=(HB.out.cell (World.block_lt_of_cell? w _ hx123_0)).trans hx123_0
    replace hx123_1:=(HB.out.cell (World.block_lt_of_cell? w _ hx123_1)).trans hx123_1
    replace hx123_2:=(HB.out.cell (World.block_lt_of_cell? w _ hx123_2)).trans hx123_2
    replace hx123_3:=(HB.out.cell (World.block_lt_of_cell? w _ hx123_3)).trans hx123_3
    replace hx123_4:=(HB.out.cell (World.block_lt_of_cell? w _ hx123_4)).trans hx123_4
    replace p123:=eq_true p123
    replace q123:=eq_true q123
    go_wp2_with (first|((with_reducible refine gate_dst (N:=6) rfl ?_);refine box_event ?hg (N:=6) ?hd (cs:=#[.bool false,.int .u64 0,.int .u64 0,.int .u64 0,.int .u64 0]) (t:=96) ?hr ?_;(case hd=>rfl);(case hg=>rfl);(case hr=>first|(go_simp;done)|(go_simp;rfl));intro gb124 hg w31 hbox hb;have n0_:=bb BK116 hb;have n1_:=bb BK122 hb;have n2_:=Aside0.mk (below_step (by repeat (first|(with_reducible first|exact HB.out|apply qa|apply qn|apply qd|refine qs ?_ GE116.out|refine qs ?_ GE122.out)|exact HB.out)) hb);have n3_:=Aside0.mk (hbox);have n4_:=bgw HB hg;have n5_:=bgw HB hg;have n6_:=bnl BK116 hg;have n7_:=bng BK116 hg;have n8_:=bnl BK122 hg;have n9_:=bng BK122 hg;clear BK116;clear BK122;clear HB;have BK116:=n0_;have BK122:=n1_;have HB:=n2_;have BK124:=n3_;have GW124:=n4_;have GE124:=n5_;have NB116_124:=n6_;have NB124_116:=n7_;have NB122_124:=n8_;have NB124_122:=n9_;clear n0_ n1_ n2_ n3_ n4_ n5_ n6_ n7_ n8_ n9_;clear hb hbox hg;have hnb32:=NB124_116.out;have hnc32:=NB116_124.out;have hnb33:=NB124_122.out;have hnc33:=NB122_124.out;obtain ⟨hcz34_0,hcz34_1,hcz34_2,hcz34_3,hcz34_4⟩:=cl5 BK124.out;obtain ⟨hfz34_0,hfz34_1,hfz34_2,hfz34_3,hfz34_4⟩:=fr5 BK124.out;have hnb35:=NB122_116.out;have hnc35:=NB116_122.out;obtain ⟨hcz36_0,hcz36_1,hcz36_2,hcz36_3,hcz36_4⟩:=cl5 BK122.out;obtain ⟨hfz36_0,hfz36_1,hfz36_2,hfz36_3,hfz36_4⟩:=fr5 BK122.out)|((with_reducible refine gate_callee (f:=126) rfl ?_);refine goesL_ (some 20) rfl rfl Tryz.func126 (by kernel_rfl) rfl #[.agg #[.bool x123000_1,.int .u64 x123001_1,.int .u64 x123002_1,.int .u64 x123003_1,.int .u64 x123004_1],.agg #[.bool ((rd_T27 l0 x12_1).f0),.int .u64 ((rd_T27 l0 x12_1).f1.f0),.int .u64 ((rd_T27 l0 x12_1).f1.f1),.int .u64 ((rd_T27 l0 x12_1).f1.f2),.int .u64 ((rd_T27 l0 x12_1).f1.f3)]] rfl (by (try simp only [List.map_toArray,List.map_cons,List.map_nil]);first|done|rfl|(simp only [List.length_drop,List.length_take];rfl)) ?_;(with_reducible refine (wide_mul.calls x123000_1 x123001_1 x123002_1 x123003_1 x123004_1 ((rd_T27 l0 x12_1).f0) ((rd_T27 l0 x12_1).f1.f0) ((rd_T27 l0 x12_1).f1.f1) ((rd_T27 l0 x12_1).f1.f2) ((rd_T27 l0 x12_1).f1.f3) t125 t126 t127 t128 t129 false _ A11.out).mono ?_);rintro e w37 ⟨rfl,hb⟩;refine ⟨_,rfl,?_⟩;have n0_:=Aside0.mk (blk_below (g:=gb116) (o := .cells #[.bool x117000_1,.int .u64 x117001_1,.int .u64 x117002_1,.int .u64 x117003_1,.int .u64 x117004_1] 96 (0,0)) (by repeat (with_reducible first|exact lb BK116.out|refine blk_far ?_ NB116_124.out _|refine cn ?_ _|refine cd ?_|refine ca ?_ _)) hb);have n1_:=Aside0.mk (blk_below (g:=gb122) (o := .cells #[.bool x123000_1,.int .u64 x123001_1,.int .u64 x123002_1,.int .u64 x123003_1,.int .u64 x123004_1] 96 (0,0)) (by repeat (with_reducible first|exact lb BK122.out|refine blk_far ?_ NB122_124.out _|refine cn ?_ _|refine cd ?_|refine ca ?_ _)) hb);have n2_:=Aside0.mk (blk_below (g:=gb124) (o := .cells #[.bool ((rd_T27 l0 x12_1).f0),.int .u64 ((rd_T27 l0 x12_1).f1.f0),.int .u64 ((rd_T27 l0 x12_1).f1.f1),.int .u64 ((rd_T27 l0 x12_1).f1.f2),.int .u64 ((rd_T27 l0 x12_1).f1.f3)] 96 (0,0)) (by (with_reducible repeat (first|refine cn ?_ _|refine cd ?_|refine ca ?_ _));exact bp5 (lb BK124.out)) hb);have n3_:=Aside0.mk (below_step (by repeat (first|(with_reducible first|exact HB.out|apply qa|apply qn|apply qd|refine qs ?_ GE116.out|refine qs ?_ GE122.out|refine qs ?_ GE124.out)|exact HB.out)) hb);clear BK116;clear BK122;clear BK124;clear HB;have BK116:=n0_;have BK122:=n1_;have BK124:=n2_;have HB:=n3_;clear n0_ n1_ n2_ n3_;(try clear hb);(try clear hb2);(try clear hk);(try clear hi))|((with_reducible refine gate_dst (N:=7) rfl ?_);refine box_event ?hg (N:=7) ?hd (cs:=#[.bool false,.int .u64 0,.int .u64 0,.int .u64 0,.int .u64 0]) (t:=96) ?hr ?_;(case hd=>rfl);(case hg=>rfl);(case hr=>first|(go_simp;done)|(go_simp;rfl));intro gb131 hg w38 hbox hb;have n0_:=bb BK116 hb;have n1_:=bb BK122 hb;have n2_:=bb BK124 hb;have n3_:=Aside0.mk (below_step (by repeat (first|(with_reducible first|exact HB.out|apply qa|apply qn|apply qd|refine qs ?_ GE116.out|refine qs ?_ GE122.out|refine qs ?_ GE124.out)|exact HB.out)) hb);have n4_:=Aside0.mk (hbox);have n5_:=bgw HB hg;have n6_:=bgw HB hg;have n7_:=bnl BK116 hg;have n8_:=bng BK116 hg;have n9_:=bnl BK122 hg;have n10_:=bng BK122 hg;have n11_:=bnl BK124 hg;have n12_:=bng BK124 hg;clear BK116;clear BK122;clear BK124;clear HB;have BK116:=n0_;have BK122:=n1_;have BK124:=n2_;have HB:=n3_;have BK131:=n4_;have GW131:=n5_;have GE131:=n6_;have NB116_131:=n7_;have NB131_116:=n8_;have NB122_131:=n9_;have NB131_122:=n10_;have NB124_131:=n11_;have NB131_124:=n12_;clear n0_ n1_ n2_ n3_ n4_ n5_ n6_ n7_ n8_ n9_ n10_ n11_ n12_;clear hb hbox hg;have hnb39:=NB131_116.out;have hnc39:=NB116_131.out;have hnb40:=NB131_122.out;have hnc40:=NB122_131.out;have hnb41:=NB131_124.out;have hnc41:=NB124_131.out;obtain ⟨hcz42_0,hcz42_1,hcz42_2,hcz42_3,hcz42_4⟩:=cl5 BK131.out;obtain ⟨hfz42_0,hfz42_1,hfz42_2,hfz42_3,hfz42_4⟩:=fr5 BK131.out;obtain ⟨hcz43_0,hcz43_1,hcz43_2,hcz43_3,hcz43_4⟩:=cl5 BK124.out;obtain ⟨hfz43_0,hfz43_1,hfz43_2,hfz43_3,hfz43_4⟩:=fr5 BK124.out)|((with_reducible refine gate_callee (f:=97) rfl ?_);refine goesL_ (some 29) rfl rfl Tryz.func97 (by kernel_rfl) rfl #[.bool ((rd_T27 l0 x12_1).f0),.agg #[.int .u64 ((rd_T27 l0 x12_1).f1.f0),.int .u64 ((rd_T27 l0 x12_1).f1.f1),.int .u64 ((rd_T27 l0 x12_1).f1.f2),.int .u64 ((rd_T27 l0 x12_1).f1.f3)]] rfl (by (try simp only [List.map_toArray,List.map_cons,List.map_nil]);first|done|rfl|(simp only [List.length_drop,List.length_take];rfl)) ?_;(with_reducible refine (wide_of.calls ((rd_T27 l0 x12_1).f0) ((rd_T27 l0 x12_1).f1.f0) ((rd_T27 l0 x12_1).f1.f1) ((rd_T27 l0 x12_1).f1.f2) ((rd_T27 l0 x12_1).f1.f3) t132 t133 t134 t135 t136 _ A13.out).mono ?_);rintro e w44 ⟨rfl,hb⟩;refine ⟨_,rfl,?_⟩;have n0_:=Aside0.mk (blk_below (g:=gb116) (o := .cells #[.bool x117000_1,.int .u64 x117001_1,.int .u64 x117002_1,.int .u64 x117003_1,.int .u64 x117004_1] 96 (0,0)) (by repeat (with_reducible first|exact lb BK116.out|refine blk_far ?_ NB116_131.out _|refine cn ?_ _|refine cd ?_|refine ca ?_ _)) hb);have n1_:=Aside0.mk (blk_below (g:=gb122) (o := .cells #[.bool x123000_1,.int .u64 x123001_1,.int .u64 x123002_1,.int .u64 x123003_1,.int .u64 x123004_1] 96 (0,0)) (by repeat (with_reducible first|exact lb BK122.out|refine blk_far ?_ NB122_131.out _|refine cn ?_ _|refine cd ?_|refine ca ?_ _)) hb);have n2_:=Aside0.mk (blk_below (g:=gb124) (o := .cells #[.bool ((rd_T27 l0 x12_1).f0),.int .u64 ((rd_T27 l0 x12_1).f1.f0),.int .u64 ((rd_T27 l0 x12_1).f1.f1),.int .u64 ((rd_T27 l0 x12_1).f1.f2),.int .u64 ((rd_T27 l0 x12_1).f1.f3)] 96 (0,0)) (by repeat (with_reducible first|exact lb BK124.out|refine blk_far ?_ NB124_131.out _|refine cn ?_ _|refine cd ?_|refine ca ?_ _)) hb);have n3_:=Aside0.mk (blk_below (g:=gb131) (o := .cells #[.bool t125,.int .u64 t126,.int .u64 t127,.int .u64 t128,.int .u64 t129] 96 (0,0)) (by (with_reducible repeat (first|refine cn ?_ _|refine cd ?_|refine ca ?_ _));exact bp5 (lb BK131.out)) hb);have n4_:=Aside0.mk (below_step (by repeat (first|(with_reducible first|exact HB.out|apply qa|apply qn|apply qd|refine qs ?_ GE116.out|refine qs ?_ GE122.out|refine qs ?_ GE124.out|refine qs ?_ GE131.out)|exact HB.out)) hb);clear BK116;clear BK122;clear BK124;clear BK131;clear HB;have BK116:=n0_;have BK122:=n1_;have BK124:=n2_;have BK131:=n3_;have HB:=n4_;clear n0_ n1_ n2_ n3_ n4_;(try clear hb);(try clear hb2);(try clear hk);(try clear hi);obtain ⟨hcz45_0,hcz45_1,hcz45_2,hcz45_3,hcz45_4⟩:=cl5 BK131.out;obtain ⟨hfz45_0,hfz45_1,hfz45_2,hfz45_3,hfz45_4⟩:=fr5 BK131.out;obtain ⟨hcz46_0,hcz46_1,hcz46_2,hcz46_3,hcz46_4⟩:=cl5 BK116.out;obtain ⟨hfz46_0,hfz46_1,hfz46_2,hfz46_3,hfz46_4⟩:=fr5 BK116.out))
    refine bodyPost_ret (results_ct rfl _ _ gb116 96 #[.bool false,.int .u64 0,.int .u64 0,.int .u64 0,.int .u64 0] (0,0) _ rfl (by (with_reducible repeat (first|refine cn ?_ _|refine cd ?_|refine ca ?_ _));refine blk_put (cs:=#[.bool false,.int .u64 0,.int .u64 0,.int .u64 0,.int .u64 x117004_1]) ?_ 4 _ rfl;(with_reducible repeat (first|refine cn ?_ _|refine cd ?_|refine ca ?_ _));refine blk_put (cs:=#[.bool false,.int .u64 0,.int .u64 0,.int .u64 x117003_1,.int .u64 x117004_1]) ?_ 3 _ rfl;(with_reducible repeat (first|refine cn ?_ _|refine cd ?_|refine ca ?_ _));refine blk_put (cs:=#[.bool false,.int .u64 0,.int .u64 x117002_1,.int .u64 x117003_1,.int .u64 x117004_1]) ?_ 2 _ rfl;(with_reducible repeat (first|refine cn ?_ _|refine cd ?_|refine ca ?_ _));refine blk_put (cs:=#[.bool false,.int .u64 x117001_1,.int .u64 x117002_1,.int .u64 x117003_1,.int .u64 x117004_1]) ?_ 1 _ rfl;(with_reducible repeat (first|refine cn ?_ _|refine cd ?_|refine ca ?_ _));refine blk_put (cs:=#[.bool x117000_1,.int .u64 x117001_1,.int .u64 x117002_1,.int .u64 x117003_1,.int .u64 x117004_1]) ?_ 0 _ rfl;(with_reducible repeat (first|refine cn ?_ _|refine cd ?_|refine ca ?_ _));refine blk_far ?_ NB116_131.out _;(with_reducible repeat (first|refine cn ?_ _|refine cd ?_|refine ca ?_ _));refine blk_far ?_ NB116_131.out _;(with_reducible repeat (first|refine cn ?_ _|refine cd ?_|refine ca ?_ _));refine blk_far ?_ NB116_131.out _;(with_reducible repeat (first|refine cn ?_ _|refine cd ?_|refine ca ?_ _));refine blk_far ?_ NB116_131.out _;(with_reducible repeat (first|refine cn ?_ _|refine cd ?_|refine ca ?_ _));refine blk_far ?_ NB116_131.out _;(with_reducible repeat (first|refine cn ?_ _|refine cd ?_|refine ca ?_ _));exact BK116.out) Tryz.underlying96 rfl (by kernel_rfl)) rfl ?_
    exact ⟨by first|rfl|(simp [errW_none,errW_some]<;>rfl)|(simp [*,errW_none,errW_some]<;>rfl),by repeat (first|(with_reducible first|exact HB.out|apply qa|apply qn|apply qd|refine qs ?_ GE116.out|refine qs ?_ GE122.out|refine qs ?_ GE124.out|refine qs ?_ GE131.out)|exact HB.out)⟩
   subst c14
   have H1:(wide_Mul.l0 k1 l0 (l0.length:Int) (wrap64 (x12_1+1)) t132 t133 t134 t135 t136)=some (r1,r2,r3,r4,r5,r6):=by rw [if_pos rfl] at H;exact H
   clear H
   have H:=H1
   clear H1
   have H':=Aside0.mk H
   clear H
   have p123:0≤(x12_1:Int):=of_decide_eq_true (by first|(with_reducible assumption)|assumption)
   have q123:x12_1 < (l0.length:Int):=of_decide_eq_true (by first|(with_reducible assumption)|assumption)
   obtain ⟨ad123,e123,hx123_0,hx123_1,hx123_2,hx123_3,hx123_4⟩:=at_T27 HR0.out x12_1 p123 q123
   cases e123
   replace hx123_0:=(HB.out.cell (World.block_lt_of_cell? w _ hx123_0)).trans hx123_0
   replace hx123_1:=(HB.out.cell (World.block_lt_of_cell? w _ hx123_1)).trans hx123_1
   replace hx123_2:=(HB.out.cell (World.block_lt_of_cell? w _ hx123_2)).trans hx123_2
   replace hx123_3:=(HB.out.cell (World.block_lt_of_cell? w _ hx123_3)).trans hx123_3
   replace hx123_4:=(HB.out.cell (World.block_lt_of_cell? w _ hx123_4)).trans hx123_4
   replace p123:=eq_true p123
   replace q123:=eq_true q123
   go_wp2_with (first|((with_reducible refine gate_dst (N:=6) rfl ?_);refine box_event ?hg (N:=6) ?hd (cs:=#[.bool false,.int .u64 0,.int .u64 0,.int .u64 0,.int .u64 0]) (t:=96) ?hr ?_;(case hd=>rfl);(case hg=>rfl);(case hr=>first|(go_simp;done)|(go_simp;rfl));intro gb124 hg w15 hbox hb;have n0_:=bb BK116 hb;have n1_:=bb BK122 hb;have n2_:=Aside0.mk (below_step (by repeat (first|(with_reducible first|exact HB.out|apply qa|apply qn|apply qd|refine qs ?_ GE116.out|refine qs ?_ GE122.out)|exact HB.out)) hb);have n3_:=Aside0.mk (hbox);have n4_:=bgw HB hg;have n5_:=bgw HB hg;have n6_:=bnl BK116 hg;have n7_:=bng BK116 hg;have n8_:=bnl BK122 hg;have n9_:=bng BK122 hg;clear BK116;clear BK122;clear HB;have BK116:=n0_;have BK122:=n1_;have HB:=n2_;have BK124:=n3_;have GW124:=n4_;have GE124:=n5_;have NB116_124:=n6_;have NB124_116:=n7_;have NB122_124:=n8_;have NB124_122:=n9_;clear n0_ n1_ n2_ n3_ n4_ n5_ n6_ n7_ n8_ n9_;clear hb hbox hg;have hnb16:=NB124_116.out;have hnc16:=NB116_124.out;have hnb17:=NB124_122.out;have hnc17:=NB122_124.out;obtain ⟨hcz18_0,hcz18_1,hcz18_2,hcz18_3,hcz18_4⟩:=cl5 BK124.out;obtain ⟨hfz18_0,hfz18_1,hfz18_2,hfz18_3,hfz18_4⟩:=fr5 BK124.out;have hnb19:=NB122_116.out;have hnc19:=NB116_122.out;obtain ⟨hcz20_0,hcz20_1,hcz20_2,hcz20_3,hcz20_4⟩:=cl5 BK122.out;obtain ⟨hfz20_0,hfz20_1,hfz20_2,hfz20_3,hfz20_4⟩:=fr5 BK122.out)|((with_reducible refine gate_callee (f:=126) rfl ?_);refine goesL_ (some 20) rfl rfl Tryz.func126 (by kernel_rfl) rfl #[.agg #[.bool x123000_1,.int .u64 x123001_1,.int .u64 x123002_1,.int .u64 x123003_1,.int .u64 x123004_1],.agg #[.bool ((rd_T27 l0 x12_1).f0),.int .u64 ((rd_T27 l0 x12_1).f1.f0),.int .u64 ((rd_T27 l0 x12_1).f1.f1),.int .u64 ((rd_T27 l0 x12_1).f1.f2),.int .u64 ((rd_T27 l0 x12_1).f1.f3)]] rfl (by (try simp only [List.map_toArray,List.map_cons,List.map_nil]);first|done|rfl|(simp only [List.length_drop,List.length_take];rfl)) ?_;(with_reducible refine (wide_mul.calls x123000_1 x123001_1 x123002_1 x123003_1 x123004_1 ((rd_T27 l0 x12_1).f0) ((rd_T27 l0 x12_1).f1.f0) ((rd_T27 l0 x12_1).f1.f1) ((rd_T27 l0 x12_1).f1.f2) ((rd_T27 l0 x12_1).f1.f3) t125 t126 t127 t128 t129 true _ A11.out).mono ?_);rintro e w21 ⟨rfl,hb⟩;refine ⟨_,rfl,?_⟩;have n0_:=Aside0.mk (blk_below (g:=gb116) (o := .cells #[.bool x117000_1,.int .u64 x117001_1,.int .u64 x117002_1,.int .u64 x117003_1,.int .u64 x117004_1] 96 (0,0)) (by repeat (with_reducible first|exact lb BK116.out|refine blk_far ?_ NB116_124.out _|refine cn ?_ _|refine cd ?_|refine ca ?_ _)) hb);have n1_:=Aside0.mk (blk_below (g:=gb122) (o := .cells #[.bool x123000_1,.int .u64 x123001_1,.int .u64 x123002_1,.int .u64 x123003_1,.int .u64 x123004_1] 96 (0,0)) (by repeat (with_reducible first|exact lb BK122.out|refine blk_far ?_ NB122_124.out _|refine cn ?_ _|refine cd ?_|refine ca ?_ _)) hb);have n2_:=Aside0.mk (blk_below (g:=gb124) (o := .cells #[.bool ((rd_T27 l0 x12_1).f0),.int .u64 ((rd_T27 l0 x12_1).f1.f0),.int .u64 ((rd_T27 l0 x12_1).f1.f1),.int .u64 ((rd_T27 l0 x12_1).f1.f2),.int .u64 ((rd_T27 l0 x12_1).f1.f3)] 96 (0,0)) (by (with_reducible repeat (first|refine cn ?_ _|refine cd ?_|refine ca ?_ _));exact bp5 (lb BK124.out)) hb);have n3_:=Aside0.mk (below_step (by repeat (first|(with_reducible first|exact HB.out|apply qa|apply qn|apply qd|refine qs ?_ GE116.out|refine qs ?_ GE122.out|refine qs ?_ GE124.out)|exact HB.out)) hb);clear BK116;clear BK122;clear BK124;clear HB;have BK116:=n0_;have BK122:=n1_;have BK124:=n2_;have HB:=n3_;clear n0_ n1_ n2_ n3_;(try clear hb);(try clear hb2);(try clear hk);(try clear hi))|((with_reducible refine gate_dst (N:=7) rfl ?_);refine box_event ?hg (N:=7) ?hd (cs:=#[.bool false,.int .u64 0,.int .u64 0,.int .u64 0,.int .u64 0]) (t:=96) ?hr ?_;(case hd=>rfl);(case hg=>rfl);(case hr=>first|(go_simp;done)|(go_simp;rfl));intro gb131 hg w22 hbox hb;have n0_:=bb BK116 hb;have n1_:=bb BK122 hb;have n2_:=bb BK124 hb;have n3_:=Aside0.mk (below_step (by repeat (first|(with_reducible first|exact HB.out|apply qa|apply qn|apply qd|refine qs ?_ GE116.out|refine qs ?_ GE122.out|refine qs ?_ GE124.out)|exact HB.out)) hb);have n4_:=Aside0.mk (hbox);have n5_:=bgw HB hg;have n6_:=bgw HB hg;have n7_:=bnl BK116 hg;have n8_:=bng BK116 hg;have n9_:=bnl BK122 hg;have n10_:=bng BK122 hg;have n11_:=bnl BK124 hg;have n12_:=bng BK124 hg;clear BK116;clear BK122;clear BK124;clear HB;have BK116:=n0_;have BK122:=n1_;have BK124:=n2_;have HB:=n3_;have BK131:=n4_;have GW131:=n5_;have GE131:=n6_;have NB116_131:=n7_;have NB131_116:=n8_;have NB122_131:=n9_;have NB131_122:=n10_;have NB124_131:=n11_;have NB131_124:=n12_;clear n0_ n1_ n2_ n3_ n4_ n5_ n6_ n7_ n8_ n9_ n10_ n11_ n12_;clear hb hbox hg;have hnb23:=NB131_116.out;have hnc23:=NB116_131.out;have hnb24:=NB131_122.out;have hnc24:=NB122_131.out;have hnb25:=NB131_124.out;have hnc25:=NB124_131.out;obtain ⟨hcz26_0,hcz26_1,hcz26_2,hcz26_3,hcz26_4⟩:=cl5 BK131.out;obtain ⟨hfz26_0,hfz26_1,hfz26_2,hfz26_3,hfz26_4⟩:=fr5 BK131.out;obtain ⟨hcz27_0,hcz27_1,hcz27_2,hcz27_3,hcz27_4⟩:=cl5 BK124.out;obtain ⟨hfz27_0,hfz27_1,hfz27_2,hfz27_3,hfz27_4⟩:=fr5 BK124.out)|((with_reducible refine gate_callee (f:=97) rfl ?_);refine goesL_ (some 29) rfl rfl Tryz.func97 (by kernel_rfl) rfl #[.bool ((rd_T27 l0 x12_1).f0),.agg #[.int .u64 ((rd_T27 l0 x12_1).f1.f0),.int .u64 ((rd_T27 l0 x12_1).f1.f1),.int .u64 ((rd_T27 l0 x12_1).f1.f2),.int .u64 ((rd_T27 l0 x12_1).f1.f3)]] rfl (by (try simp only [List.map_toArray,List.map_cons,List.map_nil]);first|done|rfl|(simp only [List.length_drop,List.length_take];rfl)) ?_;(with_reducible refine (wide_of.calls ((rd_T27 l0 x12_1).f0) ((rd_T27 l0 x12_1).f1.f0) ((rd_T27 l0 x12_1).f1.f1) ((rd_T27 l0 x12_1).f1.f2) ((rd_T27 l0 x12_1).f1.f3) t132 t133 t134 t135 t136 _ A13.out).mono ?_);rintro e w28 ⟨rfl,hb⟩;refine ⟨_,rfl,?_⟩;have n0_:=Aside0.mk (blk_below (g:=gb116) (o := .cells #[.bool x117000_1,.int .u64 x117001_1,.int .u64 x117002_1,.int .u64 x117003_1,.int .u64 x117004_1] 96 (0,0)) (by repeat (with_reducible first|exact lb BK116.out|refine blk_far ?_ NB116_131.out _|refine cn ?_ _|refine cd ?_|refine ca ?_ _)) hb);have n1_:=Aside0.mk (blk_below (g:=gb122) (o := .cells #[.bool x123000_1,.int .u64 x123001_1,.int .u64 x123002_1,.int .u64 x123003_1,.int .u64 x123004_1] 96 (0,0)) (by repeat (with_reducible first|exact lb BK122.out|refine blk_far ?_ NB122_131.out _|refine cn ?_ _|refine cd ?_|refine ca ?_ _)) hb);have n2_:=Aside0.mk (blk_below (g:=gb124) (o := .cells #[.bool ((rd_T27 l0 x12_1).f0),.int .u64 ((rd_T27 l0 x12_1).f1.f0),.int .u64 ((rd_T27 l0 x12_1).f1.f1),.int .u64 ((rd_T27 l0 x12_1).f1.f2),.int .u64 ((rd_T27 l0 x12_1).f1.f3)] 96 (0,0)) (by repeat (with_reducible first|exact lb BK124.out|refine blk_far ?_ NB124_131.out _|refine cn ?_ _|refine cd ?_|refine ca ?_ _)) hb);have n3_:=Aside0.mk (blk_below (g:=gb131) (o := .cells #[.bool t125,.int .u64 t126,.int .u64 t127,.int .u64 t128,.int .u64 t129] 96 (0,0)) (by (with_reducible repeat (first|refine cn ?_ _|refine cd ?_|refine ca ?_ _));exact bp5 (lb BK131.out)) hb);have n4_:=Aside0.mk (below_step (by repeat (first|(with_reducible first|exact HB.out|apply qa|apply qn|apply qd|refine qs ?_ GE116.out|refine qs ?_ GE122.out|refine qs ?_ GE124.out|refine qs ?_ GE131.out)|exact HB.out)) hb);clear BK116;clear BK122;clear BK124;clear BK131;clear HB;have BK116:=n0_;have BK122:=n1_;have BK124:=n2_;have BK131:=n3_;have HB:=n4_;clear n0_ n1_ n2_ n3_ n4_;(try clear hb);(try clear hb2);(try clear hk);(try clear hi);obtain ⟨hcz29_0,hcz29_1,hcz29_2,hcz29_3,hcz29_4⟩:=cl5 BK131.out;obtain ⟨hfz29_0,hfz29_1,hfz29_2,hfz29_3,hfz29_4⟩:=fr5 BK131.out;obtain ⟨hcz30_0,hcz30_1,hcz30_2,hcz30_3,hcz30_4⟩:=cl5 BK122.out;obtain ⟨hfz30_0,hfz30_1,hfz30_2,hfz30_3,hfz30_4⟩:=fr5 BK122.out))
   go_roundg k1
   case measure=>have:=HK1.out;omega
   case rel=>exact ⟨(wrap64 (x12_1+1)),(x117000_1),(x117001_1),(x117002_1),(x117003_1),(x117004_1),(t132),(t133),(t134),(t135),(t136),(by first|rfl|(simp;done)|(simp [*];done)),H',⟨by have:=HK1.out;omega⟩,⟨by repeat (with_reducible first|exact lb BK116.out|refine blk_far ?_ NB116_122.out _|refine blk_far ?_ NB116_131.out _|refine cn ?_ _|refine cd ?_|refine ca ?_ _)⟩,⟨by (with_reducible repeat (first|refine cn ?_ _|refine cd ?_|refine ca ?_ _));refine blk_put (cs:=#[.bool t132,.int .u64 t133,.int .u64 t134,.int .u64 t135,.int .u64 x123004_1]) ?_ 4 _ rfl;(with_reducible repeat (first|refine cn ?_ _|refine cd ?_|refine ca ?_ _));refine blk_put (cs:=#[.bool t132,.int .u64 t133,.int .u64 t134,.int .u64 x123003_1,.int .u64 x123004_1]) ?_ 3 _ rfl;(with_reducible repeat (first|refine cn ?_ _|refine cd ?_|refine ca ?_ _));refine blk_put (cs:=#[.bool t132,.int .u64 t133,.int .u64 x123002_1,.int .u64 x123003_1,.int .u64 x123004_1]) ?_ 2 _ rfl;(with_reducible repeat (first|refine cn ?_ _|refine cd ?_|refine ca ?_ _));refine blk_put (cs:=#[.bool t132,.int .u64 x123001_1,.int .u64 x123002_1,.int .u64 x123003_1,.int .u64 x123004_1]) ?_ 1 _ rfl;(with_reducible repeat (first|refine cn ?_ _|refine cd ?_|refine ca ?_ _));refine blk_put (cs:=#[.bool x123000_1,.int .u64 x123001_1,.int .u64 x123002_1,.int .u64 x123003_1,.int .u64 x123004_1]) ?_ 0 _ rfl;(with_reducible repeat (first|refine cn ?_ _|refine cd ?_|refine ca ?_ _));refine blk_far ?_ NB122_131.out _;(with_reducible repeat (first|refine cn ?_ _|refine cd ?_|refine ca ?_ _));refine blk_far ?_ NB122_131.out _;(with_reducible repeat (first|refine cn ?_ _|refine cd ?_|refine ca ?_ _));refine blk_far ?_ NB122_131.out _;(with_reducible repeat (first|refine cn ?_ _|refine cd ?_|refine ca ?_ _));refine blk_far ?_ NB122_131.out _;(with_reducible repeat (first|refine cn ?_ _|refine cd ?_|refine ca ?_ _));refine blk_far ?_ NB122_131.out _;(with_reducible repeat (first|refine cn ?_ _|refine cd ?_|refine ca ?_ _));exact BK122.out⟩,⟨by repeat (first|(with_reducible first|exact HB.out|apply qa|apply qn|apply qd|refine qs ?_ GE116.out|refine qs ?_ GE122.out|refine qs ?_ GE124.out|refine qs ?_ GE131.out)|exact HB.out)⟩⟩
end Go.Proofs.YtkgagdjogedoiaaGreat.MT
namespace Go.Proofs.YtkgagdjogedoiaaGreat.MT
open Go.RowKit Go.Proofs.YtkgagdjogedoiaaGreatW.PrintWords Go.Proofs.YtkgagdjogedoiaaGreatW.PrintLast Go.Proofs.YtkgagdjogedoiaaGreatW.PrintMore
attribute [local go_sem] max2_int min2_int max_two min_two max_three min_three max_four min_four   -- for this text's walks alone
set_option linter.unusedVariables false
set_option linter.unusedSimpArgs false
/-! ### wide_add: function 76 -/
def wide_add.f (a0_0:Bool) (a0_1:Int) (a0_2:Int) (a0_3:Int) (a0_4:Int) (a1_0:Bool) (a1_1:Int) (a1_2:Int) (a1_3:Int) (a1_4:Int):Option (Bool × Int × Int × Int × Int × Bool):=if (a0_0==a1_0)=true then ((wide_plus.f a0_1 a0_2 a0_3 a0_4 a1_1 a1_2 a1_3 a1_4).bind fun bt186=>((wide_of.f a0_0 bt186.1 bt186.2.1 bt186.2.2.1 bt186.2.2.2.1).bind fun bt192=>(some (bt192.1,bt192.2.1,bt192.2.2.1,bt192.2.2.2.1,bt192.2.2.2.2,bt186.2.2.2.2)))) else ((wide_size.f a0_1 a0_2 a0_3 a0_4 a1_1 a1_2 a1_3 a1_4).bind fun t197=>(if t197 < 0 then ((wide_less.f a1_1 a1_2 a1_3 a1_4 a0_1 a0_2 a0_3 a0_4).bind fun bt198=>((wide_of.f a1_0 bt198.1 bt198.2.1 bt198.2.2.1 bt198.2.2.2).bind fun bt202=>(some (bt202.1,bt202.2.1,bt202.2.2.1,bt202.2.2.2.1,bt202.2.2.2.2,true)))) else ((wide_less.f a0_1 a0_2 a0_3 a0_4 a1_1 a1_2 a1_3 a1_4).bind fun bt207=>((wide_of.f a0_0 bt207.1 bt207.2.1 bt207.2.2.1 bt207.2.2.2).bind fun bt211=>(some (bt211.1,bt211.2.1,bt211.2.2.1,bt211.2.2.2.1,bt211.2.2.2.2,true))))))
def wide_add.T5:Bool × List (List Nat × List Nat):=(true,[([],[]),([0],[0]),([],[]),([2],[2]),([],[]),([4],[4]),([3,5],[3,5]),([1,6,6],[1,6]),([7,7,0,1,2,3,4,5,6,7],[7]),([8,0,1,2,3,4,5,6,7,8],[])])
def wide_add.B5:List Nat:=[0,1,0,4,0,16,60,127,255,511]
theorem wide_add.tab5:rtab .any (opsOf Tryz.f128 5)=wide_add.T5:=by kernel_rfl
theorem wide_add.bits5:waitsOk wide_add.T5.2 wide_add.B5=true:=by kernel_rfl
def wide_add.T6:Bool × List (List Nat × List Nat):=(true,[([],[]),([0],[0]),([],[]),([2],[2]),([],[]),([4],[4]),([3,5],[3,5]),([1,6,6],[1,6]),([7,7,0,1,2,3,4,5,6,7],[7]),([8,0,1,2,3,4,5,6,7,8],[])])
def wide_add.B6:List Nat:=[0,1,0,4,0,16,60,127,255,511]
theorem wide_add.tab6:rtab .any (opsOf Tryz.f128 6)=wide_add.T6:=by kernel_rfl
theorem wide_add.bits6:waitsOk wide_add.T6.2 wide_add.B6=true:=by kernel_rfl
set_option maxHeartbeats 8000000 in
set_option maxRecDepth 100000 in
theorem wide_add.calls (a0_0:Bool) (a0_1:Int) (a0_2:Int) (a0_3:Int) (a0_4:Int) (a1_0:Bool) (a1_1:Int) (a1_2:Int) (a1_3:Int) (a1_4:Int) (r1:Bool) (r2:Int) (r3:Int) (r4:Int) (r5:Int) (r6:Bool) (w:World) (h:wide_add.f a0_0 a0_1 a0_2 a0_3 a0_4 a1_0 a1_1 a1_2 a1_3 a1_4=some (r1,r2,r3,r4,r5,r6)) :
  Calls Tryz.prog 128 #[.agg #[.bool a0_0,.int .u64 a0_1,.int .u64 a0_2,.int .u64 a0_3,.int .u64 a0_4],.agg #[.bool a1_0,.int .u64 a1_1,.int .u64 a1_2,.int .u64 a1_3,.int .u64 a1_4]] w fun e w'=>e = .returned (.tuple #[.agg #[.bool r1,.int .u64 r2,.int .u64 r3,.int .u64 r4,.int .u64 r5],.bool r6])∧Below w.heap.size w w':=by
 have hu27:=Tryz.underlying96
 have hu25:=Tryz.underlying94
 have HB:=Aside0.mk (Below.refl w.heap.size w)
 have H:(if (a0_0==a1_0)=true then ((wide_plus.f a0_1 a0_2 a0_3 a0_4 a1_1 a1_2 a1_3 a1_4).bind fun bt186=>((wide_of.f a0_0 bt186.1 bt186.2.1 bt186.2.2.1 bt186.2.2.2.1).bind fun bt192=>(some (bt192.1,bt192.2.1,bt192.2.2.1,bt192.2.2.2.1,bt192.2.2.2.2,bt186.2.2.2.2)))) else ((wide_size.f a0_1 a0_2 a0_3 a0_4 a1_1 a1_2 a1_3 a1_4).bind fun t197=>(if t197 < 0 then ((wide_less.f a1_1 a1_2 a1_3 a1_4 a0_1 a0_2 a0_3 a0_4).bind fun bt198=>((wide_of.f a1_0 bt198.1 bt198.2.1 bt198.2.2.1 bt198.2.2.2).bind fun bt202=>(some (bt202.1,bt202.2.1,bt202.2.2.1,bt202.2.2.2.1,bt202.2.2.2.2,true)))) else ((wide_less.f a0_1 a0_2 a0_3 a0_4 a1_1 a1_2 a1_3 a1_4).bind fun bt207=>((wide_of.f a0_0 bt207.1 bt207.2.1 bt207.2.2.1 bt207.2.2.2).bind fun bt211=>(some (bt211.1,bt211.2.1,bt211.2.2.1,bt211.2.2.2.1,bt211.2.2.2.2,true)))))))=some (r1,r2,r3,r4,r5,r6):=h
 clear h
 by_cases c3:(a0_0==a1_0)=true
 ·rw [if_pos c3] at H
  have c3b0:(a0_0==a1_0)=true:=c3
  (try (have c3b1:decide (a0_0=a1_0)=true:=by simpa using c3))
  (try (have c3b2:(a0_0==a1_0)=true:=by simpa using c3))
  clear c3
  replace H:=Option.bind_eq_some_iff.mp H
  obtain ⟨⟨t186,t187,t188,t189,t190⟩,A40,H⟩:=H
  replace H:((wide_of.f a0_0 t186 t187 t188 t189).bind fun bt192=>(some (bt192.1,bt192.2.1,bt192.2.2.1,bt192.2.2.2.1,bt192.2.2.2.2,t190)))=some (r1,r2,r3,r4,r5,r6):=H
  have A4:=Aside0.mk A40
  clear A40
  replace H:=Option.bind_eq_some_iff.mp H
  obtain ⟨⟨t192,t193,t194,t195,t196⟩,A50,H⟩:=H
  replace H:(some (t192,t193,t194,t195,t196,t190))=some (r1,r2,r3,r4,r5,r6):=H
  have A5:=Aside0.mk A50
  clear A50
  simp only [Option.some.injEq,Prod.mk.injEq] at H
  obtain ⟨rfl,rfl,rfl,rfl,rfl,rfl⟩:=H
  go_enter Tryz.func128,Tryz.ntmps128
  go_wp2_with (first|((with_reducible refine gate_dst (N:=2) rfl ?_);refine box_event ?hg (N:=2) ?hd (cs:=#[.bool a0_0,.int .u64 a0_1,.int .u64 a0_2,.int .u64 a0_3,.int .u64 a0_4]) (t:=96) ?hr ?_;(case hd=>rfl);(case hg=>rfl);(case hr=>first|(go_simp;done)|(go_simp;rfl));intro gb183 hg w6 hbox hb;have n0_:=Aside0.mk (below_step (by repeat (first|(with_reducible first|exact HB.out|apply qa|apply qn|apply qd)|exact HB.out)) hb);have n1_:=Aside0.mk (hbox);have n2_:=bgw HB hg;have n3_:=bgw HB hg;clear HB;have HB:=n0_;have BK183:=n1_;have GW183:=n2_;have GE183:=n3_;clear n0_ n1_ n2_ n3_;clear hb hbox hg)|((with_reducible refine gate_dst (N:=3) rfl ?_);refine box_event ?hg (N:=3) ?hd (cs:=#[.bool a1_0,.int .u64 a1_1,.int .u64 a1_2,.int .u64 a1_3,.int .u64 a1_4]) (t:=96) ?hr ?_;(case hd=>rfl);(case hg=>rfl);(case hr=>first|(go_simp;done)|(go_simp;rfl));intro gb184 hg w7 hbox hb;have n0_:=bb BK183 hb;have n1_:=Aside0.mk (below_step (by repeat (first|(with_reducible first|exact HB.out|apply qa|apply qn|apply qd|refine qs ?_ GE183.out)|exact HB.out)) hb);have n2_:=Aside0.mk (hbox);have n3_:=bgw HB hg;have n4_:=bgw HB hg;have n5_:=bnl BK183 hg;have n6_:=bng BK183 hg;clear BK183;clear HB;have BK183:=n0_;have HB:=n1_;have BK184:=n2_;have GW184:=n3_;have GE184:=n4_;have NB183_184:=n5_;have NB184_183:=n6_;clear n0_ n1_ n2_ n3_ n4_ n5_ n6_;clear hb hbox hg)|((with_reducible refine gate_dst (N:=4) rfl ?_);refine box_event ?hg (N:=4) ?hd (cs:=#[.bool false,.int .u64 0,.int .u64 0,.int .u64 0,.int .u64 0]) (t:=96) ?hr ?_;(case hd=>rfl);(case hg=>rfl);(case hr=>first|(go_simp;done)|(go_simp;rfl));intro gb185 hg w8 hbox hb;have n0_:=bb BK183 hb;have n1_:=bb BK184 hb;have n2_:=Aside0.mk (below_step (by repeat (first|(with_reducible first|exact HB.out|apply qa|apply qn|apply qd|refine qs ?_ GE183.out|refine qs ?_ GE184.out)|exact HB.out)) hb);have n3_:=Aside0.mk (hbox);have n4_:=bgw HB hg;have n5_:=bgw HB hg;have n6_:=bnl BK183 hg;have n7_:=bng BK183 hg;have n8_:=bnl BK184 hg;have n9_:=bng BK184 hg;clear BK183;clear BK184;clear HB;have BK183:=n0_;have BK184:=n1_;have HB:=n2_;have BK185:=n3_;have GW185:=n4_;have GE185:=n5_;have NB183_185:=n6_;have NB185_183:=n7_;have NB184_185:=n8_;have NB185_184:=n9_;clear n0_ n1_ n2_ n3_ n4_ n5_ n6_ n7_ n8_ n9_;clear hb hbox hg;have hnb9:=NB183_184.out;have hnc9:=NB184_183.out;have hnb10:=NB183_185.out;have hnc10:=NB185_183.out;obtain ⟨hcz11_0,hcz11_1,hcz11_2,hcz11_3,hcz11_4⟩:=cl5 BK183.out;obtain ⟨hfz11_0,hfz11_1,hfz11_2,hfz11_3,hfz11_4⟩:=fr5 BK183.out;have hnb12:=NB184_185.out;have hnc12:=NB185_184.out;obtain ⟨hcz13_0,hcz13_1,hcz13_2,hcz13_3,hcz13_4⟩:=cl5 BK184.out;obtain ⟨hfz13_0,hfz13_1,hfz13_2,hfz13_3,hfz13_4⟩:=fr5 BK184.out)|((with_reducible refine gate_callee (f:=147) rfl ?_);refine goesL_ (some 19) rfl rfl Tryz.func147 (by kernel_rfl) rfl #[.agg #[.int .u64 a0_1,.int .u64 a0_2,.int .u64 a0_3,.int .u64 a0_4],.agg #[.int .u64 a1_1,.int .u64 a1_2,.int .u64 a1_3,.int .u64 a1_4]] rfl (by (try simp only [List.map_toArray,List.map_cons,List.map_nil]);first|done|rfl|(simp only [List.length_drop,List.length_take];rfl)) ?_;(with_reducible refine (wide_plus.calls a0_1 a0_2 a0_3 a0_4 a1_1 a1_2 a1_3 a1_4 t186 t187 t188 t189 t190 _ A4.out).mono ?_);rintro e w14 ⟨rfl,hb⟩;refine ⟨_,rfl,?_⟩;have n0_:=bb BK183 hb;have n1_:=bb BK184 hb;have n2_:=bb BK185 hb;have n3_:=Aside0.mk (below_step (by repeat (first|(with_reducible first|exact HB.out|apply qa|apply qn|apply qd|refine qs ?_ GE183.out|refine qs ?_ GE184.out|refine qs ?_ GE185.out)|exact HB.out)) hb);clear BK183;clear BK184;clear BK185;clear HB;have BK183:=n0_;have BK184:=n1_;have BK185:=n2_;have HB:=n3_;clear n0_ n1_ n2_ n3_;(try clear hb);(try clear hb2);(try clear hk);(try clear hi))|((with_reducible refine gate_dst (N:=6) rfl ?_);refine box_event ?hg (N:=6) ?hd (cs:=#[.int .u64 0,.int .u64 0,.int .u64 0,.int .u64 0]) (t:=94) ?hr ?_;(case hd=>rfl);(case hg=>rfl);(case hr=>first|(go_simp;done)|(go_simp;rfl));intro gb191 hg w15 hbox hb;have n0_:=bb BK183 hb;have n1_:=bb BK184 hb;have n2_:=bb BK185 hb;have n3_:=Aside0.mk (below_step (by repeat (first|(with_reducible first|exact HB.out|apply qa|apply qn|apply qd|refine qs ?_ GE183.out|refine qs ?_ GE184.out|refine qs ?_ GE185.out)|exact HB.out)) hb);have n4_:=Aside0.mk (hbox);have n5_:=bgw HB hg;have n6_:=bgw HB hg;have n7_:=bnl BK183 hg;have n8_:=bng BK183 hg;have n9_:=bnl BK184 hg;have n10_:=bng BK184 hg;have n11_:=bnl BK185 hg;have n12_:=bng BK185 hg;clear BK183;clear BK184;clear BK185;clear HB;have BK183:=n0_;have BK184:=n1_;have BK185:=n2_;have HB:=n3_;have BK191:=n4_;have GW191:=n5_;have GE191:=n6_;have NB183_191:=n7_;have NB191_183:=n8_;have NB184_191:=n9_;have NB191_184:=n10_;have NB185_191:=n11_;have NB191_185:=n12_;clear n0_ n1_ n2_ n3_ n4_ n5_ n6_ n7_ n8_ n9_ n10_ n11_ n12_;clear hb hbox hg;have hnb16:=NB191_183.out;have hnc16:=NB183_191.out;have hnb17:=NB191_184.out;have hnc17:=NB184_191.out;have hnb18:=NB191_185.out;have hnc18:=NB185_191.out;obtain ⟨hcz19_0,hcz19_1,hcz19_2,hcz19_3⟩:=cl4 BK191.out;obtain ⟨hfz19_0,hfz19_1,hfz19_2,hfz19_3⟩:=fr4 BK191.out;obtain ⟨hcz20_0,hcz20_1,hcz20_2,hcz20_3,hcz20_4⟩:=cl5 BK183.out;obtain ⟨hfz20_0,hfz20_1,hfz20_2,hfz20_3,hfz20_4⟩:=fr5 BK183.out)|((with_reducible refine gate_callee (f:=97) rfl ?_);refine goesL_ (some 25) rfl rfl Tryz.func97 (by kernel_rfl) rfl #[.bool a0_0,.agg #[.int .u64 t186,.int .u64 t187,.int .u64 t188,.int .u64 t189]] rfl (by (try simp only [List.map_toArray,List.map_cons,List.map_nil]);first|done|rfl|(simp only [List.length_drop,List.length_take];rfl)) ?_;(with_reducible refine (wide_of.calls a0_0 t186 t187 t188 t189 t192 t193 t194 t195 t196 _ A5.out).mono ?_);rintro e w21 ⟨rfl,hb⟩;refine ⟨_,rfl,?_⟩;have n0_:=Aside0.mk (blk_below (g:=gb183) (o := .cells #[.bool a0_0,.int .u64 a0_1,.int .u64 a0_2,.int .u64 a0_3,.int .u64 a0_4] 96 (0,0)) (by repeat (with_reducible first|exact lb BK183.out|refine blk_far ?_ NB183_191.out _|refine cn ?_ _|refine cd ?_|refine ca ?_ _)) hb);have n1_:=Aside0.mk (blk_below (g:=gb184) (o := .cells #[.bool a1_0,.int .u64 a1_1,.int .u64 a1_2,.int .u64 a1_3,.int .u64 a1_4] 96 (0,0)) (by repeat (with_reducible first|exact lb BK184.out|refine blk_far ?_ NB184_191.out _|refine cn ?_ _|refine cd ?_|refine ca ?_ _)) hb);have n2_:=Aside0.mk (blk_below (g:=gb185) (o := .cells #[.bool false,.int .u64 0,.int .u64 0,.int .u64 0,.int .u64 0] 96 (0,0)) (by repeat (with_reducible first|exact lb BK185.out|refine blk_far ?_ NB185_191.out _|refine cn ?_ _|refine cd ?_|refine ca ?_ _)) hb);have n3_:=Aside0.mk (blk_below (g:=gb191) (o := .cells #[.int .u64 t186,.int .u64 t187,.int .u64 t188,.int .u64 t189] 94 (0,0)) (by (with_reducible repeat (first|refine cn ?_ _|refine cd ?_|refine ca ?_ _));refine blk_put (cs:=#[.int .u64 t186,.int .u64 t187,.int .u64 t188,.int .u64 0]) ?_ 3 _ rfl;(with_reducible repeat (first|refine cn ?_ _|refine cd ?_|refine ca ?_ _));refine blk_put (cs:=#[.int .u64 t186,.int .u64 t187,.int .u64 0,.int .u64 0]) ?_ 2 _ rfl;(with_reducible repeat (first|refine cn ?_ _|refine cd ?_|refine ca ?_ _));refine blk_put (cs:=#[.int .u64 t186,.int .u64 0,.int .u64 0,.int .u64 0]) ?_ 1 _ rfl;(with_reducible repeat (first|refine cn ?_ _|refine cd ?_|refine ca ?_ _));refine blk_put (cs:=#[.int .u64 0,.int .u64 0,.int .u64 0,.int .u64 0]) ?_ 0 _ rfl;(with_reducible repeat (first|refine cn ?_ _|refine cd ?_|refine ca ?_ _));exact BK191.out) hb);have n4_:=Aside0.mk (below_step (by repeat (first|(with_reducible first|exact HB.out|apply qa|apply qn|apply qd|refine qs ?_ GE183.out|refine qs ?_ GE184.out|refine qs ?_ GE185.out|refine qs ?_ GE191.out)|exact HB.out)) hb);clear BK183;clear BK184;clear BK185;clear BK191;clear HB;have BK183:=n0_;have BK184:=n1_;have BK185:=n2_;have BK191:=n3_;have HB:=n4_;clear n0_ n1_ n2_ n3_ n4_;(try clear hb);(try clear hb2);(try clear hk);(try clear hi);obtain ⟨hcz22_0,hcz22_1,hcz22_2,hcz22_3,hcz22_4⟩:=cl5 BK185.out;obtain ⟨hfz22_0,hfz22_1,hfz22_2,hfz22_3,hfz22_4⟩:=fr5 BK185.out))
  refine bodyPost_ret (results_ct rfl _ _ gb185 96 #[.bool t192,.int .u64 t193,.int .u64 t194,.int .u64 t195,.int .u64 t196] (0,0) _ rfl (by (with_reducible repeat (first|refine cn ?_ _|refine cd ?_|refine ca ?_ _));refine blk_put (cs:=#[.bool t192,.int .u64 t193,.int .u64 t194,.int .u64 t195,.int .u64 0]) ?_ 4 _ rfl;(with_reducible repeat (first|refine cn ?_ _|refine cd ?_|refine ca ?_ _));refine blk_put (cs:=#[.bool t192,.int .u64 t193,.int .u64 t194,.int .u64 0,.int .u64 0]) ?_ 3 _ rfl;(with_reducible repeat (first|refine cn ?_ _|refine cd ?_|refine ca ?_ _));refine blk_put (cs:=#[.bool t192,.int .u64 t193,.int .u64 0,.int .u64 0,.int .u64 0]) ?_ 2 _ rfl;(with_reducible repeat (first|refine cn ?_ _|refine cd ?_|refine ca ?_ _));refine blk_put (cs:=#[.bool t192,.int .u64 0,.int .u64 0,.int .u64 0,.int .u64 0]) ?_ 1 _ rfl;(with_reducible repeat (first|refine cn ?_ _|refine cd ?_|refine ca ?_ _));refine blk_put (cs:=#[.bool false,.int .u64 0,.int .u64 0,.int .u64 0,.int .u64 0]) ?_ 0 _ rfl;(with_reducible repeat (first|refine cn ?_ _|refine cd ?_|refine ca ?_ _));exact BK185.out) Tryz.underlying96 rfl (by kernel_rfl)) rfl ?_
  exact ⟨by first|rfl|(simp [errW_none,errW_some]<;>rfl)|(simp [*,errW_none,errW_some]<;>rfl),by repeat (first|(with_reducible first|exact HB.out|apply qa|apply qn|apply qd|refine qs ?_ GE183.out|refine qs ?_ GE184.out|refine qs ?_ GE185.out|refine qs ?_ GE191.out)|exact HB.out)⟩
 rw [if_neg c3] at H
 have c3b0:(a0_0==a1_0)=false:=by simpa using c3
 (try (have c3b1:decide (a0_0=a1_0)=false:=by simpa using c3))
 (try (have c3b2:(a0_0==a1_0)=false:=by simpa using c3))
 (try (have c3b3:¬ (a0_0=a1_0):=by simpa using c3))
 clear c3
 replace H:=Option.bind_eq_some_iff.mp H
 obtain ⟨t197,A230,H⟩:=H
 replace H:(if t197 < 0 then ((wide_less.f a1_1 a1_2 a1_3 a1_4 a0_1 a0_2 a0_3 a0_4).bind fun bt198=>((wide_of.f a1_0 bt198.1 bt198.2.1 bt198.2.2.1 bt198.2.2.2).bind fun bt202=>(some (bt202.1,bt202.2.1,bt202.2.2.1,bt202.2.2.2.1,bt202.2.2.2.2,true)))) else ((wide_less.f a0_1 a0_2 a0_3 a0_4 a1_1 a1_2 a1_3 a1_4).bind fun bt207=>((wide_of.f a0_0 bt207.1 bt207.2.1 bt207.2.2.1 bt207.2.2.2).bind fun bt211=>(some (bt211.1,bt211.2.1,bt211.2.2.1,bt211.2.2.2.1,bt211.2.2.2.2,true)))))=some (r1,r2,r3,r4,r5,r6):=H
 have A23:=Aside0.mk A230
 clear A230
 by_cases c24:t197 < 0
 ·rw [if_pos c24] at H
  have c24b0:decide (t197 < 0)=true:=decide_eq_true c24
  clear c24
  replace H:=Option.bind_eq_some_iff.mp H
  obtain ⟨⟨t198,t199,t200,t201⟩,A250,H⟩:=H
  replace H:((wide_of.f a1_0 t198 t199 t200 t201).bind fun bt202=>(some (bt202.1,bt202.2.1,bt202.2.2.1,bt202.2.2.2.1,bt202.2.2.2.2,true)))=some (r1,r2,r3,r4,r5,r6):=H
  have A25:=Aside0.mk A250
  clear A250
  replace H:=Option.bind_eq_some_iff.mp H
  obtain ⟨⟨t202,t203,t204,t205,t206⟩,A260,H⟩:=H
  replace H:(some (t202,t203,t204,t205,t206,true))=some (r1,r2,r3,r4,r5,r6):=H
  have A26:=Aside0.mk A260
  clear A260
  simp only [Option.some.injEq,Prod.mk.injEq] at H
  obtain ⟨rfl,rfl,rfl,rfl,rfl,rfl⟩:=H
  go_enter Tryz.func128,Tryz.ntmps128
  try go_wp2_with (first|((with_reducible refine gate_dst (N:=2) rfl ?_);refine box_event ?hg (N:=2) ?hd (cs:=#[.bool a0_0,.int .u64 a0_1,.int .u64 a0_2,.int .u64 a0_3,.int .u64 a0_4]) (t:=96) ?hr ?_;(case hd=>rfl);(case hg=>rfl);(case hr=>first|(go_simp;done)|(go_simp;rfl));intro gb183 hg w27 hbox hb;have n0_:=Aside0.mk (below_step (by repeat (first|(with_reducible first|exact HB.out|apply qa|apply qn|apply qd)|exact HB.out)) hb);have n1_:=Aside0.mk (hbox);have n2_:=bgw HB hg;have n3_:=bgw HB hg;clear HB;have HB:=n0_;have BK183:=n1_;have GW183:=n2_;have GE183:=n3_;clear n0_ n1_ n2_ n3_;clear hb hbox hg)|((with_reducible refine gate_dst (N:=3) rfl ?_);refine box_event ?hg (N:=3) ?hd (cs:=#[.bool a1_0,.int .u64 a1_1,.int .u64 a1_2,.int .u64 a1_3,.int .u64 a1_4]) (t:=96) ?hr ?_;(case hd=>rfl);(case hg=>rfl);(case hr=>first|(go_simp;done)|(go_simp;rfl));intro gb184 hg w28 hbox hb;have n0_:=bb BK183 hb;have n1_:=Aside0.mk (below_step (by repeat (first|(with_reducible first|exact HB.out|apply qa|apply qn|apply qd|refine qs ?_ GE183.out)|exact HB.out)) hb);have n2_:=Aside0.mk (hbox);have n3_:=bgw HB hg;have n4_:=bgw HB hg;have n5_:=bnl BK183 hg;have n6_:=bng BK183 hg;clear BK183;clear HB;have BK183:=n0_;have HB:=n1_;have BK184:=n2_;have GW184:=n3_;have GE184:=n4_;have NB183_184:=n5_;have NB184_183:=n6_;clear n0_ n1_ n2_ n3_ n4_ n5_ n6_;clear hb hbox hg)|((with_reducible refine gate_dst (N:=4) rfl ?_);refine box_event ?hg (N:=4) ?hd (cs:=#[.bool false,.int .u64 0,.int .u64 0,.int .u64 0,.int .u64 0]) (t:=96) ?hr ?_;(case hd=>rfl);(case hg=>rfl);(case hr=>first|(go_simp;done)|(go_simp;rfl));intro gb185 hg w29 hbox hb;have n0_:=bb BK183 hb;have n1_:=bb BK184 hb;have n2_:=Aside0.mk (below_step (by repeat (first|(with_reducible first|exact HB.out|apply qa|apply qn|apply qd|refine qs ?_ GE183.out|refine qs ?_ GE184.out)|exact HB.out)) hb);have n3_:=Aside0.mk (hbox);have n4_:=bgw HB hg;have n5_:=bgw HB hg;have n6_:=bnl BK183 hg;have n7_:=bng BK183 hg;have n8_:=bnl BK184 hg;have n9_:=bng BK184 hg;clear BK183;clear BK184;clear HB;have BK183:=n0_;have BK184:=n1_;have HB:=n2_;have BK185:=n3_;have GW185:=n4_;have GE185:=n5_;have NB183_185:=n6_;have NB185_183:=n7_;have NB184_185:=n8_;have NB185_184:=n9_;clear n0_ n1_ n2_ n3_ n4_ n5_ n6_ n7_ n8_ n9_;clear hb hbox hg;have hnb30:=NB183_184.out;have hnc30:=NB184_183.out;have hnb31:=NB183_185.out;have hnc31:=NB185_183.out;obtain ⟨hcz32_0,hcz32_1,hcz32_2,hcz32_3,hcz32_4⟩:=cl5 BK183.out;obtain ⟨hfz32_0,hfz32_1,hfz32_2,hfz32_3,hfz32_4⟩:=fr5 BK183.out;have hnb33:=NB184_185.out;have hnc33:=NB185_184.out;obtain ⟨hcz34_0,hcz34_1,hcz34_2,hcz34_3,hcz34_4⟩:=cl5 BK184.out;obtain ⟨hfz34_0,hfz34_1,hfz34_2,hfz34_3,hfz34_4⟩:=fr5 BK184.out)|((with_reducible refine gate_callee (f:=93) rfl ?_);refine goesL_ (some 32) rfl rfl Tryz.func93 (by kernel_rfl) rfl #[.agg #[.int .u64 a0_1,.int .u64 a0_2,.int .u64 a0_3,.int .u64 a0_4],.agg #[.int .u64 a1_1,.int .u64 a1_2,.int .u64 a1_3,.int .u64 a1_4]] rfl (by (try simp only [List.map_toArray,List.map_cons,List.map_nil]);first|done|rfl|(simp only [List.length_drop,List.length_take];rfl)) ?_;(with_reducible refine (wide_size.calls a0_1 a0_2 a0_3 a0_4 a1_1 a1_2 a1_3 a1_4 t197 _ A23.out).mono ?_);rintro e w35 ⟨rfl,hb⟩;refine ⟨_,rfl,?_⟩;have n0_:=bb BK183 hb;have n1_:=bb BK184 hb;have n2_:=bb BK185 hb;have n3_:=Aside0.mk (below_step (by repeat (first|(with_reducible first|exact HB.out|apply qa|apply qn|apply qd|refine qs ?_ GE183.out|refine qs ?_ GE184.out|refine qs ?_ GE185.out)|exact HB.out)) hb);clear BK183;clear BK184;clear BK185;clear HB;have BK183:=n0_;have BK184:=n1_;have BK185:=n2_;have HB:=n3_;clear n0_ n1_ n2_ n3_;(try clear hb);(try clear hb2);(try clear hk);(try clear hi)))
  have n0_:=Aside0.mk (blk_drew BK183.out)
  have n1_:=Aside0.mk (blk_drew BK184.out)
  have n2_:=Aside0.mk (blk_drew BK185.out)
  have n3_:=Aside0.mk (below_drew1 HB.out)
  clear BK183
  clear BK184
  clear BK185
  clear HB
  have BK183:=n0_
  have BK184:=n1_
  have BK185:=n2_
  have HB:=n3_
  clear n0_ n1_ n2_ n3_
  refine start_ (n:=10) (S:=fun w'=>w'.cell? ⟨gb184,0,none⟩=some (.bool a1_0)∧w'.cell? ⟨gb184,1,none⟩=some (.int .u64 a1_1)∧w'.cell? ⟨gb184,2,none⟩=some (.int .u64 a1_2)∧w'.cell? ⟨gb184,3,none⟩=some (.int .u64 a1_3)∧w'.cell? ⟨gb184,4,none⟩=some (.int .u64 a1_4)∧w'.cell? ⟨gb183,0,none⟩=some (.bool a0_0)∧w'.cell? ⟨gb183,1,none⟩=some (.int .u64 a0_1)∧w'.cell? ⟨gb183,2,none⟩=some (.int .u64 a0_2)∧w'.cell? ⟨gb183,3,none⟩=some (.int .u64 a0_3)∧w'.cell? ⟨gb183,4,none⟩=some (.int .u64 a0_4)) (ds:=[]) #[Ff,Ff,Ff,Ff,Ff,Ff,Ff,Ff,Ff,Ff] (by kernel_rfl) rfl rfl ⟨(blk_cell BK184.out 0).trans rfl,(blk_cell BK184.out 1).trans rfl,(blk_cell BK184.out 2).trans rfl,(blk_cell BK184.out 3).trans rfl,(blk_cell BK184.out 4).trans rfl,(blk_cell BK183.out 0).trans rfl,(blk_cell BK183.out 1).trans rfl,(blk_cell BK183.out 2).trans rfl,(blk_cell BK183.out 3).trans rfl,(blk_cell BK183.out 4).trans rfl⟩ (fun hHeld=>?_);refine with_tabW wide_add.tab5 wide_add.bits5 (fun HT_ HW_=>?_)
  generalize w35.drew=w36 at BK183 BK184 BK185 HB hHeld ⊢
  refine pure_ (i:=0) (N:=some 34) (v:=?_) (a':=?_) #[Tt,Ff,Ff,Ff,Ff,Ff,Ff,Ff,Ff,Ff] rfl rfl (any_of HT_.out (by kernel_rfl)) (fun _ _ _ h=>h) (Or.inl ⟨by rfl,?_⟩) ?_ ?_
  rotate_left
  ·intro w'
   go_simp
   with_reducible rfl
  rotate_left
  ·simp only [Act.put,List.setIfInBounds_toArray,List.set_cons_zero,List.set_cons_succ,i64_w,i32_w]
   rfl
  refine pure_ (i:=2) (N:=some 36) (v:=?_) (a':=?_) #[Tt,Ff,Tt,Ff,Ff,Ff,Ff,Ff,Ff,Ff] rfl rfl (any_of HT_.out (by kernel_rfl)) (fun _ _ _ h=>h) (Or.inl ⟨by rfl,?_⟩) ?_ ?_
  rotate_left
  ·intro w'
   go_simp
   with_reducible rfl
  rotate_left
  ·simp only [Act.put,List.setIfInBounds_toArray,List.set_cons_zero,List.set_cons_succ,i64_w,i32_w]
   rfl
  refine pure_ (i:=4) (N:=some 38) (v:=?_) (a':=?_) #[Tt,Ff,Tt,Ff,Tt,Ff,Ff,Ff,Ff,Ff] rfl rfl (any_of HT_.out (by kernel_rfl)) (fun _ _ _ h=>h) (Or.inl ⟨by rfl,?_⟩) ?_ ?_
  rotate_left
  ·intro w'
   go_simp
   with_reducible rfl
  rotate_left
  ·simp only [Act.put,List.setIfInBounds_toArray,List.set_cons_zero,List.set_cons_succ,i64_w,i32_w]
   rfl
  refine take_ (i:=1) (N:=some 35) (v:=?_) (a':=?_) #[Tt,Tt,Tt,Ff,Tt,Ff,Ff,Ff,Ff,Ff] rfl rfl (take_ofW HT_.out HW_.out (by kernel_rfl)) (fun _ _ _ h=>h) (Or.inl ⟨by rfl,?_⟩) hHeld ?_ ?_
  rotate_left
  ·rintro w' ⟨s0,s1,s2,s3,s4,s5,s6,s7,s8,s9⟩
   go_simp
   with_reducible rfl
  rotate_left
  ·simp only [Act.put,List.setIfInBounds_toArray,List.set_cons_zero,List.set_cons_succ,i64_w,i32_w]
   rfl
  refine take_ (i:=3) (N:=some 37) (v:=?_) (a':=?_) #[Tt,Tt,Tt,Tt,Tt,Ff,Ff,Ff,Ff,Ff] rfl rfl (take_ofW HT_.out HW_.out (by kernel_rfl)) (fun _ _ _ h=>h) (Or.inl ⟨by rfl,?_⟩) hHeld ?_ ?_
  rotate_left
  ·rintro w' ⟨s0,s1,s2,s3,s4,s5,s6,s7,s8,s9⟩
   go_simp
   with_reducible rfl
  rotate_left
  ·simp only [Act.put,List.setIfInBounds_toArray,List.set_cons_zero,List.set_cons_succ,i64_w,i32_w]
   rfl
  refine take_ (i:=5) (N:=some 39) (v:=?_) (a':=?_) #[Tt,Tt,Tt,Tt,Tt,Tt,Ff,Ff,Ff,Ff] rfl rfl (take_ofW HT_.out HW_.out (by kernel_rfl)) (fun _ _ _ h=>h) (Or.inl ⟨by rfl,?_⟩) hHeld ?_ ?_
  rotate_left
  ·rintro w' ⟨s0,s1,s2,s3,s4,s5,s6,s7,s8,s9⟩
   go_simp
   with_reducible rfl
  rotate_left
  ·simp only [Act.put,List.setIfInBounds_toArray,List.set_cons_zero,List.set_cons_succ,i64_w,i32_w]
   rfl
  refine one_ (i:=6) (N:=some 40) #[Tt,Tt,Tt,Tt,Tt,Tt,Tt,Ff,Ff,Ff] rfl rfl (one_of HT_.out (by kernel_rfl)) (by decide) (fun K hK=>?_)
  refine goes_ Tryz.func148 (by kernel_rfl) rfl #[.agg #[.int .u64 a1_1,.int .u64 a1_2,.int .u64 a1_3,.int .u64 a1_4],.agg #[.int .u64 a0_1,.int .u64 a0_2,.int .u64 a0_3,.int .u64 a0_4]] (by rfl) rfl rfl (by (try simp only [List.map_toArray,List.map_cons,List.map_nil]);first|done|rfl|(simp only [List.length_drop,List.length_take];rfl)) ?_
  with_reducible refine (wide_less.calls a1_1 a1_2 a1_3 a1_4 a0_1 a0_2 a0_3 a0_4 t198 t199 t200 t201 _ A25.out).mono ?_
  rintro e w37 ⟨rfl,hb⟩
  refine ⟨_,rfl,?_⟩
  have n0_:=bb BK183 hb
  have n1_:=bb BK184 hb
  have n2_:=bb BK185 hb
  have n3_:=Aside0.mk (below_step (by repeat (first|(with_reducible first|exact HB.out|apply qa|apply qn|apply qd|refine qs ?_ GE183.out|refine qs ?_ GE184.out|refine qs ?_ GE185.out)|exact HB.out)) hb)
  clear BK183
  clear BK184
  clear BK185
  clear HB
  have BK183:=n0_
  have BK184:=n1_
  have BK185:=n2_
  have HB:=n3_
  clear n0_ n1_ n2_ n3_
  (try clear hb)
  (try clear hb2)
  (try clear hk)
  (try clear hi)
  refine hK.out _ _ ⟨(blk_cell BK184.out 0).trans rfl,(blk_cell BK184.out 1).trans rfl,(blk_cell BK184.out 2).trans rfl,(blk_cell BK184.out 3).trans rfl,(blk_cell BK184.out 4).trans rfl,(blk_cell BK183.out 0).trans rfl,(blk_cell BK183.out 1).trans rfl,(blk_cell BK183.out 2).trans rfl,(blk_cell BK183.out 3).trans rfl,(blk_cell BK183.out 4).trans rfl⟩ (fun hHeld=>?_)
  clear hK K
  refine norm_ (a':=?_) ?_ ?_
  rotate_left
  ·show Act.put _ (some 40) _=_
   simp only [Act.put,List.setIfInBounds_toArray,List.set_cons_zero,List.set_cons_succ,i64_w,i32_w]
   rfl
  refine one_ (i:=7) (N:=some 41) #[Tt,Tt,Tt,Tt,Tt,Tt,Tt,Tt,Ff,Ff] rfl rfl (one_of HT_.out (by kernel_rfl)) (by decide) (fun K hK=>?_)
  refine goes_ Tryz.func97 (by kernel_rfl) rfl #[.bool a1_0,.agg #[.int .u64 t198,.int .u64 t199,.int .u64 t200,.int .u64 t201]] (by rfl) rfl rfl (by (try simp only [List.map_toArray,List.map_cons,List.map_nil]);first|done|rfl|(simp only [List.length_drop,List.length_take];rfl)) ?_
  with_reducible refine (wide_of.calls a1_0 t198 t199 t200 t201 t202 t203 t204 t205 t206 _ A26.out).mono ?_
  rintro e w38 ⟨rfl,hb⟩
  refine ⟨_,rfl,?_⟩
  have n0_:=bb BK183 hb
  have n1_:=bb BK184 hb
  have n2_:=bb BK185 hb
  have n3_:=Aside0.mk (below_step (by repeat (first|(with_reducible first|exact HB.out|apply qa|apply qn|apply qd|refine qs ?_ GE183.out|refine qs ?_ GE184.out|refine qs ?_ GE185.out)|exact HB.out)) hb)
  clear BK183
  clear BK184
  clear BK185
  clear HB
  have BK183:=n0_
  have BK184:=n1_
  have BK185:=n2_
  have HB:=n3_
  clear n0_ n1_ n2_ n3_
  (try clear hb)
  (try clear hb2)
  (try clear hk)
  (try clear hi)
  refine hK.out _ _ ⟨(blk_cell BK184.out 0).trans rfl,(blk_cell BK184.out 1).trans rfl,(blk_cell BK184.out 2).trans rfl,(blk_cell BK184.out 3).trans rfl,(blk_cell BK184.out 4).trans rfl,(blk_cell BK183.out 0).trans rfl,(blk_cell BK183.out 1).trans rfl,(blk_cell BK183.out 2).trans rfl,(blk_cell BK183.out 3).trans rfl,(blk_cell BK183.out 4).trans rfl⟩ (fun hHeld=>?_)
  clear hK K
  refine norm_ (a':=?_) ?_ ?_
  rotate_left
  ·show Act.put _ (some 41) _=_
   simp only [Act.put,List.setIfInBounds_toArray,List.set_cons_zero,List.set_cons_succ,i64_w,i32_w]
   rfl
  refine one_ (i:=8) (N:=none) #[Tt,Tt,Tt,Tt,Tt,Tt,Tt,Tt,Tt,Ff] rfl rfl (one_of HT_.out (by kernel_rfl)) (by decide) (fun K hK=>?_)
  have hs39:w38.cell? ⟨gb185,0,none⟩=some (.bool false):=(blk_cell BK185.out 0).trans rfl
  have hfs39:=blk_frozen BK185.out 0
  have hns39_0:=NB183_185.out
  have hns39_1:=NB184_185.out
  have hms39_0:=NB185_183.out
  have hms39_1:=NB185_184.out
  have hs40:w38.cell? ⟨gb185,1,none⟩=some (.int .u64 0):=(blk_cell BK185.out 1).trans rfl
  have hfs40:=blk_frozen BK185.out 1
  have hns40_0:=NB183_185.out
  have hns40_1:=NB184_185.out
  have hms40_0:=NB185_183.out
  have hms40_1:=NB185_184.out
  have hs41:w38.cell? ⟨gb185,2,none⟩=some (.int .u64 0):=(blk_cell BK185.out 2).trans rfl
  have hfs41:=blk_frozen BK185.out 2
  have hns41_0:=NB183_185.out
  have hns41_1:=NB184_185.out
  have hms41_0:=NB185_183.out
  have hms41_1:=NB185_184.out
  have hs42:w38.cell? ⟨gb185,3,none⟩=some (.int .u64 0):=(blk_cell BK185.out 3).trans rfl
  have hfs42:=blk_frozen BK185.out 3
  have hns42_0:=NB183_185.out
  have hns42_1:=NB184_185.out
  have hms42_0:=NB185_183.out
  have hms42_1:=NB185_184.out
  have hs43:w38.cell? ⟨gb185,4,none⟩=some (.int .u64 0):=(blk_cell BK185.out 4).trans rfl
  have hfs43:=blk_frozen BK185.out 4
  have hns43_0:=NB183_185.out
  have hns43_1:=NB184_185.out
  have hms43_0:=NB185_183.out
  have hms43_1:=NB185_184.out
  refine skip_ (w1:=?_) (by rfl) rfl ?_ ?_
  rotate_left
  ·go_simp
   rfl
  refine hK.out _ _ ⟨(cf5 NB184_185.out hHeld.1),(cf5 NB184_185.out hHeld.2.1),(cf5 NB184_185.out hHeld.2.2.1),(cf5 NB184_185.out hHeld.2.2.2.1),(cf5 NB184_185.out hHeld.2.2.2.2.1),(cf5 NB183_185.out hHeld.2.2.2.2.2.1),(cf5 NB183_185.out hHeld.2.2.2.2.2.2.1),(cf5 NB183_185.out hHeld.2.2.2.2.2.2.2.1),(cf5 NB183_185.out hHeld.2.2.2.2.2.2.2.2.1),(cf5 NB183_185.out hHeld.2.2.2.2.2.2.2.2.2)⟩ (fun hHeld=>?_)
  clear hK K
  refine pure_ (i:=9) (N:=some 5) (v:=?_) (a':=?_) #[Tt,Tt,Tt,Tt,Tt,Tt,Tt,Tt,Tt,Tt] rfl rfl (any_of HT_.out (by kernel_rfl)) (fun _ _ _ h=>h) (Or.inl ⟨by rfl,?_⟩) ?_ ?_
  rotate_left
  ·intro w'
   go_simp
   with_reducible rfl
  rotate_left
  ·simp only [Act.put,List.setIfInBounds_toArray,List.set_cons_zero,List.set_cons_succ,i64_w,i32_w]
   rfl
  refine done_ (done_of HT_.out (by kernel_rfl)) ?_
  try go_wp2
  refine bodyPost_ret (results_ct rfl _ _ gb185 96 #[.bool t202,.int .u64 t203,.int .u64 t204,.int .u64 t205,.int .u64 t206] (0,0) _ rfl (by (with_reducible repeat (first|refine cn ?_ _|refine cd ?_|refine ca ?_ _));refine blk_put (cs:=#[.bool t202,.int .u64 t203,.int .u64 t204,.int .u64 t205,.int .u64 0]) ?_ 4 _ rfl;(with_reducible repeat (first|refine cn ?_ _|refine cd ?_|refine ca ?_ _));refine blk_put (cs:=#[.bool t202,.int .u64 t203,.int .u64 t204,.int .u64 0,.int .u64 0]) ?_ 3 _ rfl;(with_reducible repeat (first|refine cn ?_ _|refine cd ?_|refine ca ?_ _));refine blk_put (cs:=#[.bool t202,.int .u64 t203,.int .u64 0,.int .u64 0,.int .u64 0]) ?_ 2 _ rfl;(with_reducible repeat (first|refine cn ?_ _|refine cd ?_|refine ca ?_ _));refine blk_put (cs:=#[.bool t202,.int .u64 0,.int .u64 0,.int .u64 0,.int .u64 0]) ?_ 1 _ rfl;(with_reducible repeat (first|refine cn ?_ _|refine cd ?_|refine ca ?_ _));refine blk_put (cs:=#[.bool false,.int .u64 0,.int .u64 0,.int .u64 0,.int .u64 0]) ?_ 0 _ rfl;(with_reducible repeat (first|refine cn ?_ _|refine cd ?_|refine ca ?_ _));exact BK185.out) Tryz.underlying96 rfl (by kernel_rfl)) rfl ?_
  exact ⟨by first|rfl|(simp [errW_none,errW_some]<;>rfl)|(simp [*,errW_none,errW_some]<;>rfl),by repeat (first|(with_reducible first|exact HB.out|apply qa|apply qn|apply qd|refine qs ?_ GE183.out|refine qs ?_ GE184.out|refine qs ?_ GE185.out)|exact HB.out)⟩
 rw [if_neg c24] at H
 have c24b0:decide (t197 < 0)=false:=decide_eq_false c24
 clear c24
 replace H:=Option.bind_eq_some_iff.mp H
 obtain ⟨⟨t207,t208,t209,t210⟩,A440,H⟩:=H
 replace H:((wide_of.f a0_0 t207 t208 t209 t210).bind fun bt211=>(some (bt211.1,bt211.2.1,bt211.2.2.1,bt211.2.2.2.1,bt211.2.2.2.2,true)))=some (r1,r2,r3,r4,r5,r6):=H
 have A44:=Aside0.mk A440
 clear A440
 replace H:=Option.bind_eq_some_iff.mp H
 obtain ⟨⟨t211,t212,t213,t214,t215⟩,A450,H⟩:=H
 replace H:(some (t211,t212,t213,t214,t215,true))=some (r1,r2,r3,r4,r5,r6):=H
 have A45:=Aside0.mk A450
 clear A450
 simp only [Option.some.injEq,Prod.mk.injEq] at H
 obtain ⟨rfl,rfl,rfl,rfl,rfl,rfl⟩:=H
 go_enter Tryz.func128,Tryz.ntmps128
 try go_wp2_with (first|((with_reducible refine gate_dst (N:=2) rfl ?_);refine box_event ?hg (N:=2) ?hd (cs:=#[.bool a0_0,.int .u64 a0_1,.int .u64 a0_2,.int .u64 a0_3,.int .u64 a0_4]) (t:=96) ?hr ?_;(case hd=>rfl);(case hg=>rfl);(case hr=>first|(go_simp;done)|(go_simp;rfl));intro gb183 hg w46 hbox hb;have n0_:=Aside0.mk (below_step (by repeat (first|(with_reducible first|exact HB.out|apply qa|apply qn|apply qd)|exact HB.out)) hb);have n1_:=Aside0.mk (hbox);have n2_:=bgw HB hg;have n3_:=bgw HB hg;clear HB;have HB:=n0_;have BK183:=n1_;have GW183:=n2_;have GE183:=n3_;clear n0_ n1_ n2_ n3_;clear hb hbox hg)|((with_reducible refine gate_dst (N:=3) rfl ?_);refine box_event ?hg (N:=3) ?hd (cs:=#[.bool a1_0,.int .u64 a1_1,.int .u64 a1_2,.int .u64 a1_3,.int .u64 a1_4]) (t:=96) ?hr ?_;(case hd=>rfl);(case hg=>rfl);(case hr=>first|(go_simp;done)|(go_simp;rfl));intro gb184 hg w47 hbox hb;have n0_:=bb BK183 hb;have n1_:=Aside0.mk (below_step (by repeat (first|(with_reducible first|exact HB.out|apply qa|apply qn|apply qd|refine qs ?_ GE183.out)|exact HB.out)) hb);have n2_:=Aside0.mk (hbox);have n3_:=bgw HB hg;have n4_:=bgw HB hg;have n5_:=bnl BK183 hg;have n6_:=bng BK183 hg;clear BK183;clear HB;have BK183:=n0_;have HB:=n1_;have BK184:=n2_;have GW184:=n3_;have GE184:=n4_;have NB183_184:=n5_;have NB184_183:=n6_;clear n0_ n1_ n2_ n3_ n4_ n5_ n6_;clear hb hbox hg)|((with_reducible refine gate_dst (N:=4) rfl ?_);refine box_event ?hg (N:=4) ?hd (cs:=#[.bool false,.int .u64 0,.int .u64 0,.int .u64 0,.int .u64 0]) (t:=96) ?hr ?_;(case hd=>rfl);(case hg=>rfl);(case hr=>first|(go_simp;done)|(go_simp;rfl));intro gb185 hg w48 hbox hb;have n0_:=bb BK183 hb;have n1_:=bb BK184 hb;have n2_:=Aside0.mk (below_step (by repeat (first|(with_reducible first|exact HB.out|apply qa|apply qn|apply qd|refine qs ?_ GE183.out|refine qs ?_ GE184.out)|exact HB.out)) hb);have n3_:=Aside0.mk (hbox);have n4_:=bgw HB hg;have n5_:=bgw HB hg;have n6_:=bnl BK183 hg;have n7_:=bng BK183 hg;have n8_:=bnl BK184 hg;have n9_:=bng BK184 hg;clear BK183;clear BK184;clear HB;have BK183:=n0_;have BK184:=n1_;have HB:=n2_;have BK185:=n3_;have GW185:=n4_;have GE185:=n5_;have NB183_185:=n6_;have NB185_183:=n7_;have NB184_185:=n8_;have NB185_184:=n9_;clear n0_ n1_ n2_ n3_ n4_ n5_ n6_ n7_ n8_ n9_;clear hb hbox hg;have hnb49:=NB183_184.out;have hnc49:=NB184_183.out;have hnb50:=NB183_185.out;have hnc50:=NB185_183.out;obtain ⟨hcz51_0,hcz51_1,hcz51_2,hcz51_3,hcz51_4⟩:=cl5 BK183.out;obtain ⟨hfz51_0,hfz51_1,hfz51_2,hfz51_3,hfz51_4⟩:=fr5 BK183.out;have hnb52:=NB184_185.out;have hnc52:=NB185_184.out;obtain ⟨hcz53_0,hcz53_1,hcz53_2,hcz53_3,hcz53_4⟩:=cl5 BK184.out;obtain ⟨hfz53_0,hfz53_1,hfz53_2,hfz53_3,hfz53_4⟩:=fr5 BK184.out)|((with_reducible refine gate_callee (f:=93) rfl ?_);refine goesL_ (some 32) rfl rfl Tryz.func93 (by kernel_rfl) rfl #[.agg #[.int .u64 a0_1,.int .u64 a0_2,.int .u64 a0_3,.int .u64 a0_4],.agg #[.int .u64 a1_1,.int .u64 a1_2,.int .u64 a1_3,.int .u64 a1_4]] rfl (by (try simp only [List.map_toArray,List.map_cons,List.map_nil]);first|done|rfl|(simp only [List.length_drop,List.length_take];rfl)) ?_;(with_reducible refine (wide_size.calls a0_1 a0_2 a0_3 a0_4 a1_1 a1_2 a1_3 a1_4 t197 _ A23.out).mono ?_);rintro e w54 ⟨rfl,hb⟩;refine ⟨_,rfl,?_⟩;have n0_:=bb BK183 hb;have n1_:=bb BK184 hb;have n2_:=bb BK185 hb;have n3_:=Aside0.mk (below_step (by repeat (first|(with_reducible first|exact HB.out|apply qa|apply qn|apply qd|refine qs ?_ GE183.out|refine qs ?_ GE184.out|refine qs ?_ GE185.out)|exact HB.out)) hb);clear BK183;clear BK184;clear BK185;clear HB;have BK183:=n0_;have BK184:=n1_;have BK185:=n2_;have HB:=n3_;clear n0_ n1_ n2_ n3_;(try clear hb);(try clear hb2);(try clear hk);(try clear hi)))
 have n0_:=Aside0.mk (blk_drew BK183.out)
 have n1_:=Aside0.mk (blk_drew BK184.out)
 have n2_:=Aside0.mk (blk_drew BK185.out)
 have n3_:=Aside0.mk (below_drew1 HB.out)
 clear BK183
 clear BK184
 clear BK185
 clear HB
 have BK183:=n0_
 have BK184:=n1_
 have BK185:=n2_
 have HB:=n3_
 clear n0_ n1_ n2_ n3_
 refine start_ (n:=10) (S:=fun w'=>w'.cell? ⟨gb183,0,none⟩=some (.bool a0_0)∧w'.cell? ⟨gb183,1,none⟩=some (.int .u64 a0_1)∧w'.cell? ⟨gb183,2,none⟩=some (.int .u64 a0_2)∧w'.cell? ⟨gb183,3,none⟩=some (.int .u64 a0_3)∧w'.cell? ⟨gb183,4,none⟩=some (.int .u64 a0_4)∧w'.cell? ⟨gb184,0,none⟩=some (.bool a1_0)∧w'.cell? ⟨gb184,1,none⟩=some (.int .u64 a1_1)∧w'.cell? ⟨gb184,2,none⟩=some (.int .u64 a1_2)∧w'.cell? ⟨gb184,3,none⟩=some (.int .u64 a1_3)∧w'.cell? ⟨gb184,4,none⟩=some (.int .u64 a1_4)) (ds:=[]) #[Ff,Ff,Ff,Ff,Ff,Ff,Ff,Ff,Ff,Ff] (by kernel_rfl) rfl rfl ⟨(blk_cell BK183.out 0).trans rfl,(blk_cell BK183.out 1).trans rfl,(blk_cell BK183.out 2).trans rfl,(blk_cell BK183.out 3).trans rfl,(blk_cell BK183.out 4).trans rfl,(blk_cell BK184.out 0).trans rfl,(blk_cell BK184.out 1).trans rfl,(blk_cell BK184.out 2).trans rfl,(blk_cell BK184.out 3).trans rfl,(blk_cell BK184.out 4).trans rfl⟩ (fun hHeld=>?_);refine with_tabW wide_add.tab6 wide_add.bits6 (fun HT_ HW_=>?_)
 generalize w54.drew=w55 at BK183 BK184 BK185 HB hHeld ⊢
 refine pure_ (i:=0) (N:=some 42) (v:=?_) (a':=?_) #[Tt,Ff,Ff,Ff,Ff,Ff,Ff,Ff,Ff,Ff] rfl rfl (any_of HT_.out (by kernel_rfl)) (fun _ _ _ h=>h) (Or.inl ⟨by rfl,?_⟩) ?_ ?_
 rotate_left
 ·intro w'
  go_simp
  with_reducible rfl
 rotate_left
 ·simp only [Act.put,List.setIfInBounds_toArray,List.set_cons_zero,List.set_cons_succ,i64_w,i32_w]
  rfl
 refine pure_ (i:=2) (N:=some 44) (v:=?_) (a':=?_) #[Tt,Ff,Tt,Ff,Ff,Ff,Ff,Ff,Ff,Ff] rfl rfl (any_of HT_.out (by kernel_rfl)) (fun _ _ _ h=>h) (Or.inl ⟨by rfl,?_⟩) ?_ ?_
 rotate_left
 ·intro w'
  go_simp
  with_reducible rfl
 rotate_left
 ·simp only [Act.put,List.setIfInBounds_toArray,List.set_cons_zero,List.set_cons_succ,i64_w,i32_w]
  rfl
 refine pure_ (i:=4) (N:=some 46) (v:=?_) (a':=?_) #[Tt,Ff,Tt,Ff,Tt,Ff,Ff,Ff,Ff,Ff] rfl rfl (any_of HT_.out (by kernel_rfl)) (fun _ _ _ h=>h) (Or.inl ⟨by rfl,?_⟩) ?_ ?_
 rotate_left
 ·intro w'
  go_simp
  with_reducible rfl
 rotate_left
 ·simp only [Act.put,List.setIfInBounds_toArray,List.set_cons_zero,List.set_cons_succ,i64_w,i32_w]
  rfl
 refine take_ (i:=1) (N:=some 43) (v:=?_) (a':=?_) #[Tt,Tt,Tt,Ff,Tt,Ff,Ff,Ff,Ff,Ff] rfl rfl (take_ofW HT_.out HW_.out (by kernel_rfl)) (fun _ _ _ h=>h) (Or.inl ⟨by rfl,?_⟩) hHeld ?_ ?_
 rotate_left
 ·rintro w' ⟨s0,s1,s2,s3,s4,s5,s6,s7,s8,s9⟩
  go_simp
  with_reducible rfl
 rotate_left
 ·simp only [Act.put,List.setIfInBounds_toArray,List.set_cons_zero,List.set_cons_succ,i64_w,i32_w]
  rfl
 refine take_ (i:=3) (N:=some 45) (v:=?_) (a':=?_) #[Tt,Tt,Tt,Tt,Tt,Ff,Ff,Ff,Ff,Ff] rfl rfl (take_ofW HT_.out HW_.out (by kernel_rfl)) (fun _ _ _ h=>h) (Or.inl ⟨by rfl,?_⟩) hHeld ?_ ?_
 rotate_left
 ·rintro w' ⟨s0,s1,s2,s3,s4,s5,s6,s7,s8,s9⟩
  go_simp
  with_reducible rfl
 rotate_left
 ·simp only [Act.put,List.setIfInBounds_toArray,List.set_cons_zero,List.set_cons_succ,i64_w,i32_w]
  rfl
 refine take_ (i:=5) (N:=some 47) (v:=?_) (a':=?_) #[Tt,Tt,Tt,Tt,Tt,Tt,Ff,Ff,Ff,Ff] rfl rfl (take_ofW HT_.out HW_.out (by kernel_rfl)) (fun _ _ _ h=>h) (Or.inl ⟨by rfl,?_⟩) hHeld ?_ ?_
 rotate_left
 ·rintro w' ⟨s0,s1,s2,s3,s4,s5,s6,s7,s8,s9⟩
  go_simp
  with_reducible rfl
 rotate_left
 ·simp only [Act.put,List.setIfInBounds_toArray,List.set_cons_zero,List.set_cons_succ,i64_w,i32_w]
  rfl
 refine one_ (i:=6) (N:=some 48) #[Tt,Tt,Tt,Tt,Tt,Tt,Tt,Ff,Ff,Ff] rfl rfl (one_of HT_.out (by kernel_rfl)) (by decide) (fun K hK=>?_)
 refine goes_ Tryz.func148 (by kernel_rfl) rfl #[.agg #[.int .u64 a0_1,.int .u64 a0_2,.int .u64 a0_3,.int .u64 a0_4],.agg #[.int .u64 a1_1,.int .u64 a1_2,.int .u64 a1_3,.int .u64 a1_4]] (by rfl) rfl rfl (by (try simp only [List.map_toArray,List.map_cons,List.map_nil]);first|done|rfl|(simp only [List.length_drop,List.length_take];rfl)) ?_
 with_reducible refine (wide_less.calls a0_1 a0_2 a0_3 a0_4 a1_1 a1_2 a1_3 a1_4 t207 t208 t209 t210 _ A44.out).mono ?_
 rintro e w56 ⟨rfl,hb⟩
 refine ⟨_,rfl,?_⟩
 have n0_:=bb BK183 hb
 have n1_:=bb BK184 hb
 have n2_:=bb BK185 hb
 have n3_:=Aside0.mk (below_step (by repeat (first|(with_reducible first|exact HB.out|apply qa|apply qn|apply qd|refine qs ?_ GE183.out|refine qs ?_ GE184.out|refine qs ?_ GE185.out)|exact HB.out)) hb)
 clear BK183
 clear BK184
 clear BK185
 clear HB
 have BK183:=n0_
 have BK184:=n1_
 have BK185:=n2_
 have HB:=n3_
 clear n0_ n1_ n2_ n3_
 (try clear hb)
 (try clear hb2)
 (try clear hk)
 (try clear hi)
 refine hK.out _ _ ⟨(blk_cell BK183.out 0).trans rfl,(blk_cell BK183.out 1).trans rfl,(blk_cell BK183.out 2).trans rfl,(blk_cell BK183.out 3).trans rfl,(blk_cell BK183.out 4).trans rfl,(blk_cell BK184.out 0).trans rfl,(blk_cell BK184.out 1).trans rfl,(blk_cell BK184.out 2).trans rfl,(blk_cell BK184.out 3).trans rfl,(blk_cell BK184.out 4).trans rfl⟩ (fun hHeld=>?_)
 clear hK K
 refine norm_ (a':=?_) ?_ ?_
 rotate_left
 ·show Act.put _ (some 48) _=_
  simp only [Act.put,List.setIfInBounds_toArray,List.set_cons_zero,List.set_cons_succ,i64_w,i32_w]
  rfl
 refine one_ (i:=7) (N:=some 49) #[Tt,Tt,Tt,Tt,Tt,Tt,Tt,Tt,Ff,Ff] rfl rfl (one_of HT_.out (by kernel_rfl)) (by decide) (fun K hK=>?_)
 refine goes_ Tryz.func97 (by kernel_rfl) rfl #[.bool a0_0,.agg #[.int .u64 t207,.int .u64 t208,.int .u64 t209,.int .u64 t210]] (by rfl) rfl rfl (by (try simp only [List.map_toArray,List.map_cons,List.map_nil]);first|done|rfl|(simp only [List.length_drop,List.length_take];rfl)) ?_
 with_reducible refine (wide_of.calls a0_0 t207 t208 t209 t210 t211 t212 t213 t214 t215 _ A45.out).mono ?_
 rintro e w57 ⟨rfl,hb⟩
 refine ⟨_,rfl,?_⟩
 have n0_:=bb BK183 hb
 have n1_:=bb BK184 hb
 have n2_:=bb BK185 hb
 have n3_:=Aside0.mk (below_step (by repeat (first|(with_reducible first|exact HB.out|apply qa|apply qn|apply qd|refine qs ?_ GE183.out|refine qs ?_ GE184.out|refine qs ?_ GE185.out)|exact HB.out)) hb)
 clear BK183
 clear BK184
 clear BK185
 clear HB
 have BK183:=n0_
 have BK184:=n1_
 have BK185:=n2_
 have HB:=n3_
 clear n0_ n1_ n2_ n3_
 (try clear hb)
 (try clear hb2)
 (try clear hk)
 (try clear hi)
 refine hK.out _ _ ⟨(blk_cell BK183.out 0).trans rfl,(blk_cell BK183.out 1).trans rfl,(blk_cell BK183.out 2).trans rfl,(blk_cell BK183.out 3).trans rfl,(blk_cell BK183.out 4).trans rfl,(blk_cell BK184.out 0).trans rfl,(blk_cell BK184.out 1).trans rfl,(blk_cell BK184.out 2).trans rfl,(blk_cell BK184.out 3).trans rfl,(blk_cell BK184.out 4).trans rfl⟩ (fun hHeld=>?_)
 clear hK K
 refine norm_ (a':=?_) ?_ ?_
 rotate_left
 ·show Act.put _ (some 49) _=_
  simp only [Act.put,List.setIfInBounds_toArray,List.set_cons_zero,List.set_cons_succ,i64_w,i32_w]
  rfl
 refine one_ (i:=8) (N:=none) #[Tt,Tt,Tt,Tt,Tt,Tt,Tt,Tt,Tt,Ff] rfl rfl (one_of HT_.out (by kernel_rfl)) (by decide) (fun K hK=>?_)
 have hs58:w57.cell? ⟨gb185,0,none⟩=some (.bool false):=(blk_cell BK185.out 0).trans rfl
 have hfs58:=blk_frozen BK185.out 0
 have hns58_0:=NB183_185.out
 have hns58_1:=NB184_185.out
 have hms58_0:=NB185_183.out
 have hms58_1:=NB185_184.out
 have hs59:w57.cell? ⟨gb185,1,none⟩=some (.int .u64 0):=(blk_cell BK185.out 1).trans rfl
 have hfs59:=blk_frozen BK185.out 1
 have hns59_0:=NB183_185.out
 have hns59_1:=NB184_185.out
 have hms59_0:=NB185_183.out
 have hms59_1:=NB185_184.out
 have hs60:w57.cell? ⟨gb185,2,none⟩=some (.int .u64 0):=(blk_cell BK185.out 2).trans rfl
 have hfs60:=blk_frozen BK185.out 2
 have hns60_0:=NB183_185.out
 have hns60_1:=NB184_185.out
 have hms60_0:=NB185_183.out
 have hms60_1:=NB185_184.out
 have hs61:w57.cell? ⟨gb185,3,none⟩=some (.int .u64 0):=(blk_cell BK185.out 3).trans rfl
 have hfs61:=blk_frozen BK185.out 3
 have hns61_0:=NB183_185.out
 have hns61_1:=NB184_185.out
 have hms61_0:=NB185_183.out
 have hms61_1:=NB185_184.out
 have hs62:w57.cell? ⟨gb185,4,none⟩=some (.int .u64 0):=(blk_cell BK185.out 4).trans rfl
 have hfs62:=blk_frozen BK185.out 4
 have hns62_0:=NB183_185.out
 have hns62_1:=NB184_185.out
 have hms62_0:=NB185_183.out
 have hms62_1:=NB185_184.out
 refine skip_ (w1:=?_) (by rfl) rfl ?_ ?_
 rotate_left
 ·go_simp
  rfl
 refine hK.out _ _ ⟨(cf5 NB183_185.out hHeld.1),(cf5 NB183_185.out hHeld.2.1),(cf5 NB183_185.out hHeld.2.2.1),(cf5 NB183_185.out hHeld.2.2.2.1),(cf5 NB183_185.out hHeld.2.2.2.2.1),(cf5 NB184_185.out hHeld.2.2.2.2.2.1),(cf5 NB184_185.out hHeld.2.2.2.2.2.2.1),(cf5 NB184_185.out hHeld.2.2.2.2.2.2.2.1),(cf5 NB184_185.out hHeld.2.2.2.2.2.2.2.2.1),(cf5 NB184_185.out hHeld.2.2.2.2.2.2.2.2.2)⟩ (fun hHeld=>?_)
 clear hK K
 refine pure_ (i:=9) (N:=some 5) (v:=?_) (a':=?_) #[Tt,Tt,Tt,Tt,Tt,Tt,Tt,Tt,Tt,Tt] rfl rfl (any_of HT_.out (by kernel_rfl)) (fun _ _ _ h=>h) (Or.inl ⟨by rfl,?_⟩) ?_ ?_
 rotate_left
 ·intro w'
  go_simp
  with_reducible rfl
 rotate_left
 ·simp only [Act.put,List.setIfInBounds_toArray,List.set_cons_zero,List.set_cons_succ,i64_w,i32_w]
  rfl
 refine done_ (done_of HT_.out (by kernel_rfl)) ?_
 try go_wp2
 refine bodyPost_ret (results_ct rfl _ _ gb185 96 #[.bool t211,.int .u64 t212,.int .u64 t213,.int .u64 t214,.int .u64 t215] (0,0) _ rfl (by (with_reducible repeat (first|refine cn ?_ _|refine cd ?_|refine ca ?_ _));refine blk_put (cs:=#[.bool t211,.int .u64 t212,.int .u64 t213,.int .u64 t214,.int .u64 0]) ?_ 4 _ rfl;(with_reducible repeat (first|refine cn ?_ _|refine cd ?_|refine ca ?_ _));refine blk_put (cs:=#[.bool t211,.int .u64 t212,.int .u64 t213,.int .u64 0,.int .u64 0]) ?_ 3 _ rfl;(with_reducible repeat (first|refine cn ?_ _|refine cd ?_|refine ca ?_ _));refine blk_put (cs:=#[.bool t211,.int .u64 t212,.int .u64 0,.int .u64 0,.int .u64 0]) ?_ 2 _ rfl;(with_reducible repeat (first|refine cn ?_ _|refine cd ?_|refine ca ?_ _));refine blk_put (cs:=#[.bool t211,.int .u64 0,.int .u64 0,.int .u64 0,.int .u64 0]) ?_ 1 _ rfl;(with_reducible repeat (first|refine cn ?_ _|refine cd ?_|refine ca ?_ _));refine blk_put (cs:=#[.bool false,.int .u64 0,.int .u64 0,.int .u64 0,.int .u64 0]) ?_ 0 _ rfl;(with_reducible repeat (first|refine cn ?_ _|refine cd ?_|refine ca ?_ _));exact BK185.out) Tryz.underlying96 rfl (by kernel_rfl)) rfl ?_
 exact ⟨by first|rfl|(simp [errW_none,errW_some]<;>rfl)|(simp [*,errW_none,errW_some]<;>rfl),by repeat (first|(with_reducible first|exact HB.out|apply qa|apply qn|apply qd|refine qs ?_ GE183.out|refine qs ?_ GE184.out|refine qs ?_ GE185.out)|exact HB.out)⟩
end Go.Proofs.YtkgagdjogedoiaaGreat.MT
namespace Go.Proofs.YtkgagdjogedoiaaGreat.MT
open Go.RowKit Go.Proofs.YtkgagdjogedoiaaGreatW.PrintWords Go.Proofs.YtkgagdjogedoiaaGreatW.PrintLast Go.Proofs.YtkgagdjogedoiaaGreatW.PrintMore
attribute [local go_sem] max2_int min2_int max_two min_two max_three min_three max_four min_four   -- for this text's walks alone
set_option linter.unusedVariables false
set_option linter.unusedSimpArgs false
attribute [local go_sem high] eqA27
/-! ### wide_Add: function 35 -/
def wide_Add.l0:Nat→List (S27)→Int→Int→Bool→Int→Int→Int→Int→Option (Bool × Int × Int × Int × Int × Int)
 | 0,_,_,_,_,_,_,_,_=>none
 | k+1,x9,x10,x11,x566000,x566001,x566002,x566003,x566004=>if x11 < x10 then (if 0≤x11 then (if x11 < (x9.length:Int) then ((wide_add.f x566000 x566001 x566002 x566003 x566004 ((rd_T27 x9 x11).f0) ((rd_T27 x9 x11).f1.f0) ((rd_T27 x9 x11).f1.f1) ((rd_T27 x9 x11).f1.f2) ((rd_T27 x9 x11).f1.f3)).bind fun bt568=>(if bt568.2.2.2.2.2=true then (wide_Add.l0 k x9 x10 (wrap64 (x11+1)) bt568.1 bt568.2.1 bt568.2.2.1 bt568.2.2.2.1 bt568.2.2.2.2.1) else (some (false,0,0,0,0,10)))) else (none)) else (none)) else (some (x566000,x566001,x566002,x566003,x566004,0))
def wide_Add.f (k:Nat) (l0:List (S27)):Option (Bool × Int × Int × Int × Int × Int):=wide_Add.l0 k l0 (l0.length:Int) 0 false 0 0 0 0
theorem wide_Add.mono_l:∀ k,(∀ y0 y1 y2 y3 y4 y5 y6 y7,LeO (wide_Add.l0 k y0 y1 y2 y3 y4 y5 y6 y7) (wide_Add.l0 (k+1) y0 y1 y2 y3 y4 y5 y6 y7))
 | 0=>fun _ _ _ _ _ _ _ _ r h=>by simp [wide_Add.l0] at h
 | k+1=>by
  have ih0:=wide_Add.mono_l k
  ·intro y0 y1 y2 y3 y4 y5 y6 y7
   unfold wide_Add.l0
   repeat' first
   | (with_reducible exact ih0 _ _ _ _ _ _ _ _)
   | (with_reducible exact LeO.refl _)
   | (with_reducible exact LeO.none _)
   | (with_reducible refine LeO.ite ?_ ?_)
   | (with_reducible refine LeO.bind ?_ (fun _=>?_))
   | exact ih0 _ _ _ _ _ _ _ _
   | exact LeO.none _
   | refine LeO.ite ?_ ?_
   | refine LeO.bind ?_ (fun _=>?_)
theorem wide_Add.mono:∀ a0 k,LeO (wide_Add.f k a0) (wide_Add.f (k+1) a0):=by
 intro a0 k
 have ih0:=wide_Add.mono_l k
 unfold wide_Add.f
 repeat' first
   | (with_reducible exact ih0 _ _ _ _ _ _ _ _)
   | (with_reducible exact LeO.refl _)
   | (with_reducible exact LeO.none _)
   | (with_reducible refine LeO.ite ?_ ?_)
   | (with_reducible refine LeO.bind ?_ (fun _=>?_))
   | exact ih0 _ _ _ _ _ _ _ _
   | exact LeO.none _
   | refine LeO.ite ?_ ?_
   | refine LeO.bind ?_ (fun _=>?_)
set_option maxHeartbeats 8000000 in
set_option maxRecDepth 100000 in
theorem wide_Add.calls (k:Nat) (A0:Option Addr) (c0:Nat) (l0:List (S27)) (r1:Bool) (r2:Int) (r3:Int) (r4:Int) (r5:Int) (r6:Int) (w:World) (hr0:Kd.C k27 w A0 l0.length l0) (hc0:l0.length≤c0) (h:wide_Add.f k l0=some (r1,r2,r3,r4,r5,r6)) :
  Calls Tryz.prog 100 #[.slice A0 l0.length c0] w fun e w'=>e = .returned (.tuple #[.agg #[.bool r1,.int .u64 r2,.int .u64 r3,.int .u64 r4,.int .u64 r5],.int .i64 r6])∧Below w.heap.size w w':=by
 have hu27:=Tryz.underlying96
 have HR0:=Aside0.mk hr0
 have HC0:=Aside0.mk hc0
 clear hr0 hc0
 have HB:=Aside0.mk (Below.refl w.heap.size w)
 have H:(wide_Add.l0 k l0 (l0.length:Int) 0 false 0 0 0 0)=some (r1,r2,r3,r4,r5,r6):=h
 clear h
 have H':=Aside0.mk H
 clear H
 go_enter Tryz.func100,Tryz.ntmps100
 go_wp2_with (first|((with_reducible refine gate_dst (N:=2) rfl ?_);refine box_event ?hg (N:=2) ?hd (cs:=#[.bool false,.int .u64 0,.int .u64 0,.int .u64 0,.int .u64 0]) (t:=96) ?hr ?_;(case hd=>rfl);(case hg=>rfl);(case hr=>first|(go_simp;done)|(go_simp;rfl));intro gb564 hg w2 hbox hb;have n0_:=Aside0.mk (below_step (by repeat (first|(with_reducible first|exact HB.out|apply qa|apply qn|apply qd)|exact HB.out)) hb);have n1_:=Aside0.mk (hbox);have n2_:=bgw HB hg;have n3_:=bgw HB hg;clear HB;have HB:=n0_;have BK564:=n1_;have GW564:=n2_;have GE564:=n3_;clear n0_ n1_ n2_ n3_;clear hb hbox hg)|((with_reducible refine gate_dst (N:=4) rfl ?_);refine box_event ?hg (N:=4) ?hd (cs:=#[.bool false,.int .u64 0,.int .u64 0,.int .u64 0,.int .u64 0]) (t:=96) ?hr ?_;(case hd=>rfl);(case hg=>rfl);(case hr=>first|(go_simp;done)|(go_simp;rfl));intro gb565 hg w3 hbox hb;have n0_:=bb BK564 hb;have n1_:=Aside0.mk (below_step (by repeat (first|(with_reducible first|exact HB.out|apply qa|apply qn|apply qd|refine qs ?_ GE564.out)|exact HB.out)) hb);have n2_:=Aside0.mk (hbox);have n3_:=bgw HB hg;have n4_:=bgw HB hg;have n5_:=bnl BK564 hg;have n6_:=bng BK564 hg;clear BK564;clear HB;have BK564:=n0_;have HB:=n1_;have BK565:=n2_;have GW565:=n3_;have GE565:=n4_;have NB564_565:=n5_;have NB565_564:=n6_;clear n0_ n1_ n2_ n3_ n4_ n5_ n6_;clear hb hbox hg))
 go_loopg [11] k (fun kq v11 w'=>∃ (x11_1:Int) (x565000_1:Bool) (x565001_1:Int) (x565002_1:Int) (x565003_1:Int) (x565004_1:Int) (x566000_1:Bool) (x566001_1:Int) (x566002_1:Int) (x566003_1:Int) (x566004_1:Int),v11 = .int .i64 x11_1∧Aside0 (wide_Add.l0 kq l0 (l0.length:Int) x11_1 x566000_1 x566001_1 x566002_1 x566003_1 x566004_1=some (r1,r2,r3,r4,r5,r6))∧Aside0 (kq≤k)∧Aside0 (w'.heap[gb564]?=some (.cells #[.bool x565000_1,.int .u64 x565001_1,.int .u64 x565002_1,.int .u64 x565003_1,.int .u64 x565004_1] 96 (0,0)))∧Aside0 (w'.heap[gb565]?=some (.cells #[.bool x566000_1,.int .u64 x566001_1,.int .u64 x566002_1,.int .u64 x566003_1,.int .u64 x566004_1] 96 (0,0)))∧Aside0 (Below w.heap.size w w'))
 case atStart=>exact ⟨(0),(false),(0),(0),(0),(0),(false),(0),(0),(0),(0),(by first|rfl|(simp;done)|(simp [*];done)),H',⟨Nat.le_refl _⟩,⟨by (with_reducible repeat (first|refine cn ?_ _|refine cd ?_|refine ca ?_ _));exact BK564.out⟩,⟨by (with_reducible repeat (first|refine cn ?_ _|refine cd ?_|refine ca ?_ _));exact BK565.out⟩,⟨by repeat (first|(with_reducible first|exact HB.out|apply qa|apply qn|apply qd|refine qs ?_ GE564.out|refine qs ?_ GE565.out)|exact HB.out)⟩⟩
 case round =>
  clear H'
  try clear p2
  try clear c3
  obtain ⟨x11_1,x565000_1,x565001_1,x565002_1,x565003_1,x565004_1,x566000_1,x566001_1,x566002_1,x566003_1,x566004_1,rfl,HA,HK1,BK564,BK565,HB⟩:=hrel
  cases gk with
  | zero=>exact absurd HA.out (by simp [wide_Add.l0])
  | succ k1 =>
   have H:=HA.out
   clear HA
   simp only [wide_Add.l0] at H
   by_cases c4:x11_1 < (l0.length:Int)
   rotate_left
   ·rw [if_neg c4] at H
    have c4b0:decide (x11_1 < (l0.length:Int))=false:=decide_eq_false c4
    clear c4
    simp only [Option.some.injEq,Prod.mk.injEq] at H
    obtain ⟨rfl,rfl,rfl,rfl,rfl,rfl⟩:=H
    have hnb35:=NB565_564.out
    have hnc35:=NB564_565.out
    obtain ⟨hcz36_0,hcz36_1,hcz36_2,hcz36_3,hcz36_4⟩:=cl5 BK565.out
    obtain ⟨hfz36_0,hfz36_1,hfz36_2,hfz36_3,hfz36_4⟩:=fr5 BK565.out
    obtain ⟨hcz37_0,hcz37_1,hcz37_2,hcz37_3,hcz37_4⟩:=cl5 BK564.out
    obtain ⟨hfz37_0,hfz37_1,hfz37_2,hfz37_3,hfz37_4⟩:=fr5 BK564.out
    go_wp2
    refine bodyPost_ret (results_ct rfl _ _ gb564 96 #[.bool x566000_1,.int .u64 x566001_1,.int .u64 x566002_1,.int .u64 x566003_1,.int .u64 x566004_1] (0,0) _ rfl (by (with_reducible repeat (first|refine cn ?_ _|refine cd ?_|refine ca ?_ _));exact bp5 (lb BK564.out)) Tryz.underlying96 rfl (by kernel_rfl)) rfl ?_
    exact ⟨by first|rfl|(simp [errW_none,errW_some]<;>rfl)|(simp [*,errW_none,errW_some]<;>rfl),by repeat (first|(with_reducible first|exact HB.out|apply qa|apply qn|apply qd|refine qs ?_ GE564.out|refine qs ?_ GE565.out)|exact HB.out)⟩
   rw [if_pos c4] at H
   have c4b0:decide (x11_1 < (l0.length:Int))=true:=decide_eq_true c4
   clear c4
   by_cases c5:0≤x11_1
   rotate_left
   ·rw [if_neg c5] at H
    exact absurd H (by simp)
   rw [if_pos c5] at H
   have c5b0:decide (0≤x11_1)=true:=decide_eq_true c5
   clear c5
   by_cases c6:x11_1 < (l0.length:Int)
   rotate_left
   ·rw [if_neg c6] at H
    exact absurd H (by simp)
   rw [if_pos c6] at H
   have c6b0:decide (x11_1 < (l0.length:Int))=true:=decide_eq_true c6
   clear c6
   replace H:=Option.bind_eq_some_iff.mp H
   obtain ⟨⟨t568,t569,t570,t571,t572,t573⟩,A70,H⟩:=H
   replace H:(if t573=true then (wide_Add.l0 k1 l0 (l0.length:Int) (wrap64 (x11_1+1)) t568 t569 t570 t571 t572) else (some (false,0,0,0,0,10)))=some (r1,r2,r3,r4,r5,r6):=H
   have A7:=Aside0.mk A70
   clear A70
   by_cases c8:t573=true
   rotate_left
   ·replace c8:=Bool.eq_false_iff.mpr c8
    subst c8
    have H1:(some (false,0,0,0,0,10))=some (r1,r2,r3,r4,r5,r6):=by rw [if_neg (show ¬ (false=true) by decide)] at H;exact H
    clear H
    have H:=H1
    clear H1
    simp only [Option.some.injEq,Prod.mk.injEq] at H
    obtain ⟨rfl,rfl,rfl,rfl,rfl,rfl⟩:=H
    have p566:0≤(x11_1:Int):=of_decide_eq_true (by first|(with_reducible assumption)|assumption)
    have q566:x11_1 < (l0.length:Int):=of_decide_eq_true (by first|(with_reducible assumption)|assumption)
    obtain ⟨ad566,e566,hx566_0,hx566_1,hx566_2,hx566_3,hx566_4⟩:=at_T27 HR0.out x11_1 p566 q566
    cases e566
    replace hx566_0:=(HB.out.cell (World.block_lt_of_cell? w _ hx566_0)).trans hx566_0
    replace hx566_1:=(HB.out.cell (World.block_lt_of_cell? w _ hx566_1)).trans hx566_1
    replace hx566_2:=(HB.out.cell (World.block_lt_of_cell? w _ hx566_2)).trans hx566_2
    replace hx566_3:=(HB.out.cell (World.block_lt_of_cell? w _ hx566_3)).trans hx566_3
    replace hx566_4:=(HB.out.cell (World.block_lt_of_cell? w _ hx566_4)).trans hx566_4
    replace p566:=eq_true p566
    replace q566:=eq_true q566
    go_wp2_with (first|((with_reducible refine gate_dst (N:=6) rfl ?_);refine box_event ?hg (N:=6) ?hd (cs:=#[.bool false,.int .u64 0,.int .u64 0,.int .u64 0,.int .u64 0]) (t:=96) ?hr ?_;(case hd=>rfl);(case hg=>rfl);(case hr=>first|(go_simp;done)|(go_simp;rfl));intro gb567 hg w22 hbox hb;have n0_:=bb BK564 hb;have n1_:=bb BK565 hb;have n2_:=Aside0.mk (below_step (by repeat (first|(with_reducible first|exact HB.out|apply qa|apply qn|apply qd|refine qs ?_ GE564.out|refine qs ?_ GE565.out)|exact HB.out)) hb);have n3_:=Aside0.mk (hbox);have n4_:=bgw HB hg;have n5_:=bgw HB hg;have n6_:=bnl BK564 hg;have n7_:=bng BK564 hg;have n8_:=bnl BK565 hg;have n9_:=bng BK565 hg;clear BK564;clear BK565;clear HB;have BK564:=n0_;have BK565:=n1_;have HB:=n2_;have BK567:=n3_;have GW567:=n4_;have GE567:=n5_;have NB564_567:=n6_;have NB567_564:=n7_;have NB565_567:=n8_;have NB567_565:=n9_;clear n0_ n1_ n2_ n3_ n4_ n5_ n6_ n7_ n8_ n9_;clear hb hbox hg;have hnb23:=NB567_564.out;have hnc23:=NB564_567.out;have hnb24:=NB567_565.out;have hnc24:=NB565_567.out;obtain ⟨hcz25_0,hcz25_1,hcz25_2,hcz25_3,hcz25_4⟩:=cl5 BK567.out;obtain ⟨hfz25_0,hfz25_1,hfz25_2,hfz25_3,hfz25_4⟩:=fr5 BK567.out;have hnb26:=NB565_564.out;have hnc26:=NB564_565.out;obtain ⟨hcz27_0,hcz27_1,hcz27_2,hcz27_3,hcz27_4⟩:=cl5 BK565.out;obtain ⟨hfz27_0,hfz27_1,hfz27_2,hfz27_3,hfz27_4⟩:=fr5 BK565.out)|((with_reducible refine gate_callee (f:=128) rfl ?_);refine goesL_ (some 18) rfl rfl Tryz.func128 (by kernel_rfl) rfl #[.agg #[.bool x566000_1,.int .u64 x566001_1,.int .u64 x566002_1,.int .u64 x566003_1,.int .u64 x566004_1],.agg #[.bool ((rd_T27 l0 x11_1).f0),.int .u64 ((rd_T27 l0 x11_1).f1.f0),.int .u64 ((rd_T27 l0 x11_1).f1.f1),.int .u64 ((rd_T27 l0 x11_1).f1.f2),.int .u64 ((rd_T27 l0 x11_1).f1.f3)]] rfl (by (try simp only [List.map_toArray,List.map_cons,List.map_nil]);first|done|rfl|(simp only [List.length_drop,List.length_take];rfl)) ?_;(with_reducible refine (wide_add.calls x566000_1 x566001_1 x566002_1 x566003_1 x566004_1 ((rd_T27 l0 x11_1).f0) ((rd_T27 l0 x11_1).f1.f0) ((rd_T27 l0 x11_1).f1.f1) ((rd_T27 l0 x11_1).f1.f2) ((rd_T27 l0 x11_1).f1.f3) t568 t569 t570 t571 t572 false _ A7.out).mono ?_);rintro e w28 ⟨rfl,hb⟩;refine ⟨_,rfl,?_⟩;have n0_:=Aside0.mk (blk_below (g:=gb564) (o := .cells #[.bool x565000_1,.int .u64 x565001_1,.int .u64 x565002_1,.int .u64 x565003_1,.int .u64 x565004_1] 96 (0,0)) (by repeat (with_reducible first|exact lb BK564.out|refine blk_far ?_ NB564_567.out _|refine cn ?_ _|refine cd ?_|refine ca ?_ _)) hb);have n1_:=Aside0.mk (blk_below (g:=gb565) (o := .cells #[.bool x566000_1,.int .u64 x566001_1,.int .u64 x566002_1,.int .u64 x566003_1,.int .u64 x566004_1] 96 (0,0)) (by repeat (with_reducible first|exact lb BK565.out|refine blk_far ?_ NB565_567.out _|refine cn ?_ _|refine cd ?_|refine ca ?_ _)) hb);have n2_:=Aside0.mk (blk_below (g:=gb567) (o := .cells #[.bool ((rd_T27 l0 x11_1).f0),.int .u64 ((rd_T27 l0 x11_1).f1.f0),.int .u64 ((rd_T27 l0 x11_1).f1.f1),.int .u64 ((rd_T27 l0 x11_1).f1.f2),.int .u64 ((rd_T27 l0 x11_1).f1.f3)] 96 (0,0)) (by (with_reducible repeat (first|refine cn ?_ _|refine cd ?_|refine ca ?_ _));exact bp5 (lb BK567.out)) hb);have n3_:=Aside0.mk (below_step (by repeat (first|(with_reducible first|exact HB.out|apply qa|apply qn|apply qd|refine qs ?_ GE564.out|refine qs ?_ GE565.out|refine qs ?_ GE567.out)|exact HB.out)) hb);clear BK564;clear BK565;clear BK567;clear HB;have BK564:=n0_;have BK565:=n1_;have BK567:=n2_;have HB:=n3_;clear n0_ n1_ n2_ n3_;(try clear hb);(try clear hb2);(try clear hk);(try clear hi))|((with_reducible refine gate_dst (N:=7) rfl ?_);refine box_event ?hg (N:=7) ?hd (cs:=#[.bool false,.int .u64 0,.int .u64 0,.int .u64 0,.int .u64 0]) (t:=96) ?hr ?_;(case hd=>rfl);(case hg=>rfl);(case hr=>first|(go_simp;done)|(go_simp;rfl));intro gb574 hg w29 hbox hb;have n0_:=bb BK564 hb;have n1_:=bb BK565 hb;have n2_:=bb BK567 hb;have n3_:=Aside0.mk (below_step (by repeat (first|(with_reducible first|exact HB.out|apply qa|apply qn|apply qd|refine qs ?_ GE564.out|refine qs ?_ GE565.out|refine qs ?_ GE567.out)|exact HB.out)) hb);have n4_:=Aside0.mk (hbox);have n5_:=bgw HB hg;have n6_:=bgw HB hg;have n7_:=bnl BK564 hg;have n8_:=bng BK564 hg;have n9_:=bnl BK565 hg;have n10_:=bng BK565 hg;have n11_:=bnl BK567 hg;have n12_:=bng BK567 hg;clear BK564;clear BK565;clear BK567;clear HB;have BK564:=n0_;have BK565:=n1_;have BK567:=n2_;have HB:=n3_;have BK574:=n4_;have GW574:=n5_;have GE574:=n6_;have NB564_574:=n7_;have NB574_564:=n8_;have NB565_574:=n9_;have NB574_565:=n10_;have NB567_574:=n11_;have NB574_567:=n12_;clear n0_ n1_ n2_ n3_ n4_ n5_ n6_ n7_ n8_ n9_ n10_ n11_ n12_;clear hb hbox hg;have hnb30:=NB574_564.out;have hnc30:=NB564_574.out;have hnb31:=NB574_565.out;have hnc31:=NB565_574.out;have hnb32:=NB574_567.out;have hnc32:=NB567_574.out;obtain ⟨hcz33_0,hcz33_1,hcz33_2,hcz33_3,hcz33_4⟩:=cl5 BK574.out;obtain ⟨hfz33_0,hfz33_1,hfz33_2,hfz33_3,hfz33_4⟩:=fr5 BK574.out;obtain ⟨hcz34_0,hcz34_1,hcz34_2,hcz34_3,hcz34_4⟩:=cl5 BK564.out;obtain ⟨hfz34_0,hfz34_1,hfz34_2,hfz34_3,hfz34_4⟩:=fr5 BK564.out))
    refine bodyPost_ret (results_ct rfl _ _ gb564 96 #[.bool false,.int .u64 0,.int .u64 0,.int .u64 0,.int .u64 0] (0,0) _ rfl (by (with_reducible repeat (first|refine cn ?_ _|refine cd ?_|refine ca ?_ _));refine blk_put (cs:=#[.bool false,.int .u64 0,.int .u64 0,.int .u64 0,.int .u64 x565004_1]) ?_ 4 _ rfl;(with_reducible repeat (first|refine cn ?_ _|refine cd ?_|refine ca ?_ _));refine blk_put (cs:=#[.bool false,.int .u64 0,.int .u64 0,.int .u64 x565003_1,.int .u64 x565004_1]) ?_ 3 _ rfl;(with_reducible repeat (first|refine cn ?_ _|refine cd ?_|refine ca ?_ _));refine blk_put (cs:=#[.bool false,.int .u64 0,.int .u64 x565002_1,.int .u64 x565003_1,.int .u64 x565004_1]) ?_ 2 _ rfl;(with_reducible repeat (first|refine cn ?_ _|refine cd ?_|refine ca ?_ _));refine blk_put (cs:=#[.bool false,.int .u64 x565001_1,.int .u64 x565002_1,.int .u64 x565003_1,.int .u64 x565004_1]) ?_ 1 _ rfl;(with_reducible repeat (first|refine cn ?_ _|refine cd ?_|refine ca ?_ _));refine blk_put (cs:=#[.bool x565000_1,.int .u64 x565001_1,.int .u64 x565002_1,.int .u64 x565003_1,.int .u64 x565004_1]) ?_ 0 _ rfl;(with_reducible repeat (first|refine cn ?_ _|refine cd ?_|refine ca ?_ _));refine blk_far ?_ NB564_574.out _;(with_reducible repeat (first|refine cn ?_ _|refine cd ?_|refine ca ?_ _));refine blk_far ?_ NB564_574.out _;(with_reducible repeat (first|refine cn ?_ _|refine cd ?_|refine ca ?_ _));refine blk_far ?_ NB564_574.out _;(with_reducible repeat (first|refine cn ?_ _|refine cd ?_|refine ca ?_ _));refine blk_far ?_ NB564_574.out _;(with_reducible repeat (first|refine cn ?_ _|refine cd ?_|refine ca ?_ _));refine blk_far ?_ NB564_574.out _;(with_reducible repeat (first|refine cn ?_ _|refine cd ?_|refine ca ?_ _));exact BK564.out) Tryz.underlying96 rfl (by kernel_rfl)) rfl ?_
    exact ⟨by first|rfl|(simp [errW_none,errW_some]<;>rfl)|(simp [*,errW_none,errW_some]<;>rfl),by repeat (first|(with_reducible first|exact HB.out|apply qa|apply qn|apply qd|refine qs ?_ GE564.out|refine qs ?_ GE565.out|refine qs ?_ GE567.out|refine qs ?_ GE574.out)|exact HB.out)⟩
   subst c8
   have H1:(wide_Add.l0 k1 l0 (l0.length:Int) (wrap64 (x11_1+1)) t568 t569 t570 t571 t572)=some (r1,r2,r3,r4,r5,r6):=by rw [if_pos rfl] at H;exact H
   clear H
   have H:=H1
   clear H1
   have H':=Aside0.mk H
   clear H
   have p566:0≤(x11_1:Int):=of_decide_eq_true (by first|(with_reducible assumption)|assumption)
   have q566:x11_1 < (l0.length:Int):=of_decide_eq_true (by first|(with_reducible assumption)|assumption)
   obtain ⟨ad566,e566,hx566_0,hx566_1,hx566_2,hx566_3,hx566_4⟩:=at_T27 HR0.out x11_1 p566 q566
   cases e566
   replace hx566_0:=(HB.out.cell (World.block_lt_of_cell? w _ hx566_0)).trans hx566_0
   replace hx566_1:=(HB.out.cell (World.block_lt_of_cell? w _ hx566_1)).trans hx566_1
   replace hx566_2:=(HB.out.cell (World.block_lt_of_cell? w _ hx566_2)).trans hx566_2
   replace hx566_3:=(HB.out.cell (World.block_lt_of_cell? w _ hx566_3)).trans hx566_3
   replace hx566_4:=(HB.out.cell (World.block_lt_of_cell? w _ hx566_4)).trans hx566_4
   replace p566:=eq_true p566
   replace q566:=eq_true q566
   go_wp2_with (first|((with_reducible refine gate_dst (N:=6) rfl ?_);refine box_event ?hg (N:=6) ?hd (cs:=#[.bool false,.int .u64 0,.int .u64 0,.int .u64 0,.int .u64 0]) (t:=96) ?hr ?_;(case hd=>rfl);(case hg=>rfl);(case hr=>first|(go_simp;done)|(go_simp;rfl));intro gb567 hg w9 hbox hb;have n0_:=bb BK564 hb;have n1_:=bb BK565 hb;have n2_:=Aside0.mk (below_step (by repeat (first|(with_reducible first|exact HB.out|apply qa|apply qn|apply qd|refine qs ?_ GE564.out|refine qs ?_ GE565.out)|exact HB.out)) hb);have n3_:=Aside0.mk (hbox);have n4_:=bgw HB hg;have n5_:=bgw HB hg;have n6_:=bnl BK564 hg;have n7_:=bng BK564 hg;have n8_:=bnl BK565 hg;have n9_:=bng BK565 hg;clear BK564;clear BK565;clear HB;have BK564:=n0_;have BK565:=n1_;have HB:=n2_;have BK567:=n3_;have GW567:=n4_;have GE567:=n5_;have NB564_567:=n6_;have NB567_564:=n7_;have NB565_567:=n8_;have NB567_565:=n9_;clear n0_ n1_ n2_ n3_ n4_ n5_ n6_ n7_ n8_ n9_;clear hb hbox hg;have hnb10:=NB567_564.out;have hnc10:=NB564_567.out;have hnb11:=NB567_565.out;have hnc11:=NB565_567.out;obtain ⟨hcz12_0,hcz12_1,hcz12_2,hcz12_3,hcz12_4⟩:=cl5 BK567.out;obtain ⟨hfz12_0,hfz12_1,hfz12_2,hfz12_3,hfz12_4⟩:=fr5 BK567.out;have hnb13:=NB565_564.out;have hnc13:=NB564_565.out;obtain ⟨hcz14_0,hcz14_1,hcz14_2,hcz14_3,hcz14_4⟩:=cl5 BK565.out;obtain ⟨hfz14_0,hfz14_1,hfz14_2,hfz14_3,hfz14_4⟩:=fr5 BK565.out)|((with_reducible refine gate_callee (f:=128) rfl ?_);refine goesL_ (some 18) rfl rfl Tryz.func128 (by kernel_rfl) rfl #[.agg #[.bool x566000_1,.int .u64 x566001_1,.int .u64 x566002_1,.int .u64 x566003_1,.int .u64 x566004_1],.agg #[.bool ((rd_T27 l0 x11_1).f0),.int .u64 ((rd_T27 l0 x11_1).f1.f0),.int .u64 ((rd_T27 l0 x11_1).f1.f1),.int .u64 ((rd_T27 l0 x11_1).f1.f2),.int .u64 ((rd_T27 l0 x11_1).f1.f3)]] rfl (by (try simp only [List.map_toArray,List.map_cons,List.map_nil]);first|done|rfl|(simp only [List.length_drop,List.length_take];rfl)) ?_;(with_reducible refine (wide_add.calls x566000_1 x566001_1 x566002_1 x566003_1 x566004_1 ((rd_T27 l0 x11_1).f0) ((rd_T27 l0 x11_1).f1.f0) ((rd_T27 l0 x11_1).f1.f1) ((rd_T27 l0 x11_1).f1.f2) ((rd_T27 l0 x11_1).f1.f3) t568 t569 t570 t571 t572 true _ A7.out).mono ?_);rintro e w15 ⟨rfl,hb⟩;refine ⟨_,rfl,?_⟩;have n0_:=Aside0.mk (blk_below (g:=gb564) (o := .cells #[.bool x565000_1,.int .u64 x565001_1,.int .u64 x565002_1,.int .u64 x565003_1,.int .u64 x565004_1] 96 (0,0)) (by repeat (with_reducible first|exact lb BK564.out|refine blk_far ?_ NB564_567.out _|refine cn ?_ _|refine cd ?_|refine ca ?_ _)) hb);have n1_:=Aside0.mk (blk_below (g:=gb565) (o := .cells #[.bool x566000_1,.int .u64 x566001_1,.int .u64 x566002_1,.int .u64 x566003_1,.int .u64 x566004_1] 96 (0,0)) (by repeat (with_reducible first|exact lb BK565.out|refine blk_far ?_ NB565_567.out _|refine cn ?_ _|refine cd ?_|refine ca ?_ _)) hb);have n2_:=Aside0.mk (blk_below (g:=gb567) (o := .cells #[.bool ((rd_T27 l0 x11_1).f0),.int .u64 ((rd_T27 l0 x11_1).f1.f0),.int .u64 ((rd_T27 l0 x11_1).f1.f1),.int .u64 ((rd_T27 l0 x11_1).f1.f2),.int .u64 ((rd_T27 l0 x11_1).f1.f3)] 96 (0,0)) (by (with_reducible repeat (first|refine cn ?_ _|refine cd ?_|refine ca ?_ _));exact bp5 (lb BK567.out)) hb);have n3_:=Aside0.mk (below_step (by repeat (first|(with_reducible first|exact HB.out|apply qa|apply qn|apply qd|refine qs ?_ GE564.out|refine qs ?_ GE565.out|refine qs ?_ GE567.out)|exact HB.out)) hb);clear BK564;clear BK565;clear BK567;clear HB;have BK564:=n0_;have BK565:=n1_;have BK567:=n2_;have HB:=n3_;clear n0_ n1_ n2_ n3_;(try clear hb);(try clear hb2);(try clear hk);(try clear hi))|((with_reducible refine gate_dst (N:=7) rfl ?_);refine box_event ?hg (N:=7) ?hd (cs:=#[.bool false,.int .u64 0,.int .u64 0,.int .u64 0,.int .u64 0]) (t:=96) ?hr ?_;(case hd=>rfl);(case hg=>rfl);(case hr=>first|(go_simp;done)|(go_simp;rfl));intro gb574 hg w16 hbox hb;have n0_:=bb BK564 hb;have n1_:=bb BK565 hb;have n2_:=bb BK567 hb;have n3_:=Aside0.mk (below_step (by repeat (first|(with_reducible first|exact HB.out|apply qa|apply qn|apply qd|refine qs ?_ GE564.out|refine qs ?_ GE565.out|refine qs ?_ GE567.out)|exact HB.out)) hb);have n4_:=Aside0.mk (hbox);have n5_:=bgw HB hg;have n6_:=bgw HB hg;have n7_:=bnl BK564 hg;have n8_:=bng BK564 hg;have n9_:=bnl BK565 hg;have n10_:=bng BK565 hg;have n11_:=bnl BK567 hg;have n12_:=bng BK567 hg;clear BK564;clear BK565;clear BK567;clear HB;have BK564:=n0_;have BK565:=n1_;have BK567:=n2_;have HB:=n3_;have BK574:=n4_;have GW574:=n5_;have GE574:=n6_;have NB564_574:=n7_;have NB574_564:=n8_;have NB565_574:=n9_;have NB574_565:=n10_;have NB567_574:=n11_;have NB574_567:=n12_;clear n0_ n1_ n2_ n3_ n4_ n5_ n6_ n7_ n8_ n9_ n10_ n11_ n12_;clear hb hbox hg;have hnb17:=NB574_564.out;have hnc17:=NB564_574.out;have hnb18:=NB574_565.out;have hnc18:=NB565_574.out;have hnb19:=NB574_567.out;have hnc19:=NB567_574.out;obtain ⟨hcz20_0,hcz20_1,hcz20_2,hcz20_3,hcz20_4⟩:=cl5 BK574.out;obtain ⟨hfz20_0,hfz20_1,hfz20_2,hfz20_3,hfz20_4⟩:=fr5 BK574.out;obtain ⟨hcz21_0,hcz21_1,hcz21_2,hcz21_3,hcz21_4⟩:=cl5 BK565.out;obtain ⟨hfz21_0,hfz21_1,hfz21_2,hfz21_3,hfz21_4⟩:=fr5 BK565.out))
   go_roundg k1
   case measure=>have:=HK1.out;omega
   case rel=>exact ⟨(wrap64 (x11_1+1)),(x565000_1),(x565001_1),(x565002_1),(x565003_1),(x565004_1),(t568),(t569),(t570),(t571),(t572),(by first|rfl|(simp;done)|(simp [*];done)),H',⟨by have:=HK1.out;omega⟩,⟨by repeat (with_reducible first|exact lb BK564.out|refine blk_far ?_ NB564_565.out _|refine blk_far ?_ NB564_574.out _|refine cn ?_ _|refine cd ?_|refine ca ?_ _)⟩,⟨by (with_reducible repeat (first|refine cn ?_ _|refine cd ?_|refine ca ?_ _));refine blk_put (cs:=#[.bool t568,.int .u64 t569,.int .u64 t570,.int .u64 t571,.int .u64 x566004_1]) ?_ 4 _ rfl;(with_reducible repeat (first|refine cn ?_ _|refine cd ?_|refine ca ?_ _));refine blk_put (cs:=#[.bool t568,.int .u64 t569,.int .u64 t570,.int .u64 x566003_1,.int .u64 x566004_1]) ?_ 3 _ rfl;(with_reducible repeat (first|refine cn ?_ _|refine cd ?_|refine ca ?_ _));refine blk_put (cs:=#[.bool t568,.int .u64 t569,.int .u64 x566002_1,.int .u64 x566003_1,.int .u64 x566004_1]) ?_ 2 _ rfl;(with_reducible repeat (first|refine cn ?_ _|refine cd ?_|refine ca ?_ _));refine blk_put (cs:=#[.bool t568,.int .u64 x566001_1,.int .u64 x566002_1,.int .u64 x566003_1,.int .u64 x566004_1]) ?_ 1 _ rfl;(with_reducible repeat (first|refine cn ?_ _|refine cd ?_|refine ca ?_ _));refine blk_put (cs:=#[.bool x566000_1,.int .u64 x566001_1,.int .u64 x566002_1,.int .u64 x566003_1,.int .u64 x566004_1]) ?_ 0 _ rfl;(with_reducible repeat (first|refine cn ?_ _|refine cd ?_|refine ca ?_ _));refine blk_far ?_ NB565_574.out _;(with_reducible repeat (first|refine cn ?_ _|refine cd ?_|refine ca ?_ _));refine blk_far ?_ NB565_574.out _;(with_reducible repeat (first|refine cn ?_ _|refine cd ?_|refine ca ?_ _));refine blk_far ?_ NB565_574.out _;(with_reducible repeat (first|refine cn ?_ _|refine cd ?_|refine ca ?_ _));refine blk_far ?_ NB565_574.out _;(with_reducible repeat (first|refine cn ?_ _|refine cd ?_|refine ca ?_ _));refine blk_far ?_ NB565_574.out _;(with_reducible repeat (first|refine cn ?_ _|refine cd ?_|refine ca ?_ _));exact BK565.out⟩,⟨by repeat (first|(with_reducible first|exact HB.out|apply qa|apply qn|apply qd|refine qs ?_ GE564.out|refine qs ?_ GE565.out|refine qs ?_ GE567.out|refine qs ?_ GE574.out)|exact HB.out)⟩⟩
end Go.Proofs.YtkgagdjogedoiaaGreat.MT

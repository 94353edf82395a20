/- The document's numbers, printed: each function a Lean function, its contract proved. -/
import Derived.Test.YtkgagdjogedoiaaGreatNMt0
namespace Go.Proofs.YtkgagdjogedoiaaGreat.MT
open Go.RowKit Go.Proofs.YtkgagdjogedoiaaGreatW.PrintWords Go.Proofs.YtkgagdjogedoiaaGreatW.PrintLast Go.Proofs.YtkgagdjogedoiaaGreatW.PrintMore
attribute [local go_sem] max2_int min2_int max_two min_two max_three min_three max_four min_four   -- for this text's walks alone
set_option linter.unusedVariables false
set_option linter.unusedSimpArgs false
/-! ### parquetref01_trim: function 73 -/
def parquetref01_trim.l0:Nat→Bool→List Int→Int→Option (Bool × List Int)
 | 0,_,_,_=>none
 | k+1,x0,x1,x5=>if x5 > 0 then (if 0≤(wrap64 (x5 - 1)) then (if (wrap64 (x5 - 1)) < (x1.length:Int) then (if (rd x1 (wrap64 (x5 - 1)))=0 then (parquetref01_trim.l0 k x0 x1 (wrap64 (x5 - 1))) else (if x0=true then (if 0≤x5 then (if x5≤(x1.length:Int) then (some (true,(x1.take (x5:Int).toNat))) else (none)) else (none)) else (if 0≤x5 then (if x5≤(x1.length:Int) then (some (false,(x1.take (x5:Int).toNat))) else (none)) else (none)))) else (none)) else (none)) else (if x0=true then (if 0≤x5 then (if x5≤(x1.length:Int) then (some (false,(x1.take (x5:Int).toNat))) else (none)) else (none)) else (if 0≤x5 then (if x5≤(x1.length:Int) then (some (false,(x1.take (x5:Int).toNat))) else (none)) else (none)))
def parquetref01_trim.f (k:Nat) (a0:Bool) (l1:List Int):Option (Bool × List Int):=parquetref01_trim.l0 k a0 l1 (l1.length:Int)
theorem parquetref01_trim.mono_l:∀ k,(∀ y0 y1 y2,LeO (parquetref01_trim.l0 k y0 y1 y2) (parquetref01_trim.l0 (k+1) y0 y1 y2))
 | 0=>fun _ _ _ r h=>by simp [parquetref01_trim.l0] at h
 | k+1=>by
  have ih0:=parquetref01_trim.mono_l k
  ·intro y0 y1 y2
   unfold parquetref01_trim.l0
   repeat' first
   | (with_reducible exact ih0 _ _ _)
   | (with_reducible exact LeO.refl _)
   | (with_reducible exact LeO.none _)
   | (with_reducible refine LeO.ite ?_ ?_)
   | (with_reducible refine LeO.bind ?_ (fun _=>?_))
   | exact ih0 _ _ _
   | exact LeO.none _
   | refine LeO.ite ?_ ?_
   | refine LeO.bind ?_ (fun _=>?_)
theorem parquetref01_trim.mono:∀ a0 a1 k,LeO (parquetref01_trim.f k a0 a1) (parquetref01_trim.f (k+1) a0 a1):=by
 intro a0 a1 k
 have ih0:=parquetref01_trim.mono_l k
 unfold parquetref01_trim.f
 repeat' first
   | (with_reducible exact ih0 _ _ _)
   | (with_reducible exact LeO.refl _)
   | (with_reducible exact LeO.none _)
   | (with_reducible refine LeO.ite ?_ ?_)
   | (with_reducible refine LeO.bind ?_ (fun _=>?_))
   | exact ih0 _ _ _
   | exact LeO.none _
   | refine LeO.ite ?_ ?_
   | refine LeO.bind ?_ (fun _=>?_)
set_option maxHeartbeats 8000000 in
set_option maxRecDepth 100000 in
theorem parquetref01_trim.calls (k:Nat) (a0:Bool) (P1_:Nat→Prop) (A1:Option Addr) (c1:Nat) (l1:List Int) (r1:Bool) (r2:List Int) (w:World) (hs1:Kd.V (Kd.int .i64) 3 w w.heap.size (fun k_=>P1_ k_) (.slice A1 l1.length c1) l1) (h:parquetref01_trim.f k a0 l1=some (r1,r2)) :
  Calls Tryz.prog 84 #[.bool a0,.slice A1 l1.length c1] w fun e w'=>∃ v1_:Value,e = .returned (.agg #[.bool r1,v1_])∧Kd.V (Kd.int .i64) 3 w' w.heap.size (fun k_=>(P1_ k_∨w.heap.size≤k_)) v1_ r2∧Below w.heap.size w w':=by
 have hu38:=Tryz.underlying71
 have HO1:=Aside0.mk (show Kd.V (Kd.int .i64) 3 w w.heap.size (fun k_=>(P1_ k_∨w.heap.size≤k_)) (.slice A1 l1.length c1) l1 from Kd.V_mono hs1 (fun k_ hk => .inl hk))
 have HB:=Aside0.mk (Below.refl w.heap.size w)
 have H:(parquetref01_trim.l0 k a0 l1 (l1.length:Int))=some (r1,r2):=h
 clear h
 have H':=Aside0.mk H
 clear H
 go_enter Tryz.func84,Tryz.ntmps84
 go_wp2_with (first|((with_reducible refine gate_dst (N:=4) rfl ?_);refine box_event ?hg (N:=4) ?hd (cs:=#[.bool false,.slice none 0 0]) (t:=71) ?hr ?_;(case hd=>rfl);(case hg=>rfl);(case hr=>first|(go_simp;done)|(go_simp;rfl));intro gb240 hg w3 hbox hb;have n0_:=Aside0.mk (Kd.V_below (Kd.V_elderB (by (with_reducible repeat (first|apply Kd.V_alloc|apply Kd.V_drewN|apply Kd.V_drew));exact HO1.out) gb240 (Nat.le_of_eq hg.symm)) hb);have n1_:=Aside0.mk (below_step (by repeat (first|(with_reducible first|exact HB.out|apply qa|apply qn|apply qd)|exact HB.out)) hb);have n2_:=Aside0.mk (hbox);have n3_:=bgw HB hg;have n4_:=bgw HB hg;clear HO1;clear HB;have HO1:=n0_;have HB:=n1_;have BK240:=n2_;have GW240:=n3_;have GE240:=n4_;clear n0_ n1_ n2_ n3_ n4_;clear hb hbox hg))
 go_loopg [5] k (fun kq v5 w'=>∃ (x5_1:Int),v5 = .int .i64 x5_1∧Aside0 (parquetref01_trim.l0 kq a0 l1 x5_1=some (r1,r2))∧Aside0 (kq≤k)∧Aside0 (Kd.V (Kd.int .i64) 3 w' w.heap.size (fun k_=>(P1_ k_∨w.heap.size≤k_)∧k_≠gb240) (.slice A1 l1.length c1) l1)∧Aside0 (w'.heap[gb240]?=some (.cells #[.bool false,(.slice none 0 0)] 71 (0,0)))∧Aside0 (Below w.heap.size w w'))
 case atStart=>exact ⟨((l1.length:Int)),(by first|rfl|(simp;done)|(simp [*];done)),H',⟨Nat.le_refl _⟩,⟨by (with_reducible repeat (first|apply Kd.V_alloc|apply Kd.V_drewN|apply Kd.V_drew));exact HO1.out⟩,⟨by (with_reducible repeat (first|refine cn ?_ _|refine cd ?_|refine ca ?_ _));exact BK240.out⟩,⟨by repeat (first|(with_reducible first|exact HB.out|apply qa|apply qn|apply qd|refine qs ?_ GE240.out)|exact HB.out)⟩⟩
 case round =>
  clear H'
  try clear c1
  try clear p2
  obtain ⟨x5_1,rfl,HA,HK1,HO_1,BK240,HB⟩:=hrel
  cases gk with
  | zero=>exact absurd HA.out (by simp [parquetref01_trim.l0])
  | succ k1 =>
   have H:=HA.out
   clear HA
   simp only [parquetref01_trim.l0] at H
   by_cases c4:x5_1 > 0
   rotate_left
   ·rw [if_neg c4] at H
    have c4b0:decide (0 < x5_1)=false:=decide_eq_false c4
    clear c4
    by_cases c18:a0=true
    ·subst c18
     have H1:(if 0≤x5_1 then (if x5_1≤(l1.length:Int) then (some (false,(l1.take (x5_1:Int).toNat))) else (none)) else (none))=some (r1,r2):=by rw [if_pos rfl] at H;exact H
     clear H
     have H:=H1
     clear H1
     by_cases c19:0≤x5_1
     rotate_left
     ·rw [if_neg c19] at H
      exact absurd H (by simp)
     rw [if_pos c19] at H
     have c19b0:=eq_true c19
     have c19b1:decide (0≤x5_1)=true:=decide_eq_true c19
     clear c19
     by_cases c20:x5_1≤(l1.length:Int)
     rotate_left
     ·rw [if_neg c20] at H
      exact absurd H (by simp)
     rw [if_pos c20] at H
     have c20b0:=eq_true c20
     have c20b1:decide (x5_1≤(l1.length:Int))=true:=decide_eq_true c20
     clear c20
     obtain ⟨y252,hy252⟩:∃ y_:List Int,y_=(l1.take (x5_1:Int).toNat):=⟨_,rfl⟩
     replace H:(some (false,y252))=some (r1,r2):=by first|(rw [hy252];with_reducible exact H)|(have H2_:=(Option.bind_some _ _).symm.trans H;rw [hy252];with_reducible exact H2_)|(have H2_:=(Option.bind_some _ _).symm.trans H;with_reducible exact H2_)|with_reducible exact H|(rw [hy252];exact H)|exact H
     have Ny252:=Aside0.mk hy252
     clear hy252
     simp only [Option.some.injEq,Prod.mk.injEq] at H
     obtain ⟨rfl,rfl⟩:=H
     have q21:(x5_1:Int)≤((l1.length:Int):Int):=of_decide_eq_true (by first|(with_reducible assumption)|assumption)
     obtain ⟨i021,hi021,_,hsz21,_⟩:=info_parts info3
     have hroom21:l1.length≤c1:=(Kd.V_reads' HO_1.out).2.1
     have hC21:Kd.F (Kd.int .i64) _ _ A1 l1.length l1:=(Kd.V_at (base:=w.heap.size) HO_1.out).2.2
     have hcut21:=cut_to (P:=Tryz.prog) 34 3 .i64 Tryz.underlying34 hi021 A1 l1.length c1 x5_1 (of_decide_eq_true (by first|(with_reducible assumption)|assumption)) q21 hroom21
     have hr21:=Kd.F_take (m:=(x5_1:Int).toNat) hC21 (by omega)
     have hy21:y252.length=(x5_1:Int).toNat:=(by rw [Ny252.out,List.length_take];omega)
     rw [← Ny252.out] at hr21
     rw [← hy21] at hcut21
     have HO256:=Aside0.mk (show Kd.V (Kd.int .i64) 3 _ w.heap.size _ (.slice A1 y252.length c1) y252 from Kd.V_mk (by omega) hr21)
     have HC256:=Aside0.mk (show y252.length≤c1 from by omega)
     clear hr21 hC21 hroom21 hi021 hsz21
     have KY21:=Aside0.mk hy21
     clear hy21
     replace q21:=eq_true q21
     obtain ⟨hcz22_0,hcz22_1⟩:=cl2 BK240.out
     obtain ⟨hfz22_0,hfz22_1⟩:=fr2 BK240.out
     go_wp2
     refine bodyPost_ret (results_cell_row rfl _ _ gb240 71 #[.bool false,.slice A1 y252.length c1] (0,0) _ rfl (by (with_reducible repeat (first|refine cn ?_ _|refine cd ?_|refine ca ?_ _));refine blk_put (cs:=#[.bool false,.slice none 0 0]) ?_ 1 _ rfl;(with_reducible repeat (first|refine cn ?_ _|refine cd ?_|refine ca ?_ _));refine blk_put (cs:=#[.bool false,.slice none 0 0]) ?_ 0 _ rfl;(with_reducible repeat (first|refine cn ?_ _|refine cd ?_|refine ca ?_ _));exact BK240.out) Tryz.underlying71 rfl (by kernel_rfl)) rfl ?_
     exact ⟨_,by first|rfl|(simp [errW_none,errW_some]<;>rfl)|(simp [*,errW_none,errW_some]<;>rfl),by (with_reducible repeat (first|apply Kd.V_alloc|apply Kd.V_drewN|apply Kd.V_drew));exact Kd.V_mono (Kd.V_far (p:=⟨gb240,1,none⟩) (Kd.V_far (p:=⟨gb240,0,none⟩) (Kd.V_mono HO256.out (fun k_ hk=>(⟨hk,hk.2⟩:_∧k_≠gb240))) (fun _ hk=>hk.2) (.bool false)) (fun _ hk=>hk.2) (.slice A1 y252.length c1)) (fun _ hk=>hk.1.1),by repeat (first|(with_reducible first|exact HB.out|apply qa|apply qn|apply qd|refine qs ?_ GE240.out)|exact HB.out)⟩
    replace c18:=Bool.eq_false_iff.mpr c18
    subst c18
    have H1:(if 0≤x5_1 then (if x5_1≤(l1.length:Int) then (some (false,(l1.take (x5_1:Int).toNat))) else (none)) else (none))=some (r1,r2):=by rw [if_neg (show ¬ (false=true) by decide)] at H;exact H
    clear H
    have H:=H1
    clear H1
    by_cases c23:0≤x5_1
    rotate_left
    ·rw [if_neg c23] at H
     exact absurd H (by simp)
    rw [if_pos c23] at H
    have c23b0:=eq_true c23
    have c23b1:decide (0≤x5_1)=true:=decide_eq_true c23
    clear c23
    by_cases c24:x5_1≤(l1.length:Int)
    rotate_left
    ·rw [if_neg c24] at H
     exact absurd H (by simp)
    rw [if_pos c24] at H
    have c24b0:=eq_true c24
    have c24b1:decide (x5_1≤(l1.length:Int))=true:=decide_eq_true c24
    clear c24
    obtain ⟨y257,hy257⟩:∃ y_:List Int,y_=(l1.take (x5_1:Int).toNat):=⟨_,rfl⟩
    replace H:(some (false,y257))=some (r1,r2):=by first|(rw [hy257];with_reducible exact H)|(have H2_:=(Option.bind_some _ _).symm.trans H;rw [hy257];with_reducible exact H2_)|(have H2_:=(Option.bind_some _ _).symm.trans H;with_reducible exact H2_)|with_reducible exact H|(rw [hy257];exact H)|exact H
    have Ny257:=Aside0.mk hy257
    clear hy257
    simp only [Option.some.injEq,Prod.mk.injEq] at H
    obtain ⟨rfl,rfl⟩:=H
    have q25:(x5_1:Int)≤((l1.length:Int):Int):=of_decide_eq_true (by first|(with_reducible assumption)|assumption)
    obtain ⟨i025,hi025,_,hsz25,_⟩:=info_parts info3
    have hroom25:l1.length≤c1:=(Kd.V_reads' HO_1.out).2.1
    have hC25:Kd.F (Kd.int .i64) _ _ A1 l1.length l1:=(Kd.V_at (base:=w.heap.size) HO_1.out).2.2
    have hcut25:=cut_to (P:=Tryz.prog) 34 3 .i64 Tryz.underlying34 hi025 A1 l1.length c1 x5_1 (of_decide_eq_true (by first|(with_reducible assumption)|assumption)) q25 hroom25
    have hr25:=Kd.F_take (m:=(x5_1:Int).toNat) hC25 (by omega)
    have hy25:y257.length=(x5_1:Int).toNat:=(by rw [Ny257.out,List.length_take];omega)
    rw [← Ny257.out] at hr25
    rw [← hy25] at hcut25
    have HO261:=Aside0.mk (show Kd.V (Kd.int .i64) 3 _ w.heap.size _ (.slice A1 y257.length c1) y257 from Kd.V_mk (by omega) hr25)
    have HC261:=Aside0.mk (show y257.length≤c1 from by omega)
    clear hr25 hC25 hroom25 hi025 hsz25
    have KY25:=Aside0.mk hy25
    clear hy25
    replace q25:=eq_true q25
    obtain ⟨hcz26_0,hcz26_1⟩:=cl2 BK240.out
    obtain ⟨hfz26_0,hfz26_1⟩:=fr2 BK240.out
    go_wp2
    refine bodyPost_ret (results_cell_row rfl _ _ gb240 71 #[.bool false,.slice A1 y257.length c1] (0,0) _ rfl (by (with_reducible repeat (first|refine cn ?_ _|refine cd ?_|refine ca ?_ _));refine blk_put (cs:=#[.bool false,.slice none 0 0]) ?_ 1 _ rfl;(with_reducible repeat (first|refine cn ?_ _|refine cd ?_|refine ca ?_ _));refine blk_put (cs:=#[.bool false,.slice none 0 0]) ?_ 0 _ rfl;(with_reducible repeat (first|refine cn ?_ _|refine cd ?_|refine ca ?_ _));exact BK240.out) Tryz.underlying71 rfl (by kernel_rfl)) rfl ?_
    exact ⟨_,by first|rfl|(simp [errW_none,errW_some]<;>rfl)|(simp [*,errW_none,errW_some]<;>rfl),by (with_reducible repeat (first|apply Kd.V_alloc|apply Kd.V_drewN|apply Kd.V_drew));exact Kd.V_mono (Kd.V_far (p:=⟨gb240,1,none⟩) (Kd.V_far (p:=⟨gb240,0,none⟩) (Kd.V_mono HO261.out (fun k_ hk=>(⟨hk,hk.2⟩:_∧k_≠gb240))) (fun _ hk=>hk.2) (.bool false)) (fun _ hk=>hk.2) (.slice A1 y257.length c1)) (fun _ hk=>hk.1.1),by repeat (first|(with_reducible first|exact HB.out|apply qa|apply qn|apply qd|refine qs ?_ GE240.out)|exact HB.out)⟩
   rw [if_pos c4] at H
   have c4b0:decide (0 < x5_1)=true:=decide_eq_true c4
   clear c4
   obtain ⟨ji5,hji5⟩:∃ j_:Int,(wrap64 (x5_1 - 1))=j_:=⟨_,rfl⟩
   replace H:(if 0≤(ji5) then (if (ji5) < (l1.length:Int) then (if (rd l1 (ji5))=0 then (parquetref01_trim.l0 k1 a0 l1 ji5) else (if a0=true then (if 0≤x5_1 then (if x5_1≤(l1.length:Int) then (some (true,(l1.take (x5_1:Int).toNat))) else (none)) else (none)) else (if 0≤x5_1 then (if x5_1≤(l1.length:Int) then (some (false,(l1.take (x5_1:Int).toNat))) else (none)) else (none)))) else (none)) else (none))=some (r1,r2):=by first|(rw [hji5] at H;exact H)|(simp only [hji5] at H ⊢;exact H)
   have hji5w:(IntKind.i64.wrap (x5_1 - 1))=ji5:=(i64_w _).trans hji5
   by_cases c6:0≤(ji5)
   rotate_left
   ·rw [if_neg c6] at H
    exact absurd H (by simp)
   rw [if_pos c6] at H
   have c6b0:decide (0≤(ji5))=true:=decide_eq_true c6
   clear c6
   by_cases c7:(ji5) < (l1.length:Int)
   rotate_left
   ·rw [if_neg c7] at H
    exact absurd H (by simp)
   rw [if_pos c7] at H
   have c7b0:decide ((ji5) < (l1.length:Int))=true:=decide_eq_true c7
   clear c7
   by_cases c8:(rd l1 (ji5))=0
   ·rw [if_pos c8] at H
    have c8b0:((rd l1 (ji5))==0)=true:=beq_iff_eq.mpr c8
    have c8b1:((rd l1 (ji5)) != 0)=false:=bne_eq_false_iff_eq.mpr c8
    clear c8
    have H':=Aside0.mk H
    clear H
    have p241:0≤((ji5):Int):=of_decide_eq_true (by first|(with_reducible assumption)|assumption)
    have q241:(ji5) < (l1.length:Int):=of_decide_eq_true (by first|(with_reducible assumption)|assumption)
    obtain ⟨ad241,e241,hx241_0⟩:=Kd.at_int (Kd.V_reads' HO_1.out).2.2 (ji5) p241 q241
    cases e241
    replace p241:=eq_true p241
    replace q241:=eq_true q241
    go_wp2
    go_roundg k1
    case measure=>have:=HK1.out;omega
    case rel=>exact ⟨(ji5),(by first|rfl|(simp;done)|(simp only [← hji5]<;>(first|rfl|simp))|(simp [*];done)),H',⟨by have:=HK1.out;omega⟩,⟨by (with_reducible repeat (first|apply Kd.V_alloc|apply Kd.V_drewN|apply Kd.V_drew));exact HO_1.out⟩,⟨by (with_reducible repeat (first|refine cn ?_ _|refine cd ?_|refine ca ?_ _));exact BK240.out⟩,⟨by repeat (first|(with_reducible first|exact HB.out|apply qa|apply qn|apply qd|refine qs ?_ GE240.out)|exact HB.out)⟩⟩
   rw [if_neg c8] at H
   have c8b0:((rd l1 (ji5))==0)=false:=beq_eq_false_iff_ne.mpr c8
   have c8b1:((rd l1 (ji5)) != 0)=true:=bne_iff_ne.mpr c8
   by_cases c9:a0=true
   ·subst c9
    have H1:(if 0≤x5_1 then (if x5_1≤(l1.length:Int) then (some (true,(l1.take (x5_1:Int).toNat))) else (none)) else (none))=some (r1,r2):=by rw [if_pos rfl] at H;exact H
    clear H
    have H:=H1
    clear H1
    by_cases c10:0≤x5_1
    rotate_left
    ·rw [if_neg c10] at H
     exact absurd H (by simp)
    rw [if_pos c10] at H
    have c10b0:=eq_true c10
    have c10b1:decide (0≤x5_1)=true:=decide_eq_true c10
    clear c10
    by_cases c11:x5_1≤(l1.length:Int)
    rotate_left
    ·rw [if_neg c11] at H
     exact absurd H (by simp)
    rw [if_pos c11] at H
    have c11b0:=eq_true c11
    have c11b1:decide (x5_1≤(l1.length:Int))=true:=decide_eq_true c11
    clear c11
    obtain ⟨y242,hy242⟩:∃ y_:List Int,y_=(l1.take (x5_1:Int).toNat):=⟨_,rfl⟩
    replace H:(some (true,y242))=some (r1,r2):=by first|(rw [hy242];with_reducible exact H)|(have H2_:=(Option.bind_some _ _).symm.trans H;rw [hy242];with_reducible exact H2_)|(have H2_:=(Option.bind_some _ _).symm.trans H;with_reducible exact H2_)|with_reducible exact H|(rw [hy242];exact H)|exact H
    have Ny242:=Aside0.mk hy242
    clear hy242
    simp only [Option.some.injEq,Prod.mk.injEq] at H
    obtain ⟨rfl,rfl⟩:=H
    have p241:0≤((ji5):Int):=of_decide_eq_true (by first|(with_reducible assumption)|assumption)
    have q241:(ji5) < (l1.length:Int):=of_decide_eq_true (by first|(with_reducible assumption)|assumption)
    obtain ⟨ad241,e241,hx241_0⟩:=Kd.at_int (Kd.V_reads' HO_1.out).2.2 (ji5) p241 q241
    cases e241
    replace p241:=eq_true p241
    replace q241:=eq_true q241
    have q12:(x5_1:Int)≤((l1.length:Int):Int):=of_decide_eq_true (by first|(with_reducible assumption)|assumption)
    obtain ⟨i012,hi012,_,hsz12,_⟩:=info_parts info3
    have hroom12:l1.length≤c1:=(Kd.V_reads' HO_1.out).2.1
    have hC12:Kd.F (Kd.int .i64) _ _ (some ad241) l1.length l1:=(Kd.V_at (base:=w.heap.size) HO_1.out).2.2
    have hcut12:=cut_to (P:=Tryz.prog) 34 3 .i64 Tryz.underlying34 hi012 (some ad241) l1.length c1 x5_1 (of_decide_eq_true (by first|(with_reducible assumption)|assumption)) q12 hroom12
    have hr12:=Kd.F_take (m:=(x5_1:Int).toNat) hC12 (by omega)
    have hy12:y242.length=(x5_1:Int).toNat:=(by rw [Ny242.out,List.length_take];omega)
    rw [← Ny242.out] at hr12
    rw [← hy12] at hcut12
    have HO246:=Aside0.mk (show Kd.V (Kd.int .i64) 3 _ w.heap.size _ (.slice (some ad241) y242.length c1) y242 from Kd.V_mk (by omega) hr12)
    have HC246:=Aside0.mk (show y242.length≤c1 from by omega)
    clear hr12 hC12 hroom12 hi012 hsz12
    have KY12:=Aside0.mk hy12
    clear hy12
    replace q12:=eq_true q12
    obtain ⟨hcz13_0,hcz13_1⟩:=cl2 BK240.out
    obtain ⟨hfz13_0,hfz13_1⟩:=fr2 BK240.out
    go_wp2
    refine bodyPost_ret (results_cell_row rfl _ _ gb240 71 #[.bool true,.slice (some ad241) y242.length c1] (0,0) _ rfl (by (with_reducible repeat (first|refine cn ?_ _|refine cd ?_|refine ca ?_ _));refine blk_put (cs:=#[.bool true,.slice none 0 0]) ?_ 1 _ rfl;(with_reducible repeat (first|refine cn ?_ _|refine cd ?_|refine ca ?_ _));refine blk_put (cs:=#[.bool false,.slice none 0 0]) ?_ 0 _ rfl;(with_reducible repeat (first|refine cn ?_ _|refine cd ?_|refine ca ?_ _));exact BK240.out) Tryz.underlying71 rfl (by kernel_rfl)) rfl ?_
    exact ⟨_,by first|rfl|(simp [errW_none,errW_some]<;>rfl)|(simp only [← hji5];first|rfl|(simp [errW_none,errW_some]<;>rfl))|(simp [*,errW_none,errW_some]<;>rfl),by (with_reducible repeat (first|apply Kd.V_alloc|apply Kd.V_drewN|apply Kd.V_drew));exact Kd.V_mono (Kd.V_far (p:=⟨gb240,1,none⟩) (Kd.V_far (p:=⟨gb240,0,none⟩) (Kd.V_mono HO246.out (fun k_ hk=>(⟨hk,hk.2⟩:_∧k_≠gb240))) (fun _ hk=>hk.2) (.bool true)) (fun _ hk=>hk.2) (.slice (some ad241) y242.length c1)) (fun _ hk=>hk.1.1),by repeat (first|(with_reducible first|exact HB.out|apply qa|apply qn|apply qd|refine qs ?_ GE240.out)|exact HB.out)⟩
   replace c9:=Bool.eq_false_iff.mpr c9
   subst c9
   have H1:(if 0≤x5_1 then (if x5_1≤(l1.length:Int) then (some (false,(l1.take (x5_1:Int).toNat))) else (none)) else (none))=some (r1,r2):=by rw [if_neg (show ¬ (false=true) by decide)] at H;exact H
   clear H
   have H:=H1
   clear H1
   by_cases c14:0≤x5_1
   rotate_left
   ·rw [if_neg c14] at H
    exact absurd H (by simp)
   rw [if_pos c14] at H
   have c14b0:=eq_true c14
   have c14b1:decide (0≤x5_1)=true:=decide_eq_true c14
   clear c14
   by_cases c15:x5_1≤(l1.length:Int)
   rotate_left
   ·rw [if_neg c15] at H
    exact absurd H (by simp)
   rw [if_pos c15] at H
   have c15b0:=eq_true c15
   have c15b1:decide (x5_1≤(l1.length:Int))=true:=decide_eq_true c15
   clear c15
   obtain ⟨y247,hy247⟩:∃ y_:List Int,y_=(l1.take (x5_1:Int).toNat):=⟨_,rfl⟩
   replace H:(some (false,y247))=some (r1,r2):=by first|(rw [hy247];with_reducible exact H)|(have H2_:=(Option.bind_some _ _).symm.trans H;rw [hy247];with_reducible exact H2_)|(have H2_:=(Option.bind_some _ _).symm.trans H;with_reducible exact H2_)|with_reducible exact H|(rw [hy247];exact H)|exact H
   have Ny247:=Aside0.mk hy247
   clear hy247
   simp only [Option.some.injEq,Prod.mk.injEq] at H
   obtain ⟨rfl,rfl⟩:=H
   have p241:0≤((ji5):Int):=of_decide_eq_true (by first|(with_reducible assumption)|assumption)
   have q241:(ji5) < (l1.length:Int):=of_decide_eq_true (by first|(with_reducible assumption)|assumption)
   obtain ⟨ad241,e241,hx241_0⟩:=Kd.at_int (Kd.V_reads' HO_1.out).2.2 (ji5) p241 q241
   cases e241
   replace p241:=eq_true p241
   replace q241:=eq_true q241
   have q16:(x5_1:Int)≤((l1.length:Int):Int):=of_decide_eq_true (by first|(with_reducible assumption)|assumption)
   obtain ⟨i016,hi016,_,hsz16,_⟩:=info_parts info3
   have hroom16:l1.length≤c1:=(Kd.V_reads' HO_1.out).2.1
   have hC16:Kd.F (Kd.int .i64) _ _ (some ad241) l1.length l1:=(Kd.V_at (base:=w.heap.size) HO_1.out).2.2
   have hcut16:=cut_to (P:=Tryz.prog) 34 3 .i64 Tryz.underlying34 hi016 (some ad241) l1.length c1 x5_1 (of_decide_eq_true (by first|(with_reducible assumption)|assumption)) q16 hroom16
   have hr16:=Kd.F_take (m:=(x5_1:Int).toNat) hC16 (by omega)
   have hy16:y247.length=(x5_1:Int).toNat:=(by rw [Ny247.out,List.length_take];omega)
   rw [← Ny247.out] at hr16
   rw [← hy16] at hcut16
   have HO251:=Aside0.mk (show Kd.V (Kd.int .i64) 3 _ w.heap.size _ (.slice (some ad241) y247.length c1) y247 from Kd.V_mk (by omega) hr16)
   have HC251:=Aside0.mk (show y247.length≤c1 from by omega)
   clear hr16 hC16 hroom16 hi016 hsz16
   have KY16:=Aside0.mk hy16
   clear hy16
   replace q16:=eq_true q16
   obtain ⟨hcz17_0,hcz17_1⟩:=cl2 BK240.out
   obtain ⟨hfz17_0,hfz17_1⟩:=fr2 BK240.out
   go_wp2
   refine bodyPost_ret (results_cell_row rfl _ _ gb240 71 #[.bool false,.slice (some ad241) y247.length c1] (0,0) _ rfl (by (with_reducible repeat (first|refine cn ?_ _|refine cd ?_|refine ca ?_ _));refine blk_put (cs:=#[.bool false,.slice none 0 0]) ?_ 1 _ rfl;(with_reducible repeat (first|refine cn ?_ _|refine cd ?_|refine ca ?_ _));refine blk_put (cs:=#[.bool false,.slice none 0 0]) ?_ 0 _ rfl;(with_reducible repeat (first|refine cn ?_ _|refine cd ?_|refine ca ?_ _));exact BK240.out) Tryz.underlying71 rfl (by kernel_rfl)) rfl ?_
   exact ⟨_,by first|rfl|(simp [errW_none,errW_some]<;>rfl)|(simp only [← hji5];first|rfl|(simp [errW_none,errW_some]<;>rfl))|(simp [*,errW_none,errW_some]<;>rfl),by (with_reducible repeat (first|apply Kd.V_alloc|apply Kd.V_drewN|apply Kd.V_drew));exact Kd.V_mono (Kd.V_far (p:=⟨gb240,1,none⟩) (Kd.V_far (p:=⟨gb240,0,none⟩) (Kd.V_mono HO251.out (fun k_ hk=>(⟨hk,hk.2⟩:_∧k_≠gb240))) (fun _ hk=>hk.2) (.bool false)) (fun _ hk=>hk.2) (.slice (some ad241) y247.length c1)) (fun _ hk=>hk.1.1),by repeat (first|(with_reducible first|exact HB.out|apply qa|apply qn|apply qd|refine qs ?_ GE240.out)|exact HB.out)⟩
end Go.Proofs.YtkgagdjogedoiaaGreat.MT
namespace Go.Proofs.YtkgagdjogedoiaaGreat.MT
open Go.RowKit Go.Proofs.YtkgagdjogedoiaaGreatW.PrintWords Go.Proofs.YtkgagdjogedoiaaGreatW.PrintLast Go.Proofs.YtkgagdjogedoiaaGreatW.PrintMore
attribute [local go_sem] max2_int min2_int max_two min_two max_three min_three max_four min_four   -- for this text's walks alone
set_option linter.unusedVariables false
set_option linter.unusedSimpArgs false
/-! ### parquetref01_Num_Sign: function 25 -/
def parquetref01_Num_Sign.f (a0_0:Bool) (l0_1:List Int):Option (Int):=if (l0_1.length:Int)=0 then (some 0) else (if a0_0=true then (some (-1)) else (some 1))
set_option maxHeartbeats 8000000 in
set_option maxRecDepth 100000 in
theorem parquetref01_Num_Sign.calls (a0_0:Bool) (A0_1:Option Addr) (c0_1:Nat) (l0_1:List Int) (r:Int) (w:World) (hr0_1:Kd.C (Kd.int .i64) w A0_1 l0_1.length l0_1) (hc0_1:l0_1.length≤c0_1) (h:parquetref01_Num_Sign.f a0_0 l0_1=some r) :
  Calls Tryz.prog 70 #[.agg #[.bool a0_0,.slice A0_1 l0_1.length c0_1]] w fun e w'=>e = .returned (.int .i64 r)∧Below w.heap.size w w':=by
 have hu38:=Tryz.underlying71
 have HR0_1:=Aside0.mk hr0_1
 have HC0_1:=Aside0.mk hc0_1
 clear hr0_1 hc0_1
 have HB:=Aside0.mk (Below.refl w.heap.size w)
 have H:(if (l0_1.length:Int)=0 then (some 0) else (if a0_0=true then (some (-1)) else (some 1)))=some r:=h
 clear h
 by_cases c2:(l0_1.length:Int)=0
 ·rw [if_pos c2] at H
  have c2b0:((l0_1.length:Int)==0)=true:=beq_iff_eq.mpr c2
  have c2b1:((l0_1.length:Int) != 0)=false:=bne_eq_false_iff_eq.mpr c2
  clear c2
  obtain rfl:=Option.some.inj H
  go_enter Tryz.func70,Tryz.ntmps70
  go_wp2_with (first|((with_reducible refine gate_dst (N:=1) rfl ?_);refine box_event ?hg (N:=1) ?hd (cs:=#[.bool a0_0,.slice A0_1 l0_1.length c0_1]) (t:=71) ?hr ?_;(case hd=>rfl);(case hg=>rfl);(case hr=>first|(go_simp;done)|(go_simp;rfl));intro gb271 hg w3 hbox hb;have n0_:=Aside0.mk (below_step (by repeat (first|(with_reducible first|exact HB.out|apply qa|apply qn|apply qd)|exact HB.out)) hb);have n1_:=Aside0.mk (hbox);have n2_:=bgw HB hg;have n3_:=bgw HB hg;clear HB;have HB:=n0_;have BK271:=n1_;have GW271:=n2_;have GE271:=n3_;clear n0_ n1_ n2_ n3_;clear hb hbox hg;obtain ⟨hcz4_0,hcz4_1⟩:=cl2 BK271.out;obtain ⟨hfz4_0,hfz4_1⟩:=fr2 BK271.out))
  go_ret
  exact ⟨by first|rfl|(simp [errW_none,errW_some]<;>rfl)|(simp [*,errW_none,errW_some]<;>rfl),by repeat (first|(with_reducible first|exact HB.out|apply qa|apply qn|apply qd|refine qs ?_ GE271.out)|exact HB.out)⟩
 rw [if_neg c2] at H
 have c2b0:((l0_1.length:Int)==0)=false:=beq_eq_false_iff_ne.mpr c2
 have c2b1:((l0_1.length:Int) != 0)=true:=bne_iff_ne.mpr c2
 have c2b2:¬ (l0_1=[]):=fun h_=>c2 (by rw [h_];rfl)
 by_cases c5:a0_0=true
 ·subst c5
  have H1:(some (-1))=some r:=by rw [if_pos rfl] at H;exact H
  clear H
  have H:=H1
  clear H1
  obtain rfl:=Option.some.inj H
  go_enter Tryz.func70,Tryz.ntmps70
  go_wp2_with (first|((with_reducible refine gate_dst (N:=1) rfl ?_);refine box_event ?hg (N:=1) ?hd (cs:=#[.bool true,.slice A0_1 l0_1.length c0_1]) (t:=71) ?hr ?_;(case hd=>rfl);(case hg=>rfl);(case hr=>first|(go_simp;done)|(go_simp;rfl));intro gb271 hg w6 hbox hb;have n0_:=Aside0.mk (below_step (by repeat (first|(with_reducible first|exact HB.out|apply qa|apply qn|apply qd)|exact HB.out)) hb);have n1_:=Aside0.mk (hbox);have n2_:=bgw HB hg;have n3_:=bgw HB hg;clear HB;have HB:=n0_;have BK271:=n1_;have GW271:=n2_;have GE271:=n3_;clear n0_ n1_ n2_ n3_;clear hb hbox hg;obtain ⟨hcz7_0,hcz7_1⟩:=cl2 BK271.out;obtain ⟨hfz7_0,hfz7_1⟩:=fr2 BK271.out))
  go_ret
  exact ⟨by first|rfl|(simp [errW_none,errW_some]<;>rfl)|(simp [*,errW_none,errW_some]<;>rfl),by repeat (first|(with_reducible first|exact HB.out|apply qa|apply qn|apply qd|refine qs ?_ GE271.out)|exact HB.out)⟩
 replace c5:=Bool.eq_false_iff.mpr c5
 subst c5
 have H1:(some 1)=some r:=by rw [if_neg (show ¬ (false=true) by decide)] at H;exact H
 clear H
 have H:=H1
 clear H1
 obtain rfl:=Option.some.inj H
 go_enter Tryz.func70,Tryz.ntmps70
 go_wp2_with (first|((with_reducible refine gate_dst (N:=1) rfl ?_);refine box_event ?hg (N:=1) ?hd (cs:=#[.bool false,.slice A0_1 l0_1.length c0_1]) (t:=71) ?hr ?_;(case hd=>rfl);(case hg=>rfl);(case hr=>first|(go_simp;done)|(go_simp;rfl));intro gb271 hg w8 hbox hb;have n0_:=Aside0.mk (below_step (by repeat (first|(with_reducible first|exact HB.out|apply qa|apply qn|apply qd)|exact HB.out)) hb);have n1_:=Aside0.mk (hbox);have n2_:=bgw HB hg;have n3_:=bgw HB hg;clear HB;have HB:=n0_;have BK271:=n1_;have GW271:=n2_;have GE271:=n3_;clear n0_ n1_ n2_ n3_;clear hb hbox hg;obtain ⟨hcz9_0,hcz9_1⟩:=cl2 BK271.out;obtain ⟨hfz9_0,hfz9_1⟩:=fr2 BK271.out))
 go_ret
 exact ⟨by first|rfl|(simp [errW_none,errW_some]<;>rfl)|(simp [*,errW_none,errW_some]<;>rfl),by repeat (first|(with_reducible first|exact HB.out|apply qa|apply qn|apply qd|refine qs ?_ GE271.out)|exact HB.out)⟩
end Go.Proofs.YtkgagdjogedoiaaGreat.MT
namespace Go.Proofs.YtkgagdjogedoiaaGreat.MT
open Go.RowKit Go.Proofs.YtkgagdjogedoiaaGreatW.PrintWords Go.Proofs.YtkgagdjogedoiaaGreatW.PrintLast Go.Proofs.YtkgagdjogedoiaaGreatW.PrintMore
attribute [local go_sem] max2_int min2_int max_two min_two max_three min_three max_four min_four   -- for this text's walks alone
set_option linter.unusedVariables false
set_option linter.unusedSimpArgs false
/-! ### parquetref01_Small: function 26 -/
def parquetref01_Small.l0:Nat→Int→List Int→Int→Option (Bool × List Int)
 | 0,_,_,_=>none
 | k+1,x0,x3,x4=>if x4=0 then ((parquetref01_trim.f k (decide (x0 < 0)) x3).bind fun bt273=>(some (bt273.1,bt273.2))) else (if (Int.tmod x4 65536) < 0 then (if x3.length < 17592186044416 then (parquetref01_Small.l0 k x0 (x3++[wrap64 (-(Int.tmod x4 65536))]) (wrap64 (Int.tdiv x4 65536))) else (none)) else (if x3.length < 17592186044416 then (parquetref01_Small.l0 k x0 (x3++[Int.tmod x4 65536]) (wrap64 (Int.tdiv x4 65536))) else (none)))
def parquetref01_Small.f (k:Nat) (a0:Int):Option (Bool × List Int):=parquetref01_Small.l0 k a0 ([]:List Int) a0
theorem parquetref01_Small.mono_l:∀ k,(∀ y0 y1 y2,LeO (parquetref01_Small.l0 k y0 y1 y2) (parquetref01_Small.l0 (k+1) y0 y1 y2))
 | 0=>fun _ _ _ r h=>by simp [parquetref01_Small.l0] at h
 | k+1=>by
  have ih0:=parquetref01_Small.mono_l k
  ·intro y0 y1 y2
   unfold parquetref01_Small.l0
   repeat' first
   | (with_reducible exact ih0 _ _ _)
   | (with_reducible exact parquetref01_trim.mono _ _ _)
   | (with_reducible exact LeO.refl _)
   | (with_reducible exact LeO.none _)
   | (with_reducible refine LeO.ite ?_ ?_)
   | (with_reducible refine LeO.bind ?_ (fun _=>?_))
   | exact ih0 _ _ _
   | exact parquetref01_trim.mono _ _ _
   | exact LeO.none _
   | refine LeO.ite ?_ ?_
   | refine LeO.bind ?_ (fun _=>?_)
theorem parquetref01_Small.mono:∀ a0 k,LeO (parquetref01_Small.f k a0) (parquetref01_Small.f (k+1) a0):=by
 intro a0 k
 have ih0:=parquetref01_Small.mono_l k
 unfold parquetref01_Small.f
 repeat' first
   | (with_reducible exact ih0 _ _ _)
   | (with_reducible exact parquetref01_trim.mono _ _ _)
   | (with_reducible exact LeO.refl _)
   | (with_reducible exact LeO.none _)
   | (with_reducible refine LeO.ite ?_ ?_)
   | (with_reducible refine LeO.bind ?_ (fun _=>?_))
   | exact ih0 _ _ _
   | exact parquetref01_trim.mono _ _ _
   | exact LeO.none _
   | refine LeO.ite ?_ ?_
   | refine LeO.bind ?_ (fun _=>?_)
set_option maxHeartbeats 8000000 in
set_option maxRecDepth 100000 in
theorem parquetref01_Small.calls (k:Nat) (a0:Int) (r1:Bool) (r2:List Int) (w:World) (h:parquetref01_Small.f k a0=some (r1,r2)) :
  Calls Tryz.prog 99 #[.int .i64 a0] w fun e w'=>∃ v1_:Value,e = .returned (.agg #[.bool r1,v1_])∧Kd.V (Kd.int .i64) 3 w' w.heap.size (fun k_=>(w.heap.size≤k_)) v1_ r2∧Below w.heap.size w w':=by
 have hu38:=Tryz.underlying71
 have HB:=Aside0.mk (Below.refl w.heap.size w)
 have H:(parquetref01_Small.l0 k a0 ([]:List Int) a0)=some (r1,r2):=h
 clear h
 have H':=Aside0.mk H
 clear H
 go_enter Tryz.func99,Tryz.ntmps99
 go_wp2_with (first|((with_reducible refine gate_dst (N:=2) rfl ?_);refine box_event ?hg (N:=2) ?hd (cs:=#[.bool false,.slice none 0 0]) (t:=71) ?hr ?_;(case hd=>rfl);(case hg=>rfl);(case hr=>first|(go_simp;done)|(go_simp;rfl));intro gb272 hg w2 hbox hb;have n0_:=Aside0.mk (below_step (by repeat (first|(with_reducible first|exact HB.out|apply qa|apply qn|apply qd)|exact HB.out)) hb);have n1_:=Aside0.mk (hbox);have n2_:=bgw HB hg;have n3_:=bgw HB hg;clear HB;have HB:=n0_;have BK272:=n1_;have GW272:=n2_;have GE272:=n3_;clear n0_ n1_ n2_ n3_;clear hb hbox hg))
 go_loopg [3,4] k (fun kq v3 v4 w'=>∃ (x3_1:List Int) (x4_1:Int),v4 = .int .i64 x4_1∧Aside0 (parquetref01_Small.l0 kq a0 x3_1 x4_1=some (r1,r2))∧Aside0 (kq≤k)∧Aside0 (Kd.R (Kd.int .i64) 3 w' w.heap.size (fun k_=>(w.heap.size≤k_)) v3 x3_1)∧Aside0 (w'.heap[gb272]?=some (.cells #[.bool false,(.slice none 0 0)] 71 (0,0)))∧Aside0 (Below w.heap.size w w'))
 case atStart=>exact ⟨(([]:List Int)),(a0),(by first|rfl|(simp;done)|(simp [*];done)),H',⟨Nat.le_refl _⟩,⟨by first|exact Kd.R_nil _ _ _ _ _|exact Kd.N_nil _ _ _ _ _|exact Kd.V_nil _ _ _ _ _|exact Kd.Q_nil _ _ _ _ _|exact Kd.S_nil _ _ _ _ _⟩,⟨by (with_reducible repeat (first|refine cn ?_ _|refine cd ?_|refine ca ?_ _));exact BK272.out⟩,⟨by repeat (first|(with_reducible first|exact HB.out|apply qa|apply qn|apply qd|refine qs ?_ GE272.out)|exact HB.out)⟩⟩
 case round =>
  clear H'
  try clear c2
  try clear p2
  obtain ⟨x3_1,x4_1,rfl,HA,HK1,HO_3,BK272,HB⟩:=hrel
  cases gk with
  | zero=>exact absurd HA.out (by simp [parquetref01_Small.l0])
  | succ k1 =>
   have H:=HA.out
   clear HA
   simp only [parquetref01_Small.l0] at H
   by_cases c3:x4_1=0
   ·rw [if_pos c3] at H
    have c3b0:(x4_1==0)=true:=beq_iff_eq.mpr c3
    have c3b1:(x4_1 != 0)=false:=bne_eq_false_iff_eq.mpr c3
    clear c3
    replace H:=Option.bind_eq_some_iff.mp H
    obtain ⟨⟨t273,t274⟩,A40,H⟩:=H
    replace H:(some (t273,t274))=some (r1,r2):=H
    have A4:=Aside0.mk A40
    clear A40
    simp only [Option.some.injEq,Prod.mk.injEq] at H
    obtain ⟨rfl,rfl⟩:=H
    obtain ⟨Ao5,co5,eo5⟩:=Kd.R_slice HO_3.out
    subst eo5
    go_wp2_with (first|((with_reducible refine gate_callee (f:=84) rfl ?_);refine goesL_ (some 24) rfl rfl Tryz.func84 (by kernel_rfl) rfl #[.bool (decide (a0 < 0)),.slice Ao5 x3_1.length co5] rfl (by (try simp only [List.map_toArray,List.map_cons,List.map_nil]);first|done|rfl|(simp only [List.length_drop,List.length_take];rfl)) ?_;(with_reducible refine (parquetref01_trim.calls k1 (decide (a0 < 0)) (fun k_=>some k_=(.slice Ao5 x3_1.length co5:Value).ownBlock) _ _ x3_1 t273 t274 _ ?side1 A4.out).mono ?_);(case side1=>exact Kd.R_V (Kd.R_tight rfl (Kd.R_types (HO_3.out) BK272.out (by decide))));rintro e w6 ⟨v275,rfl,ho0,hb⟩;refine ⟨_,rfl,?_⟩;have n0_:=Aside0.mk (Kd.R_below (by (with_reducible repeat (first|apply Kd.R_alloc|apply Kd.R_drewN|apply Kd.R_drew));exact HO_3.out) hb);have n1_:=Aside0.mk (Kd.V_lower (Kd.V_mono (ok':=fun k_=>(w.heap.size≤k_)∧k_≠gb272) ho0 (fun k_ hk_=>⟨Or.elim hk_ (fun hs_=>((Kd.R_types (HO_3.out) BK272.out (by decide)).1 k_ hs_.symm).1) (fun hn_=>(Nat.le_trans (below_size (by repeat (first|(with_reducible first|exact HB.out|apply qa|apply qn|apply qd|refine qs ?_ GE272.out)|exact HB.out))) hn_)),Or.elim hk_ (fun hs_=>((Kd.R_types (HO_3.out) BK272.out (by decide)).1 k_ hs_.symm).2) (fun hn_=>(Kd.freshB (g:=gb272) (o := .cells #[.bool false,.slice none 0 0] 71 (0,0)) (by exact lb BK272.out) k_ hn_))⟩)) (below_size (by repeat (first|(with_reducible first|exact HB.out|apply qa|apply qn|apply qd|refine qs ?_ GE272.out)|exact HB.out))));have n2_:=bb BK272 hb;have n3_:=Aside0.mk (below_step (by repeat (first|(with_reducible first|exact HB.out|apply qa|apply qn|apply qd|refine qs ?_ GE272.out)|exact HB.out)) hb);clear HO_3;clear BK272;clear HB;have HO_3:=n0_;have HO276:=n1_;have BK272:=n2_;have HB:=n3_;clear n0_ n1_ n2_ n3_;(try clear hb);(try clear hb2);(try clear hk);(try clear hi);(try clear ho0);obtain ⟨hcz7_0,hcz7_1⟩:=cl2 BK272.out;obtain ⟨hfz7_0,hfz7_1⟩:=fr2 BK272.out;obtain ⟨Ao8,co8,eo8⟩:=Kd.V_slice HO276.out;subst eo8))
    refine bodyPost_ret (results_cell_row rfl _ _ gb272 71 #[.bool t273,.slice Ao8 t274.length co8] (0,0) _ rfl (by (with_reducible repeat (first|refine cn ?_ _|refine cd ?_|refine ca ?_ _));refine blk_put (cs:=#[.bool t273,.slice none 0 0]) ?_ 1 _ rfl;(with_reducible repeat (first|refine cn ?_ _|refine cd ?_|refine ca ?_ _));refine blk_put (cs:=#[.bool false,.slice none 0 0]) ?_ 0 _ rfl;(with_reducible repeat (first|refine cn ?_ _|refine cd ?_|refine ca ?_ _));exact BK272.out) Tryz.underlying71 rfl (by kernel_rfl)) rfl ?_
    exact ⟨_,by first|rfl|(simp [errW_none,errW_some]<;>rfl)|(simp [*,errW_none,errW_some]<;>rfl),by (with_reducible repeat (first|apply Kd.V_alloc|apply Kd.V_drewN|apply Kd.V_drew));exact Kd.V_mono (Kd.V_far (p:=⟨gb272,1,none⟩) (Kd.V_far (p:=⟨gb272,0,none⟩) (Kd.V_mono HO276.out (fun k_ hk=>(⟨hk,hk.2⟩:_∧k_≠gb272))) (fun _ hk=>hk.2) (.bool t273)) (fun _ hk=>hk.2) (.slice Ao8 t274.length co8)) (fun _ hk=>hk.1.1),by repeat (first|(with_reducible first|exact HB.out|apply qa|apply qn|apply qd|refine qs ?_ GE272.out)|exact HB.out)⟩
   rw [if_neg c3] at H
   have c3b0:(x4_1==0)=false:=beq_eq_false_iff_ne.mpr c3
   have c3b1:(x4_1 != 0)=true:=bne_iff_ne.mpr c3
   by_cases c9:(Int.tmod x4_1 65536) < 0
   rotate_left
   ·rw [if_neg c9] at H
    have c9b0:decide ((Int.tmod x4_1 65536) < 0)=false:=decide_eq_false c9
    clear c9
    by_cases c12:x3_1.length < 17592186044416
    rotate_left
    ·rw [if_neg c12] at H
     exact absurd H (by simp)
    rw [if_pos c12] at H
    have LMc12:=Aside0.mk c12
    clear c12
    obtain ⟨y280,hy280⟩:∃ y_:List Int,y_=(x3_1++[Int.tmod x4_1 65536]):=⟨_,rfl⟩
    replace H:(parquetref01_Small.l0 k1 a0 y280 (wrap64 (Int.tdiv x4_1 65536)))=some (r1,r2):=by first|(rw [hy280];with_reducible exact H)|(have H2_:=(Option.bind_some _ _).symm.trans H;rw [hy280];with_reducible exact H2_)|(have H2_:=(Option.bind_some _ _).symm.trans H;with_reducible exact H2_)|with_reducible exact H|(rw [hy280];exact H)|exact H
    have Ny280:=Aside0.mk hy280
    clear hy280
    have H':=Aside0.mk H
    clear H
    go_wp2_with (first|((with_reducible refine gate_builtin (b := .append) (xs:=#[.tmp 15,.tmp 17]) rfl ?_);at_builtin;refine Kd.R_append (Kd.int .i64) (w0:=w) w.heap.size rfl (.tmp 15) (.tmp 17) 34 3 (.int .i64 0) 8 rfl Tryz.underlying34 info3 rfl (by decide) (by omega) u3 x3_1 (Int.tmod x4_1 65536) [.int .i64 (Int.tmod x4_1 65536)] (fun k_=>(w.heap.size≤k_)) (fun _=>False) rfl rfl ?aP (fun _ hk=>hk.elim) ?aF ?aO ?aB ?aS ?aL ?_;(case aP=>exact rfl);(case aB=>exact (by repeat (first|(with_reducible first|exact HB.out|apply qa|apply qn|apply qd|refine qs ?_ GE272.out)|exact HB.out)));(case aF=>exact (fun k_ hk=>(Nat.le_trans (below_size (by repeat (first|(with_reducible first|exact HB.out|apply qa|apply qn|apply qd|refine qs ?_ GE272.out)|exact HB.out))) hk)));(case aO=>exact (by (with_reducible repeat (first|apply Kd.R_alloc|apply Kd.R_drewN|apply Kd.R_drew));exact HO_3.out));(case aS=>exact (below_size (by repeat (first|(with_reducible first|exact HB.out|apply qa|apply qn|apply qd|refine qs ?_ GE272.out)|exact HB.out))));(case aL=>have:=LMc12.out;omega);intro v281 w13 ho hb hg hat;rw [← Ny280.out] at ho;have n0_:=Aside0.mk (blk_grown (g:=gb272) (o := .cells #[.bool false,.slice none 0 0] 71 (0,0)) (by exact lb BK272.out) hg (Kd.R_ne HO_3.out BK272.out (by decide)));have n1_:=Aside0.mk (hb);have n2_:=Aside0.mk (ho);clear BK272;clear HB;clear HO_3;have BK272:=n0_;have HB:=n1_;have HO282:=n2_;clear n0_ n1_ n2_;clear ho hb hg hat))
    go_roundg k1
    case measure=>have:=HK1.out;omega
    case rel=>exact ⟨(y280),(wrap64 (Int.tdiv x4_1 65536)),(by first|rfl|(simp;done)|(simp [*];done)),H',⟨by have:=HK1.out;omega⟩,⟨by (with_reducible repeat (first|apply Kd.R_alloc|apply Kd.R_drewN|apply Kd.R_drew));exact HO282.out⟩,⟨by (with_reducible repeat (first|refine cn ?_ _|refine cd ?_|refine ca ?_ _));exact BK272.out⟩,⟨by repeat (first|(with_reducible first|exact HB.out|apply qa|apply qn|apply qd|refine qs ?_ GE272.out)|exact HB.out)⟩⟩
   rw [if_pos c9] at H
   have c9b0:decide ((Int.tmod x4_1 65536) < 0)=true:=decide_eq_true c9
   clear c9
   by_cases c10:x3_1.length < 17592186044416
   rotate_left
   ·rw [if_neg c10] at H
    exact absurd H (by simp)
   rw [if_pos c10] at H
   have LMc10:=Aside0.mk c10
   clear c10
   obtain ⟨y277,hy277⟩:∃ y_:List Int,y_=(x3_1++[wrap64 (-(Int.tmod x4_1 65536))]):=⟨_,rfl⟩
   replace H:(parquetref01_Small.l0 k1 a0 y277 (wrap64 (Int.tdiv x4_1 65536)))=some (r1,r2):=by first|(rw [hy277];with_reducible exact H)|(have H2_:=(Option.bind_some _ _).symm.trans H;rw [hy277];with_reducible exact H2_)|(have H2_:=(Option.bind_some _ _).symm.trans H;with_reducible exact H2_)|with_reducible exact H|(rw [hy277];exact H)|exact H
   have Ny277:=Aside0.mk hy277
   clear hy277
   have H':=Aside0.mk H
   clear H
   go_wp2_with (first|((with_reducible refine gate_builtin (b := .append) (xs:=#[.tmp 15,.tmp 17]) rfl ?_);at_builtin;refine Kd.R_append (Kd.int .i64) (w0:=w) w.heap.size rfl (.tmp 15) (.tmp 17) 34 3 (.int .i64 0) 8 rfl Tryz.underlying34 info3 rfl (by decide) (by omega) u3 x3_1 (wrap64 (-(Int.tmod x4_1 65536))) [.int .i64 (wrap64 (-(Int.tmod x4_1 65536)))] (fun k_=>(w.heap.size≤k_)) (fun _=>False) rfl rfl ?aP (fun _ hk=>hk.elim) ?aF ?aO ?aB ?aS ?aL ?_;(case aP=>exact rfl);(case aB=>exact (by repeat (first|(with_reducible first|exact HB.out|apply qa|apply qn|apply qd|refine qs ?_ GE272.out)|exact HB.out)));(case aF=>exact (fun k_ hk=>(Nat.le_trans (below_size (by repeat (first|(with_reducible first|exact HB.out|apply qa|apply qn|apply qd|refine qs ?_ GE272.out)|exact HB.out))) hk)));(case aO=>exact (by (with_reducible repeat (first|apply Kd.R_alloc|apply Kd.R_drewN|apply Kd.R_drew));exact HO_3.out));(case aS=>exact (below_size (by repeat (first|(with_reducible first|exact HB.out|apply qa|apply qn|apply qd|refine qs ?_ GE272.out)|exact HB.out))));(case aL=>have:=LMc10.out;omega);intro v278 w11 ho hb hg hat;rw [← Ny277.out] at ho;have n0_:=Aside0.mk (blk_grown (g:=gb272) (o := .cells #[.bool false,.slice none 0 0] 71 (0,0)) (by exact lb BK272.out) hg (Kd.R_ne HO_3.out BK272.out (by decide)));have n1_:=Aside0.mk (hb);have n2_:=Aside0.mk (ho);clear BK272;clear HB;clear HO_3;have BK272:=n0_;have HB:=n1_;have HO279:=n2_;clear n0_ n1_ n2_;clear ho hb hg hat))
   go_roundg k1
   case measure=>have:=HK1.out;omega
   case rel=>exact ⟨(y277),(wrap64 (Int.tdiv x4_1 65536)),(by first|rfl|(simp;done)|(simp [*];done)),H',⟨by have:=HK1.out;omega⟩,⟨by (with_reducible repeat (first|apply Kd.R_alloc|apply Kd.R_drewN|apply Kd.R_drew));exact HO279.out⟩,⟨by (with_reducible repeat (first|refine cn ?_ _|refine cd ?_|refine ca ?_ _));exact BK272.out⟩,⟨by repeat (first|(with_reducible first|exact HB.out|apply qa|apply qn|apply qd|refine qs ?_ GE272.out)|exact HB.out)⟩⟩
end Go.Proofs.YtkgagdjogedoiaaGreat.MT
namespace Go.Proofs.YtkgagdjogedoiaaGreat.MT
open Go.RowKit Go.Proofs.YtkgagdjogedoiaaGreatW.PrintWords Go.Proofs.YtkgagdjogedoiaaGreatW.PrintLast Go.Proofs.YtkgagdjogedoiaaGreatW.PrintMore
attribute [local go_sem] max2_int min2_int max_two min_two max_three min_three max_four min_four   -- for this text's walks alone
set_option linter.unusedVariables false
set_option linter.unusedSimpArgs false
/-! ### parquetref01_Num_Neg: function 28 -/
def parquetref01_Num_Neg.f (a0_0:Bool) (l0_1:List Int):Option (Bool × List Int):=if a0_0=true then (some (false,l0_1)) else (some (decide (0 < l0_1.length),l0_1))
set_option maxHeartbeats 8000000 in
set_option maxRecDepth 100000 in
theorem parquetref01_Num_Neg.calls (a0_0:Bool) (P0_1_:Nat→Prop) (A0_1:Option Addr) (c0_1:Nat) (l0_1:List Int) (r1:Bool) (r2:List Int) (w:World) (hs0_1:Kd.V (Kd.int .i64) 3 w w.heap.size (fun k_=>P0_1_ k_) (.slice A0_1 l0_1.length c0_1) l0_1) (h:parquetref01_Num_Neg.f a0_0 l0_1=some (r1,r2)) :
  Calls Tryz.prog 86 #[.agg #[.bool a0_0,.slice A0_1 l0_1.length c0_1]] w fun e w'=>∃ v1_:Value,e = .returned (.agg #[.bool r1,v1_])∧Kd.V (Kd.int .i64) 3 w' w.heap.size (fun k_=>(P0_1_ k_∨w.heap.size≤k_)) v1_ r2∧Below w.heap.size w w':=by
 have hu38:=Tryz.underlying71
 have HO0_1:=Aside0.mk (show Kd.V (Kd.int .i64) 3 w w.heap.size (fun k_=>(P0_1_ k_∨w.heap.size≤k_)) (.slice A0_1 l0_1.length c0_1) l0_1 from Kd.V_mono hs0_1 (fun k_ hk => .inl hk))
 have HB:=Aside0.mk (Below.refl w.heap.size w)
 have H:(if a0_0=true then (some (false,l0_1)) else (some (decide (0 < l0_1.length),l0_1)))=some (r1,r2):=h
 clear h
 by_cases c2:a0_0=true
 ·subst c2
  have H1:(some (false,l0_1))=some (r1,r2):=by rw [if_pos rfl] at H;exact H
  clear H
  have H:=H1
  clear H1
  simp only [Option.some.injEq,Prod.mk.injEq] at H
  obtain ⟨rfl,rfl⟩:=H
  go_enter Tryz.func86,Tryz.ntmps86
  go_wp2_with (first|((with_reducible refine gate_dst (N:=1) rfl ?_);(try (refine gate_guard (by rfl) ?_;dsimp only));refine box_event ?hg (N:=1) ?hd (cs:=#[.bool true,.slice A0_1 l0_1.length c0_1]) (t:=71) ?hr ?_;(case hd=>rfl);(case hg=>rfl);(case hr=>first|(go_simp;done)|(go_simp;rfl));intro gb283 hg w3 hbox hb;have n0_:=Aside0.mk (Kd.V_below (Kd.V_elderB (by (with_reducible repeat (first|apply Kd.V_alloc|apply Kd.V_drewN|apply Kd.V_drew));exact HO0_1.out) gb283 (Nat.le_of_eq hg.symm)) hb);have n1_:=Aside0.mk (below_step (by repeat (first|(with_reducible first|exact HB.out|apply qa|apply qn|apply qd)|exact HB.out)) hb);have n2_:=Aside0.mk (hbox);have n3_:=bgw HB hg;have n4_:=bgw HB hg;clear HO0_1;clear HB;have HO0_1:=n0_;have HB:=n1_;have BK283:=n2_;have GW283:=n3_;have GE283:=n4_;clear n0_ n1_ n2_ n3_ n4_;clear hb hbox hg)|((with_reducible refine gate_dst (N:=2) rfl ?_);(try (refine gate_guard (by rfl) ?_;dsimp only));refine box_event ?hg (N:=2) ?hd (cs:=#[.bool false,.slice none 0 0]) (t:=71) ?hr ?_;(case hd=>rfl);(case hg=>rfl);(case hr=>first|(go_simp;done)|(go_simp;rfl));intro gb284 hg w4 hbox hb;have n0_:=Aside0.mk (Kd.V_below (Kd.V_elderB (by (with_reducible repeat (first|apply Kd.V_alloc|apply Kd.V_drewN|apply Kd.V_drew));exact HO0_1.out) gb284 (Nat.le_of_eq hg.symm)) hb);have n1_:=bb BK283 hb;have n2_:=Aside0.mk (below_step (by repeat (first|(with_reducible first|exact HB.out|apply qa|apply qn|apply qd|refine qs ?_ GE283.out)|exact HB.out)) hb);have n3_:=Aside0.mk (hbox);have n4_:=bgw HB hg;have n5_:=bgw HB hg;have n6_:=bnl BK283 hg;have n7_:=bng BK283 hg;clear HO0_1;clear BK283;clear HB;have HO0_1:=n0_;have BK283:=n1_;have HB:=n2_;have BK284:=n3_;have GW284:=n4_;have GE284:=n5_;have NB283_284:=n6_;have NB284_283:=n7_;clear n0_ n1_ n2_ n3_ n4_ n5_ n6_ n7_;clear hb hbox hg;have hnb5:=NB283_284.out;have hnc5:=NB284_283.out;obtain ⟨hcz6_0,hcz6_1⟩:=cl2 BK283.out;obtain ⟨hfz6_0,hfz6_1⟩:=fr2 BK283.out;obtain ⟨hcz7_0,hcz7_1⟩:=cl2 BK284.out;obtain ⟨hfz7_0,hfz7_1⟩:=fr2 BK284.out))
  refine bodyPost_ret (results_cell_row rfl _ _ gb284 71 #[.bool false,.slice A0_1 l0_1.length c0_1] (0,0) _ rfl (by (with_reducible repeat (first|refine cn ?_ _|refine cd ?_|refine ca ?_ _));refine blk_put (cs:=#[.bool false,.slice none 0 0]) ?_ 1 _ rfl;(with_reducible repeat (first|refine cn ?_ _|refine cd ?_|refine ca ?_ _));refine blk_put (cs:=#[.bool false,.slice none 0 0]) ?_ 0 _ rfl;(with_reducible repeat (first|refine cn ?_ _|refine cd ?_|refine ca ?_ _));exact BK284.out) Tryz.underlying71 rfl (by kernel_rfl)) rfl ?_
  exact ⟨_,by first|rfl|(simp [errW_none,errW_some]<;>rfl)|(simp [*,errW_none,errW_some]<;>rfl),by (with_reducible repeat (first|apply Kd.V_alloc|apply Kd.V_drewN|apply Kd.V_drew));exact Kd.V_mono (Kd.V_far (p:=⟨gb284,1,none⟩) (Kd.V_far (p:=⟨gb284,0,none⟩) (Kd.V_mono HO0_1.out (fun k_ hk=>(⟨hk,hk.2⟩:_∧k_≠gb284))) (fun _ hk=>hk.2) (.bool false)) (fun _ hk=>hk.2) (.slice A0_1 l0_1.length c0_1)) (fun _ hk=>hk.1.1.1),by repeat (first|(with_reducible first|exact HB.out|apply qa|apply qn|apply qd|refine qs ?_ GE283.out|refine qs ?_ GE284.out)|exact HB.out)⟩
 replace c2:=Bool.eq_false_iff.mpr c2
 subst c2
 have H1:(some (decide (0 < l0_1.length),l0_1))=some (r1,r2):=by rw [if_neg (show ¬ (false=true) by decide)] at H;exact H
 clear H
 have H:=H1
 clear H1
 simp only [Option.some.injEq,Prod.mk.injEq] at H
 obtain ⟨rfl,rfl⟩:=H
 go_enter Tryz.func86,Tryz.ntmps86
 go_wp2_with (first|((with_reducible refine gate_dst (N:=1) rfl ?_);(try (refine gate_guard (by rfl) ?_;dsimp only));refine box_event ?hg (N:=1) ?hd (cs:=#[.bool false,.slice A0_1 l0_1.length c0_1]) (t:=71) ?hr ?_;(case hd=>rfl);(case hg=>rfl);(case hr=>first|(go_simp;done)|(go_simp;rfl));intro gb283 hg w8 hbox hb;have n0_:=Aside0.mk (Kd.V_below (Kd.V_elderB (by (with_reducible repeat (first|apply Kd.V_alloc|apply Kd.V_drewN|apply Kd.V_drew));exact HO0_1.out) gb283 (Nat.le_of_eq hg.symm)) hb);have n1_:=Aside0.mk (below_step (by repeat (first|(with_reducible first|exact HB.out|apply qa|apply qn|apply qd)|exact HB.out)) hb);have n2_:=Aside0.mk (hbox);have n3_:=bgw HB hg;have n4_:=bgw HB hg;clear HO0_1;clear HB;have HO0_1:=n0_;have HB:=n1_;have BK283:=n2_;have GW283:=n3_;have GE283:=n4_;clear n0_ n1_ n2_ n3_ n4_;clear hb hbox hg)|((with_reducible refine gate_dst (N:=2) rfl ?_);(try (refine gate_guard (by rfl) ?_;dsimp only));refine box_event ?hg (N:=2) ?hd (cs:=#[.bool false,.slice none 0 0]) (t:=71) ?hr ?_;(case hd=>rfl);(case hg=>rfl);(case hr=>first|(go_simp;done)|(go_simp;rfl));intro gb284 hg w9 hbox hb;have n0_:=Aside0.mk (Kd.V_below (Kd.V_elderB (by (with_reducible repeat (first|apply Kd.V_alloc|apply Kd.V_drewN|apply Kd.V_drew));exact HO0_1.out) gb284 (Nat.le_of_eq hg.symm)) hb);have n1_:=bb BK283 hb;have n2_:=Aside0.mk (below_step (by repeat (first|(with_reducible first|exact HB.out|apply qa|apply qn|apply qd|refine qs ?_ GE283.out)|exact HB.out)) hb);have n3_:=Aside0.mk (hbox);have n4_:=bgw HB hg;have n5_:=bgw HB hg;have n6_:=bnl BK283 hg;have n7_:=bng BK283 hg;clear HO0_1;clear BK283;clear HB;have HO0_1:=n0_;have BK283:=n1_;have HB:=n2_;have BK284:=n3_;have GW284:=n4_;have GE284:=n5_;have NB283_284:=n6_;have NB284_283:=n7_;clear n0_ n1_ n2_ n3_ n4_ n5_ n6_ n7_;clear hb hbox hg;have hnb10:=NB283_284.out;have hnc10:=NB284_283.out;obtain ⟨hcz11_0,hcz11_1⟩:=cl2 BK283.out;obtain ⟨hfz11_0,hfz11_1⟩:=fr2 BK283.out;obtain ⟨hcz12_0,hcz12_1⟩:=cl2 BK284.out;obtain ⟨hfz12_0,hfz12_1⟩:=fr2 BK284.out))
 refine bodyPost_ret (results_cell_row rfl _ _ gb284 71 #[.bool (decide (0 < l0_1.length)),.slice A0_1 l0_1.length c0_1] (0,0) _ rfl (by (with_reducible repeat (first|refine cn ?_ _|refine cd ?_|refine ca ?_ _));refine blk_put (cs:=#[.bool (decide (0 < l0_1.length)),.slice none 0 0]) ?_ 1 _ rfl;(with_reducible repeat (first|refine cn ?_ _|refine cd ?_|refine ca ?_ _));refine blk_put (cs:=#[.bool false,.slice none 0 0]) ?_ 0 _ rfl;(with_reducible repeat (first|refine cn ?_ _|refine cd ?_|refine ca ?_ _));exact BK284.out) Tryz.underlying71 rfl (by kernel_rfl)) rfl ?_
 exact ⟨_,by first|rfl|(simp [errW_none,errW_some]<;>rfl)|(simp [*,errW_none,errW_some]<;>rfl),by (with_reducible repeat (first|apply Kd.V_alloc|apply Kd.V_drewN|apply Kd.V_drew));exact Kd.V_mono (Kd.V_far (p:=⟨gb284,1,none⟩) (Kd.V_far (p:=⟨gb284,0,none⟩) (Kd.V_mono HO0_1.out (fun k_ hk=>(⟨hk,hk.2⟩:_∧k_≠gb284))) (fun _ hk=>hk.2) (.bool (decide (0 < l0_1.length)))) (fun _ hk=>hk.2) (.slice A0_1 l0_1.length c0_1)) (fun _ hk=>hk.1.1.1),by repeat (first|(with_reducible first|exact HB.out|apply qa|apply qn|apply qd|refine qs ?_ GE283.out|refine qs ?_ GE284.out)|exact HB.out)⟩
end Go.Proofs.YtkgagdjogedoiaaGreat.MT
namespace Go.Proofs.YtkgagdjogedoiaaGreat.MT
open Go.RowKit Go.Proofs.YtkgagdjogedoiaaGreatW.PrintWords Go.Proofs.YtkgagdjogedoiaaGreatW.PrintLast Go.Proofs.YtkgagdjogedoiaaGreatW.PrintMore
attribute [local go_sem] max2_int min2_int max_two min_two max_three min_three max_four min_four   -- for this text's walks alone
set_option linter.unusedVariables false
set_option linter.unusedSimpArgs false
/-! ### parquetref01_size: function 75 -/
def parquetref01_size.l0:Nat→List Int→List Int→Int→Option (Int)
 | 0,_,_,_=>none
 | k+1,x0,x1,x5=>if x5 ≥ 0 then (if 0≤x5 then (if x5 < (x0.length:Int) then (if x5 < (x1.length:Int) then (if (rd x0 x5)=(rd x1 x5) then (parquetref01_size.l0 k x0 x1 (wrap64 (x5 - 1))) else (some (wrap64 ((rd x0 x5) - (rd x1 x5))))) else (none)) else (none)) else (none)) else (some 0)
def parquetref01_size.f (k:Nat) (l0:List Int) (l1:List Int):Option (Int):=if (l0.length:Int)=(l1.length:Int) then (parquetref01_size.l0 k l0 l1 (wrap64 ((l0.length:Int) - 1))) else (some (wrap64 ((l0.length:Int) - (l1.length:Int))))
theorem parquetref01_size.mono_l:∀ k,(∀ y0 y1 y2,LeO (parquetref01_size.l0 k y0 y1 y2) (parquetref01_size.l0 (k+1) y0 y1 y2))
 | 0=>fun _ _ _ r h=>by simp [parquetref01_size.l0] at h
 | k+1=>by
  have ih0:=parquetref01_size.mono_l k
  ·intro y0 y1 y2
   unfold parquetref01_size.l0
   repeat' first
   | (with_reducible exact ih0 _ _ _)
   | (with_reducible exact LeO.refl _)
   | (with_reducible exact LeO.none _)
   | (with_reducible refine LeO.ite ?_ ?_)
   | (with_reducible refine LeO.bind ?_ (fun _=>?_))
   | exact ih0 _ _ _
   | exact LeO.none _
   | refine LeO.ite ?_ ?_
   | refine LeO.bind ?_ (fun _=>?_)
theorem parquetref01_size.mono:∀ a0 a1 k,LeO (parquetref01_size.f k a0 a1) (parquetref01_size.f (k+1) a0 a1):=by
 intro a0 a1 k
 have ih0:=parquetref01_size.mono_l k
 unfold parquetref01_size.f
 repeat' first
   | (with_reducible exact ih0 _ _ _)
   | (with_reducible exact LeO.refl _)
   | (with_reducible exact LeO.none _)
   | (with_reducible refine LeO.ite ?_ ?_)
   | (with_reducible refine LeO.bind ?_ (fun _=>?_))
   | exact ih0 _ _ _
   | exact LeO.none _
   | refine LeO.ite ?_ ?_
   | refine LeO.bind ?_ (fun _=>?_)
set_option maxHeartbeats 8000000 in
set_option maxRecDepth 100000 in
theorem parquetref01_size.calls (k:Nat) (A0:Option Addr) (c0:Nat) (l0:List Int) (A1:Option Addr) (c1:Nat) (l1:List Int) (r:Int) (w:World) (hr0:Kd.C (Kd.int .i64) w A0 l0.length l0) (hc0:l0.length≤c0) (hr1:Kd.C (Kd.int .i64) w A1 l1.length l1) (hc1:l1.length≤c1) (h:parquetref01_size.f k l0 l1=some r) :
  Calls Tryz.prog 85 #[.slice A0 l0.length c0,.slice A1 l1.length c1] w fun e w'=>e = .returned (.int .i64 r)∧Drawn0 w w':=by
 have HR0:=Aside0.mk hr0
 have HC0:=Aside0.mk hc0
 clear hr0 hc0
 have HR1:=Aside0.mk hr1
 have HC1:=Aside0.mk hc1
 clear hr1 hc1
 have H:(if (l0.length:Int)=(l1.length:Int) then (parquetref01_size.l0 k l0 l1 (wrap64 ((l0.length:Int) - 1))) else (some (wrap64 ((l0.length:Int) - (l1.length:Int)))))=some r:=h
 clear h
 by_cases c3:(l0.length:Int)=(l1.length:Int)
 rotate_left
 ·rw [if_neg c3] at H
  have c3b0:((l0.length:Int)==(l1.length:Int))=false:=beq_eq_false_iff_ne.mpr c3
  have c3b1:((l0.length:Int) != (l1.length:Int))=true:=bne_iff_ne.mpr c3
  have c3b2:(l0.length==l1.length)=false:=by first|simpa using c3|(simp at c3 ⊢;omega)
  obtain rfl:=Option.some.inj H
  go_enter Tryz.func85,Tryz.ntmps85
  go_wp2
  repeat (go_quiet (fail);try go_wp2)
  go_ret
  exact ⟨by first|rfl|(simp;done)|(simp [*];done),by repeat (first|exact Drawn0.refl _|apply Drawn0.step)⟩
 rw [if_pos c3] at H
 have c3b0:((l0.length:Int)==(l1.length:Int))=true:=beq_iff_eq.mpr c3
 have c3b1:((l0.length:Int) != (l1.length:Int))=false:=bne_eq_false_iff_eq.mpr c3
 have c3b2:(l0.length==l1.length)=true:=by first|simpa using c3|(simp at c3 ⊢;omega)
 clear c3
 have H':=Aside0.mk H
 clear H
 go_enter Tryz.func85,Tryz.ntmps85
 go_wp2
 repeat (go_quiet (fail);try go_wp2)
 go_loopg [5] k (fun kq v5 w'=>∃ (x5_1:Int),v5 = .int .i64 x5_1∧Aside0 (parquetref01_size.l0 kq l0 l1 x5_1=some r)∧Aside0 (kq≤k)∧Drawn0 w w')
 case atStart=>exact ⟨(wrap64 ((l0.length:Int) - 1)),(by first|rfl|(simp;done)|(simp [*];done)),H',⟨Nat.le_refl _⟩,by repeat (first|exact Drawn0.refl _|apply Drawn0.step)⟩
 case round =>
  clear H'
  try clear c1
  try clear p2
  try clear c3
  try clear c3b0
  try clear c3b1
  try clear c3b2
  obtain ⟨x5_1,rfl,HA,HK1,⟨m1,rfl⟩⟩:=hrel
  cases gk with
  | zero=>exact absurd HA.out (by simp [parquetref01_size.l0])
  | succ k1 =>
   have H:=HA.out
   clear HA
   simp only [parquetref01_size.l0] at H
   by_cases c4:x5_1 ≥ 0
   rotate_left
   ·rw [if_neg c4] at H
    have c4b0:decide (0≤x5_1)=false:=decide_eq_false c4
    clear c4
    obtain rfl:=Option.some.inj H
    go_wp2
    repeat (go_quiet (fail);try go_wp2)
    go_ret
    exact ⟨by first|rfl|(simp;done)|(simp [*];done),by repeat (first|exact Drawn0.refl _|apply Drawn0.step)⟩
   rw [if_pos c4] at H
   have c4b0:decide (0≤x5_1)=true:=decide_eq_true c4
   clear c4
   by_cases c5:0≤x5_1
   rotate_left
   ·rw [if_neg c5] at H
    exact absurd H (by simp)
   rw [if_pos c5] at H
   have c5b0:decide (0≤x5_1)=true:=decide_eq_true c5
   clear c5
   by_cases c6:x5_1 < (l0.length:Int)
   rotate_left
   ·rw [if_neg c6] at H
    exact absurd H (by simp)
   rw [if_pos c6] at H
   have c6b0:decide (x5_1 < (l0.length:Int))=true:=decide_eq_true c6
   clear c6
   by_cases c7:x5_1 < (l1.length:Int)
   rotate_left
   ·rw [if_neg c7] at H
    exact absurd H (by simp)
   rw [if_pos c7] at H
   have c7b0:decide (x5_1 < (l1.length:Int))=true:=decide_eq_true c7
   clear c7
   by_cases c8:(rd l0 x5_1)=(rd l1 x5_1)
   ·rw [if_pos c8] at H
    have c8b0:((rd l0 x5_1)==(rd l1 x5_1))=true:=beq_iff_eq.mpr c8
    have c8b1:((rd l0 x5_1) != (rd l1 x5_1))=false:=bne_eq_false_iff_eq.mpr c8
    clear c8
    have H':=Aside0.mk H
    clear H
    have p286:0≤(x5_1:Int):=of_decide_eq_true (by first|(with_reducible assumption)|assumption)
    have q286:x5_1 < (l0.length:Int):=of_decide_eq_true (by first|(with_reducible assumption)|assumption)
    obtain ⟨ad286,e286,hx286_0⟩:=Kd.at_int HR0.out x5_1 p286 q286
    cases e286
    replace p286:=eq_true p286
    replace q286:=eq_true q286
    have p287:0≤(x5_1:Int):=of_decide_eq_true (by first|(with_reducible assumption)|assumption)
    have q287:x5_1 < (l1.length:Int):=of_decide_eq_true (by first|(with_reducible assumption)|assumption)
    obtain ⟨ad287,e287,hx287_0⟩:=Kd.at_int HR1.out x5_1 p287 q287
    cases e287
    replace p287:=eq_true p287
    replace q287:=eq_true q287
    go_wp2
    repeat (go_quiet (fail);try go_wp2)
    go_roundg k1
    case measure=>have:=HK1.out;omega
    case rel=>exact ⟨(wrap64 (x5_1 - 1)),(by first|rfl|(simp;done)|(simp [*];done)),H',⟨by have:=HK1.out;omega⟩,by repeat (first|exact Drawn0.refl _|apply Drawn0.step)⟩
   rw [if_neg c8] at H
   have c8b0:((rd l0 x5_1)==(rd l1 x5_1))=false:=beq_eq_false_iff_ne.mpr c8
   have c8b1:((rd l0 x5_1) != (rd l1 x5_1))=true:=bne_iff_ne.mpr c8
   obtain rfl:=Option.some.inj H
   have p286:0≤(x5_1:Int):=of_decide_eq_true (by first|(with_reducible assumption)|assumption)
   have q286:x5_1 < (l0.length:Int):=of_decide_eq_true (by first|(with_reducible assumption)|assumption)
   obtain ⟨ad286,e286,hx286_0⟩:=Kd.at_int HR0.out x5_1 p286 q286
   cases e286
   replace p286:=eq_true p286
   replace q286:=eq_true q286
   have p287:0≤(x5_1:Int):=of_decide_eq_true (by first|(with_reducible assumption)|assumption)
   have q287:x5_1 < (l1.length:Int):=of_decide_eq_true (by first|(with_reducible assumption)|assumption)
   obtain ⟨ad287,e287,hx287_0⟩:=Kd.at_int HR1.out x5_1 p287 q287
   cases e287
   replace p287:=eq_true p287
   replace q287:=eq_true q287
   have p288:0≤(x5_1:Int):=of_decide_eq_true (by first|(with_reducible assumption)|assumption)
   have q288:x5_1 < (l0.length:Int):=of_decide_eq_true (by first|(with_reducible assumption)|assumption)
   obtain ⟨ad288,e288,hx288_0⟩:=Kd.at_int HR0.out x5_1 p288 q288
   obtain rfl:ad286=ad288:=(by injection e288)
   replace p288:=eq_true p288
   replace q288:=eq_true q288
   have p289:0≤(x5_1:Int):=of_decide_eq_true (by first|(with_reducible assumption)|assumption)
   have q289:x5_1 < (l1.length:Int):=of_decide_eq_true (by first|(with_reducible assumption)|assumption)
   obtain ⟨ad289,e289,hx289_0⟩:=Kd.at_int HR1.out x5_1 p289 q289
   obtain rfl:ad287=ad289:=(by injection e289)
   replace p289:=eq_true p289
   replace q289:=eq_true q289
   go_wp2
   repeat (go_quiet (fail);try go_wp2)
   go_ret
   exact ⟨by first|rfl|(simp;done)|(simp [*];done),by repeat (first|exact Drawn0.refl _|apply Drawn0.step)⟩
end Go.Proofs.YtkgagdjogedoiaaGreat.MT
namespace Go.Proofs.YtkgagdjogedoiaaGreat.MT
open Go.RowKit Go.Proofs.YtkgagdjogedoiaaGreatW.PrintWords Go.Proofs.YtkgagdjogedoiaaGreatW.PrintLast Go.Proofs.YtkgagdjogedoiaaGreatW.PrintMore
attribute [local go_sem] max2_int min2_int max_two min_two max_three min_three max_four min_four   -- for this text's walks alone
set_option linter.unusedVariables false
set_option linter.unusedSimpArgs false
/-! ### parquetref01_Num_Plus: function 30 -/
mutual
def parquetref01_Num_Plus.l0:Nat→List Int→Int→Int→Bool→List Int→Bool→List Int→Option (Bool × List Int)
 | 0,_,_,_,_,_,_,_=>none
 | k+1,x5,x6,x7,x291000,x291001,x292000,x292001=>if x7 < (x291001.length:Int) then (parquetref01_Num_Plus.j1 k x5 x6 x7 true x291000 x291001 x292000 x292001) else (if x7 < (x292001.length:Int) then (parquetref01_Num_Plus.j1 k x5 x6 x7 true x291000 x291001 x292000 x292001) else (parquetref01_Num_Plus.j1 k x5 x6 x7 (decide (x6 > 0)) x291000 x291001 x292000 x292001))
def parquetref01_Num_Plus.j1:Nat→List Int→Int→Int→Bool→Bool→List Int→Bool→List Int→Option (Bool × List Int)
 | 0,_,_,_,_,_,_,_,_=>none
 | k+1,x5,x6,x7,x33,x291000,x291001,x292000,x292001=>if x33=true then ((parquetref01_digit.f x291001 x7).bind fun t293=>((parquetref01_digit.f x292001 x7).bind fun t294=>(if x5.length < 17592186044416 then (parquetref01_Num_Plus.l0 k (x5++[Int.tmod (wrap64 ((wrap64 (t293+t294))+x6)) 65536]) (wrap64 (Int.tdiv (wrap64 ((wrap64 (t293+t294))+x6)) 65536)) (wrap64 (x7+1)) x291000 x291001 x292000 x292001) else (none)))) else ((parquetref01_trim.f k x291000 x5).bind fun bt298=>(some (bt298.1,bt298.2)))
def parquetref01_Num_Plus.j2:Nat→List Int→Int→Bool→List Int→Bool→List Int→Option (Bool × List Int)
 | 0,_,_,_,_,_,_=>none
 | k+1,x5,x6,x303000,x303001,x304000,x304001=>parquetref01_Num_Plus.l1 k x5 x6 0 x303000 x303001 x304000 x304001
def parquetref01_Num_Plus.l1:Nat→List Int→Int→Int→Bool→List Int→Bool→List Int→Option (Bool × List Int)
 | 0,_,_,_,_,_,_,_=>none
 | k+1,x5,x6,x11,x303000,x303001,x304000,x304001=>if x11 < (x303001.length:Int) then (if 0≤x11 then ((parquetref01_digit.f x304001 x11).bind fun t306=>(if (wrap64 ((wrap64 ((rd x303001 x11) - t306)) - x6)) < 0 then (if x5.length < 17592186044416 then (parquetref01_Num_Plus.l1 k (x5++[wrap64 ((wrap64 ((wrap64 ((rd x303001 x11) - t306)) - x6))+65536)]) 1 (wrap64 (x11+1)) x303000 x303001 x304000 x304001) else (none)) else (if x5.length < 17592186044416 then (parquetref01_Num_Plus.l1 k (x5++[wrap64 ((wrap64 ((rd x303001 x11) - t306)) - x6)]) 0 (wrap64 (x11+1)) x303000 x303001 x304000 x304001) else (none)))) else (none)) else ((parquetref01_trim.f k x303000 x5).bind fun bt313=>(some (bt313.1,bt313.2)))
end
def parquetref01_Num_Plus.f (k:Nat) (a0_0:Bool) (l0_1:List Int) (a1_0:Bool) (l1_1:List Int):Option (Bool × List Int):=if (a0_0==a1_0)=true then (parquetref01_Num_Plus.l0 k ([]:List Int) 0 0 a0_0 l0_1 a1_0 l1_1) else ((parquetref01_size.f k l0_1 l1_1).bind fun t304=>(if t304 < 0 then (parquetref01_Num_Plus.j2 k ([]:List Int) 0 a1_0 l1_1 a0_0 l0_1) else (parquetref01_Num_Plus.j2 k ([]:List Int) 0 a0_0 l0_1 a1_0 l1_1)))
theorem parquetref01_Num_Plus.mono_l:∀ k,(∀ y0 y1 y2 y3 y4 y5 y6,LeO (parquetref01_Num_Plus.l0 k y0 y1 y2 y3 y4 y5 y6) (parquetref01_Num_Plus.l0 (k+1) y0 y1 y2 y3 y4 y5 y6))∧(∀ y0 y1 y2 y3 y4 y5 y6 y7,LeO (parquetref01_Num_Plus.j1 k y0 y1 y2 y3 y4 y5 y6 y7) (parquetref01_Num_Plus.j1 (k+1) y0 y1 y2 y3 y4 y5 y6 y7))∧(∀ y0 y1 y2 y3 y4 y5,LeO (parquetref01_Num_Plus.j2 k y0 y1 y2 y3 y4 y5) (parquetref01_Num_Plus.j2 (k+1) y0 y1 y2 y3 y4 y5))∧(∀ y0 y1 y2 y3 y4 y5 y6,LeO (parquetref01_Num_Plus.l1 k y0 y1 y2 y3 y4 y5 y6) (parquetref01_Num_Plus.l1 (k+1) y0 y1 y2 y3 y4 y5 y6))
 | 0=>⟨fun _ _ _ _ _ _ _ r h=>by simp [parquetref01_Num_Plus.l0] at h,fun _ _ _ _ _ _ _ _ r h=>by simp [parquetref01_Num_Plus.j1] at h,fun _ _ _ _ _ _ r h=>by simp [parquetref01_Num_Plus.j2] at h,fun _ _ _ _ _ _ _ r h=>by simp [parquetref01_Num_Plus.l1] at h⟩
 | k+1=>by
  obtain ⟨ih0,ih1,ih2,ih3⟩:=parquetref01_Num_Plus.mono_l k
  refine ⟨?_,?_,?_,?_⟩
  ·intro y0 y1 y2 y3 y4 y5 y6
   unfold parquetref01_Num_Plus.l0
   repeat' first
   | (with_reducible exact ih0 _ _ _ _ _ _ _)
   | (with_reducible exact ih1 _ _ _ _ _ _ _ _)
   | (with_reducible exact ih2 _ _ _ _ _ _)
   | (with_reducible exact ih3 _ _ _ _ _ _ _)
   | (with_reducible exact parquetref01_size.mono _ _ _)
   | (with_reducible exact parquetref01_trim.mono _ _ _)
   | (with_reducible exact LeO.refl _)
   | (with_reducible exact LeO.none _)
   | (with_reducible refine LeO.ite ?_ ?_)
   | (with_reducible refine LeO.bind ?_ (fun _=>?_))
   | exact ih0 _ _ _ _ _ _ _
   | exact ih1 _ _ _ _ _ _ _ _
   | exact ih2 _ _ _ _ _ _
   | exact ih3 _ _ _ _ _ _ _
   | exact parquetref01_size.mono _ _ _
   | exact parquetref01_trim.mono _ _ _
   | exact LeO.none _
   | refine LeO.ite ?_ ?_
   | refine LeO.bind ?_ (fun _=>?_)
  ·intro y0 y1 y2 y3 y4 y5 y6 y7
   unfold parquetref01_Num_Plus.j1
   repeat' first
   | (with_reducible exact ih0 _ _ _ _ _ _ _)
   | (with_reducible exact ih1 _ _ _ _ _ _ _ _)
   | (with_reducible exact ih2 _ _ _ _ _ _)
   | (with_reducible exact ih3 _ _ _ _ _ _ _)
   | (with_reducible exact parquetref01_size.mono _ _ _)
   | (with_reducible exact parquetref01_trim.mono _ _ _)
   | (with_reducible exact LeO.refl _)
   | (with_reducible exact LeO.none _)
   | (with_reducible refine LeO.ite ?_ ?_)
   | (with_reducible refine LeO.bind ?_ (fun _=>?_))
   | exact ih0 _ _ _ _ _ _ _
   | exact ih1 _ _ _ _ _ _ _ _
   | exact ih2 _ _ _ _ _ _
   | exact ih3 _ _ _ _ _ _ _
   | exact parquetref01_size.mono _ _ _
   | exact parquetref01_trim.mono _ _ _
   | exact LeO.none _
   | refine LeO.ite ?_ ?_
   | refine LeO.bind ?_ (fun _=>?_)
  ·intro y0 y1 y2 y3 y4 y5
   unfold parquetref01_Num_Plus.j2
   repeat' first
   | (with_reducible exact ih0 _ _ _ _ _ _ _)
   | (with_reducible exact ih1 _ _ _ _ _ _ _ _)
   | (with_reducible exact ih2 _ _ _ _ _ _)
   | (with_reducible exact ih3 _ _ _ _ _ _ _)
   | (with_reducible exact parquetref01_size.mono _ _ _)
   | (with_reducible exact parquetref01_trim.mono _ _ _)
   | (with_reducible exact LeO.refl _)
   | (with_reducible exact LeO.none _)
   | (with_reducible refine LeO.ite ?_ ?_)
   | (with_reducible refine LeO.bind ?_ (fun _=>?_))
   | exact ih0 _ _ _ _ _ _ _
   | exact ih1 _ _ _ _ _ _ _ _
   | exact ih2 _ _ _ _ _ _
   | exact ih3 _ _ _ _ _ _ _
   | exact parquetref01_size.mono _ _ _
   | exact parquetref01_trim.mono _ _ _
   | exact LeO.none _
   | refine LeO.ite ?_ ?_
   | refine LeO.bind ?_ (fun _=>?_)
  ·intro y0 y1 y2 y3 y4 y5 y6
   unfold parquetref01_Num_Plus.l1
   repeat' first
   | (with_reducible exact ih0 _ _ _ _ _ _ _)
   | (with_reducible exact ih1 _ _ _ _ _ _ _ _)
   | (with_reducible exact ih2 _ _ _ _ _ _)
   | (with_reducible exact ih3 _ _ _ _ _ _ _)
   | (with_reducible exact parquetref01_size.mono _ _ _)
   | (with_reducible exact parquetref01_trim.mono _ _ _)
   | (with_reducible exact LeO.refl _)
   | (with_reducible exact LeO.none _)
   | (with_reducible refine LeO.ite ?_ ?_)
   | (with_reducible refine LeO.bind ?_ (fun _=>?_))
   | exact ih0 _ _ _ _ _ _ _
   | exact ih1 _ _ _ _ _ _ _ _
   | exact ih2 _ _ _ _ _ _
   | exact ih3 _ _ _ _ _ _ _
   | exact parquetref01_size.mono _ _ _
   | exact parquetref01_trim.mono _ _ _
   | exact LeO.none _
   | refine LeO.ite ?_ ?_
   | refine LeO.bind ?_ (fun _=>?_)
theorem parquetref01_Num_Plus.mono:∀ a0 a1 a2 a3 k,LeO (parquetref01_Num_Plus.f k a0 a1 a2 a3) (parquetref01_Num_Plus.f (k+1) a0 a1 a2 a3):=by
 intro a0 a1 a2 a3 k
 obtain ⟨ih0,ih1,ih2,ih3⟩:=parquetref01_Num_Plus.mono_l k
 unfold parquetref01_Num_Plus.f
 repeat' first
   | (with_reducible exact ih0 _ _ _ _ _ _ _)
   | (with_reducible exact ih1 _ _ _ _ _ _ _ _)
   | (with_reducible exact ih2 _ _ _ _ _ _)
   | (with_reducible exact ih3 _ _ _ _ _ _ _)
   | (with_reducible exact parquetref01_size.mono _ _ _)
   | (with_reducible exact parquetref01_trim.mono _ _ _)
   | (with_reducible exact LeO.refl _)
   | (with_reducible exact LeO.none _)
   | (with_reducible refine LeO.ite ?_ ?_)
   | (with_reducible refine LeO.bind ?_ (fun _=>?_))
   | exact ih0 _ _ _ _ _ _ _
   | exact ih1 _ _ _ _ _ _ _ _
   | exact ih2 _ _ _ _ _ _
   | exact ih3 _ _ _ _ _ _ _
   | exact parquetref01_size.mono _ _ _
   | exact parquetref01_trim.mono _ _ _
   | exact LeO.none _
   | refine LeO.ite ?_ ?_
   | refine LeO.bind ?_ (fun _=>?_)
set_option maxHeartbeats 8000000 in
set_option maxRecDepth 100000 in
theorem parquetref01_Num_Plus.calls (k:Nat) (a0_0:Bool) (P0_1_:Nat→Prop) (A0_1:Option Addr) (c0_1:Nat) (l0_1:List Int) (a1_0:Bool) (P1_1_:Nat→Prop) (A1_1:Option Addr) (c1_1:Nat) (l1_1:List Int) (r1:Bool) (r2:List Int) (w:World) (hs0_1:Kd.V (Kd.int .i64) 3 w w.heap.size (fun k_=>P0_1_ k_) (.slice A0_1 l0_1.length c0_1) l0_1) (hs1_1:Kd.V (Kd.int .i64) 3 w w.heap.size (fun k_=>P1_1_ k_) (.slice A1_1 l1_1.length c1_1) l1_1) (h:parquetref01_Num_Plus.f k a0_0 l0_1 a1_0 l1_1=some (r1,r2)) :
  Calls Tryz.prog 45 #[.agg #[.bool a0_0,.slice A0_1 l0_1.length c0_1],.agg #[.bool a1_0,.slice A1_1 l1_1.length c1_1]] w fun e w'=>∃ v1_:Value,e = .returned (.agg #[.bool r1,v1_])∧Kd.V (Kd.int .i64) 3 w' w.heap.size (fun k_=>((P0_1_ k_∨P1_1_ k_)∨w.heap.size≤k_)) v1_ r2∧Below w.heap.size w w':=by
 have hu38:=Tryz.underlying71
 have HO0_1:=Aside0.mk (show Kd.V (Kd.int .i64) 3 w w.heap.size (fun k_=>((P0_1_ k_∨P1_1_ k_)∨w.heap.size≤k_)) (.slice A0_1 l0_1.length c0_1) l0_1 from Kd.V_mono hs0_1 (fun k_ hk => .inl (.inl hk)))
 have HO1_1:=Aside0.mk (show Kd.V (Kd.int .i64) 3 w w.heap.size (fun k_=>((P0_1_ k_∨P1_1_ k_)∨w.heap.size≤k_)) (.slice A1_1 l1_1.length c1_1) l1_1 from Kd.V_mono hs1_1 (fun k_ hk => .inl (.inr hk)))
 have HB:=Aside0.mk (Below.refl w.heap.size w)
 have H:(if (a0_0==a1_0)=true then (parquetref01_Num_Plus.l0 k ([]:List Int) 0 0 a0_0 l0_1 a1_0 l1_1) else ((parquetref01_size.f k l0_1 l1_1).bind fun t304=>(if t304 < 0 then (parquetref01_Num_Plus.j2 k ([]:List Int) 0 a1_0 l1_1 a0_0 l0_1) else (parquetref01_Num_Plus.j2 k ([]:List Int) 0 a0_0 l0_1 a1_0 l1_1))))=some (r1,r2):=h
 clear h
 by_cases c3:(a0_0==a1_0)=true
 ·rw [if_pos c3] at H
  have c3b0:(a0_0==a1_0)=true:=c3
  (try (have c3b1:decide (a0_0=a1_0)=true:=by simpa using c3))
  (try (have c3b2:(a0_0==a1_0)=true:=by simpa using c3))
  clear c3
  have H':=Aside0.mk H
  clear H
  go_enter Tryz.func45,Tryz.ntmps45
  go_wp2_with (first|((with_reducible refine gate_dst (N:=2) rfl ?_);(try (refine gate_guard (by rfl) ?_;dsimp only));refine box_event ?hg (N:=2) ?hd (cs:=#[.bool a0_0,.slice A0_1 l0_1.length c0_1]) (t:=71) ?hr ?_;(case hd=>rfl);(case hg=>rfl);(case hr=>first|(go_simp;done)|(go_simp;rfl));intro gb290 hg w4 hbox hb;have n0_:=Aside0.mk (Kd.V_below (Kd.V_elderB (by (with_reducible repeat (first|apply Kd.V_alloc|apply Kd.V_drewN|apply Kd.V_drew));exact HO0_1.out) gb290 (Nat.le_of_eq hg.symm)) hb);have n1_:=Aside0.mk (Kd.V_below (Kd.V_elderB (by (with_reducible repeat (first|apply Kd.V_alloc|apply Kd.V_drewN|apply Kd.V_drew));exact HO1_1.out) gb290 (Nat.le_of_eq hg.symm)) hb);have n2_:=Aside0.mk (below_step (by repeat (first|(with_reducible first|exact HB.out|apply qa|apply qn|apply qd)|exact HB.out)) hb);have n3_:=Aside0.mk (hbox);have n4_:=bgw HB hg;have n5_:=bgw HB hg;clear HO0_1;clear HO1_1;clear HB;have HO0_1:=n0_;have HO1_1:=n1_;have HB:=n2_;have BK290:=n3_;have GW290:=n4_;have GE290:=n5_;clear n0_ n1_ n2_ n3_ n4_ n5_;clear hb hbox hg)|((with_reducible refine gate_dst (N:=3) rfl ?_);(try (refine gate_guard (by rfl) ?_;dsimp only));refine box_event ?hg (N:=3) ?hd (cs:=#[.bool a1_0,.slice A1_1 l1_1.length c1_1]) (t:=71) ?hr ?_;(case hd=>rfl);(case hg=>rfl);(case hr=>first|(go_simp;done)|(go_simp;rfl));intro gb291 hg w5 hbox hb;have n0_:=Aside0.mk (Kd.V_below (Kd.V_elderB (by (with_reducible repeat (first|apply Kd.V_alloc|apply Kd.V_drewN|apply Kd.V_drew));exact HO0_1.out) gb291 (Nat.le_of_eq hg.symm)) hb);have n1_:=Aside0.mk (Kd.V_below (Kd.V_elderB (by (with_reducible repeat (first|apply Kd.V_alloc|apply Kd.V_drewN|apply Kd.V_drew));exact HO1_1.out) gb291 (Nat.le_of_eq hg.symm)) hb);have n2_:=bb BK290 hb;have n3_:=Aside0.mk (below_step (by repeat (first|(with_reducible first|exact HB.out|apply qa|apply qn|apply qd|refine qs ?_ GE290.out)|exact HB.out)) hb);have n4_:=Aside0.mk (hbox);have n5_:=bgw HB hg;have n6_:=bgw HB hg;have n7_:=bnl BK290 hg;have n8_:=bng BK290 hg;clear HO0_1;clear HO1_1;clear BK290;clear HB;have HO0_1:=n0_;have HO1_1:=n1_;have BK290:=n2_;have HB:=n3_;have BK291:=n4_;have GW291:=n5_;have GE291:=n6_;have NB290_291:=n7_;have NB291_290:=n8_;clear n0_ n1_ n2_ n3_ n4_ n5_ n6_ n7_ n8_;clear hb hbox hg)|((with_reducible refine gate_dst (N:=4) rfl ?_);(try (refine gate_guard (by rfl) ?_;dsimp only));refine box_event ?hg (N:=4) ?hd (cs:=#[.bool false,.slice none 0 0]) (t:=71) ?hr ?_;(case hd=>rfl);(case hg=>rfl);(case hr=>first|(go_simp;done)|(go_simp;rfl));intro gb292 hg w6 hbox hb;have n0_:=Aside0.mk (Kd.V_below (Kd.V_elderB (by (with_reducible repeat (first|apply Kd.V_alloc|apply Kd.V_drewN|apply Kd.V_drew));exact HO0_1.out) gb292 (Nat.le_of_eq hg.symm)) hb);have n1_:=Aside0.mk (Kd.V_below (Kd.V_elderB (by (with_reducible repeat (first|apply Kd.V_alloc|apply Kd.V_drewN|apply Kd.V_drew));exact HO1_1.out) gb292 (Nat.le_of_eq hg.symm)) hb);have n2_:=bb BK290 hb;have n3_:=bb BK291 hb;have n4_:=Aside0.mk (below_step (by repeat (first|(with_reducible first|exact HB.out|apply qa|apply qn|apply qd|refine qs ?_ GE290.out|refine qs ?_ GE291.out)|exact HB.out)) hb);have n5_:=Aside0.mk (hbox);have n6_:=bgw HB hg;have n7_:=bgw HB hg;have n8_:=bnl BK290 hg;have n9_:=bng BK290 hg;have n10_:=bnl BK291 hg;have n11_:=bng BK291 hg;clear HO0_1;clear HO1_1;clear BK290;clear BK291;clear HB;have HO0_1:=n0_;have HO1_1:=n1_;have BK290:=n2_;have BK291:=n3_;have HB:=n4_;have BK292:=n5_;have GW292:=n6_;have GE292:=n7_;have NB290_292:=n8_;have NB292_290:=n9_;have NB291_292:=n10_;have NB292_291:=n11_;clear n0_ n1_ n2_ n3_ n4_ n5_ n6_ n7_ n8_ n9_ n10_ n11_;clear hb hbox hg;have hnb7:=NB290_291.out;have hnc7:=NB291_290.out;have hnb8:=NB290_292.out;have hnc8:=NB292_290.out;obtain ⟨hcz9_0,hcz9_1⟩:=cl2 BK290.out;obtain ⟨hfz9_0,hfz9_1⟩:=fr2 BK290.out;have hnb10:=NB291_292.out;have hnc10:=NB292_291.out;obtain ⟨hcz11_0,hcz11_1⟩:=cl2 BK291.out;obtain ⟨hfz11_0,hfz11_1⟩:=fr2 BK291.out))
  repeat (go_quiet (fail);try go_wp2_with (fail))
  go_loopg [5,6,7] k (fun kq v5 v6 v7 w'=>∃ (x5_1:List Int) (x6_1:Int) (x7_1:Int),v6 = .int .i64 x6_1∧v7 = .int .i64 x7_1∧Aside0 (parquetref01_Num_Plus.l0 kq x5_1 x6_1 x7_1 a0_0 l0_1 a1_0 l1_1=some (r1,r2))∧Aside0 (kq≤k)∧Aside0 (Kd.R (Kd.int .i64) 3 w' w.heap.size (fun k_=>(w.heap.size≤k_)) v5 x5_1)∧Aside0 (Kd.V (Kd.int .i64) 3 w' w.heap.size (fun k_=>((P0_1_ k_∨P1_1_ k_)∨w.heap.size≤k_)∧some k_≠(v5:Value).ownBlock∧k_≠gb290∧k_≠gb291∧k_≠gb292) (.slice A0_1 l0_1.length c0_1) l0_1)∧Aside0 (Kd.V (Kd.int .i64) 3 w' w.heap.size (fun k_=>((P0_1_ k_∨P1_1_ k_)∨w.heap.size≤k_)∧some k_≠(v5:Value).ownBlock∧k_≠gb290∧k_≠gb291∧k_≠gb292) (.slice A1_1 l1_1.length c1_1) l1_1)∧Aside0 (w'.heap[gb290]?=some (.cells #[.bool a0_0,(.slice A0_1 l0_1.length c0_1)] 71 (0,0)))∧Aside0 (w'.heap[gb291]?=some (.cells #[.bool a1_0,(.slice A1_1 l1_1.length c1_1)] 71 (0,0)))∧Aside0 (w'.heap[gb292]?=some (.cells #[.bool false,(.slice none 0 0)] 71 (0,0)))∧Aside0 (Below w.heap.size w w'))
  case atStart=>exact ⟨(([]:List Int)),(0),(0),(by first|rfl|(simp;done)|(simp [*];done)),(by first|rfl|(simp;done)|(simp [*];done)),H',⟨Nat.le_refl _⟩,⟨by first|exact Kd.R_nil _ _ _ _ _|exact Kd.N_nil _ _ _ _ _|exact Kd.V_nil _ _ _ _ _|exact Kd.Q_nil _ _ _ _ _|exact Kd.S_nil _ _ _ _ _⟩,⟨by (with_reducible repeat (first|apply Kd.V_alloc|apply Kd.V_drewN|apply Kd.V_drew));exact Kd.V_mono HO0_1.out (fun _ hk=>⟨hk.1.1.1,⟨(by simp [Value.ownBlock]),⟨hk.1.1.2,⟨hk.1.2,hk.2⟩⟩⟩⟩)⟩,⟨by (with_reducible repeat (first|apply Kd.V_alloc|apply Kd.V_drewN|apply Kd.V_drew));exact Kd.V_mono HO1_1.out (fun _ hk=>⟨hk.1.1.1,⟨(by simp [Value.ownBlock]),⟨hk.1.1.2,⟨hk.1.2,hk.2⟩⟩⟩⟩)⟩,⟨by (with_reducible repeat (first|refine cn ?_ _|refine cd ?_|refine ca ?_ _));exact BK290.out⟩,⟨by (with_reducible repeat (first|refine cn ?_ _|refine cd ?_|refine ca ?_ _));exact BK291.out⟩,⟨by (with_reducible repeat (first|refine cn ?_ _|refine cd ?_|refine ca ?_ _));exact BK292.out⟩,⟨by repeat (first|(with_reducible first|exact HB.out|apply qa|apply qn|apply qd|refine qs ?_ GE290.out|refine qs ?_ GE291.out|refine qs ?_ GE292.out)|exact HB.out)⟩⟩
  case round =>
   clear H'
   try clear c1
   try clear p2
   try clear c3
   try clear c3b0
   try clear c3b1
   try clear c3b2
   try clear c7
   try clear c8
   try clear c10
   try clear hcz11_0
   try clear hcz11_1
   try clear hcz9_0
   try clear hcz9_1
   try clear hfz11_0
   try clear hfz11_1
   try clear hfz9_0
   try clear hfz9_1
   obtain ⟨x5_1,x6_1,x7_1,rfl,rfl,HA,HK1,HO_5,HO_291001,HO_292001,BK290,BK291,BK292,HB⟩:=hrel
   cases gk with
   | zero=>exact absurd HA.out (by simp [parquetref01_Num_Plus.l0])
   | succ k1 =>
    have H:=HA.out
    clear HA
    simp only [parquetref01_Num_Plus.l0] at H
    have HC12:=Aside0.mk H
    clear H
    go_upto_region 5 with (fail)
    repeat (go_quiet (fail);go_upto_region 5 with (fail))
    go_cut [33] (fun v33 wc=>∃ (kq:Nat) (x33_11:Bool),v33 = .bool x33_11∧Aside0 (parquetref01_Num_Plus.j1 kq x5_1 x6_1 x7_1 x33_11 a0_0 l0_1 a1_0 l1_1=some (r1,r2))∧Aside0 (kq≤k1)∧Aside0 (Kd.R (Kd.int .i64) 3 wc w.heap.size (fun k_=>(w.heap.size≤k_)) u5 x5_1)∧Aside0 (Kd.V (Kd.int .i64) 3 wc w.heap.size (fun k_=>((P0_1_ k_∨P1_1_ k_)∨w.heap.size≤k_)∧some k_≠(u5:Value).ownBlock∧k_≠gb290∧k_≠gb291∧k_≠gb292) (.slice A0_1 l0_1.length c0_1) l0_1)∧Aside0 (Kd.V (Kd.int .i64) 3 wc w.heap.size (fun k_=>((P0_1_ k_∨P1_1_ k_)∨w.heap.size≤k_)∧some k_≠(u5:Value).ownBlock∧k_≠gb290∧k_≠gb291∧k_≠gb292) (.slice A1_1 l1_1.length c1_1) l1_1)∧Aside0 (wc.heap[gb290]?=some (.cells #[.bool a0_0,(.slice A0_1 l0_1.length c0_1)] 71 (0,0)))∧Aside0 (wc.heap[gb291]?=some (.cells #[.bool a1_0,(.slice A1_1 l1_1.length c1_1)] 71 (0,0)))∧Aside0 (wc.heap[gb292]?=some (.cells #[.bool false,(.slice none 0 0)] 71 (0,0)))∧Aside0 (Below w.heap.size w wc))
    case first =>
     have H:=HC12.out
     clear HC12
     by_cases c13:x7_1 < (l0_1.length:Int)
     ·rw [if_pos c13] at H
      have c13b0:decide (x7_1 < (l0_1.length:Int))=true:=decide_eq_true c13
      clear c13
      (first|rw [c13b0]|(simp only [i64_w,i32_w];rw [c13b0])|skip)
      have H':=Aside0.mk H
      clear H
      have hnb14:=NB290_291.out
      have hnc14:=NB291_290.out
      have hnb15:=NB290_292.out
      have hnc15:=NB292_290.out
      obtain ⟨hcz16_0,hcz16_1⟩:=cl2 BK290.out
      obtain ⟨hfz16_0,hfz16_1⟩:=fr2 BK290.out
      go_wp2
      repeat (go_quiet (fail);try go_wp2)
      go_meet
      case rel=>exact ⟨_,(true),(by first|rfl|(simp;done)|(simp [*];done)),H',⟨by have:=HK1.out;first|omega|exact Nat.le_refl _⟩,⟨by (with_reducible repeat (first|apply Kd.R_alloc|apply Kd.R_drewN|apply Kd.R_drew));exact HO_5.out⟩,⟨by (with_reducible repeat (first|apply Kd.V_alloc|apply Kd.V_drewN|apply Kd.V_drew));exact HO_291001.out⟩,⟨by (with_reducible repeat (first|apply Kd.V_alloc|apply Kd.V_drewN|apply Kd.V_drew));exact HO_292001.out⟩,⟨by (with_reducible repeat (first|refine cn ?_ _|refine cd ?_|refine ca ?_ _));exact BK290.out⟩,⟨by (with_reducible repeat (first|refine cn ?_ _|refine cd ?_|refine ca ?_ _));exact BK291.out⟩,⟨by (with_reducible repeat (first|refine cn ?_ _|refine cd ?_|refine ca ?_ _));exact BK292.out⟩,⟨by repeat (first|(with_reducible first|exact HB.out|apply qa|apply qn|apply qd|refine qs ?_ GE290.out|refine qs ?_ GE291.out|refine qs ?_ GE292.out)|exact HB.out)⟩⟩
     rw [if_neg c13] at H
     have c13b0:decide (x7_1 < (l0_1.length:Int))=false:=decide_eq_false c13
     clear c13
     (first|rw [c13b0]|(simp only [i64_w,i32_w];rw [c13b0])|skip)
     by_cases c17:x7_1 < (l1_1.length:Int)
     ·rw [if_pos c17] at H
      have c17b0:decide (x7_1 < (l1_1.length:Int))=true:=decide_eq_true c17
      clear c17
      have H':=Aside0.mk H
      clear H
      have hnb18:=NB290_291.out
      have hnc18:=NB291_290.out
      have hnb19:=NB290_292.out
      have hnc19:=NB292_290.out
      obtain ⟨hcz20_0,hcz20_1⟩:=cl2 BK290.out
      obtain ⟨hfz20_0,hfz20_1⟩:=fr2 BK290.out
      have hnb21:=NB291_292.out
      have hnc21:=NB292_291.out
      obtain ⟨hcz22_0,hcz22_1⟩:=cl2 BK291.out
      obtain ⟨hfz22_0,hfz22_1⟩:=fr2 BK291.out
      go_wp2
      repeat (go_quiet (fail);try go_wp2)
      go_meet
      case rel=>exact ⟨_,(true),(by first|rfl|(simp;done)|(simp [*];done)),H',⟨by have:=HK1.out;first|omega|exact Nat.le_refl _⟩,⟨by (with_reducible repeat (first|apply Kd.R_alloc|apply Kd.R_drewN|apply Kd.R_drew));exact HO_5.out⟩,⟨by (with_reducible repeat (first|apply Kd.V_alloc|apply Kd.V_drewN|apply Kd.V_drew));exact HO_291001.out⟩,⟨by (with_reducible repeat (first|apply Kd.V_alloc|apply Kd.V_drewN|apply Kd.V_drew));exact HO_292001.out⟩,⟨by (with_reducible repeat (first|refine cn ?_ _|refine cd ?_|refine ca ?_ _));exact BK290.out⟩,⟨by (with_reducible repeat (first|refine cn ?_ _|refine cd ?_|refine ca ?_ _));exact BK291.out⟩,⟨by (with_reducible repeat (first|refine cn ?_ _|refine cd ?_|refine ca ?_ _));exact BK292.out⟩,⟨by repeat (first|(with_reducible first|exact HB.out|apply qa|apply qn|apply qd|refine qs ?_ GE290.out|refine qs ?_ GE291.out|refine qs ?_ GE292.out)|exact HB.out)⟩⟩
     rw [if_neg c17] at H
     have c17b0:decide (x7_1 < (l1_1.length:Int))=false:=decide_eq_false c17
     clear c17
     have H':=Aside0.mk H
     clear H
     have hnb23:=NB290_291.out
     have hnc23:=NB291_290.out
     have hnb24:=NB290_292.out
     have hnc24:=NB292_290.out
     obtain ⟨hcz25_0,hcz25_1⟩:=cl2 BK290.out
     obtain ⟨hfz25_0,hfz25_1⟩:=fr2 BK290.out
     have hnb26:=NB291_292.out
     have hnc26:=NB292_291.out
     obtain ⟨hcz27_0,hcz27_1⟩:=cl2 BK291.out
     obtain ⟨hfz27_0,hfz27_1⟩:=fr2 BK291.out
     go_wp2
     repeat (go_quiet (fail);try go_wp2)
     go_meet
     case rel=>exact ⟨_,(decide (x6_1 > 0)),(by first|rfl|(simp;done)|(simp [*];done)),H',⟨by have:=HK1.out;first|omega|exact Nat.le_refl _⟩,⟨by (with_reducible repeat (first|apply Kd.R_alloc|apply Kd.R_drewN|apply Kd.R_drew));exact HO_5.out⟩,⟨by (with_reducible repeat (first|apply Kd.V_alloc|apply Kd.V_drewN|apply Kd.V_drew));exact HO_291001.out⟩,⟨by (with_reducible repeat (first|apply Kd.V_alloc|apply Kd.V_drewN|apply Kd.V_drew));exact HO_292001.out⟩,⟨by (with_reducible repeat (first|refine cn ?_ _|refine cd ?_|refine ca ?_ _));exact BK290.out⟩,⟨by (with_reducible repeat (first|refine cn ?_ _|refine cd ?_|refine ca ?_ _));exact BK291.out⟩,⟨by (with_reducible repeat (first|refine cn ?_ _|refine cd ?_|refine ca ?_ _));exact BK292.out⟩,⟨by repeat (first|(with_reducible first|exact HB.out|apply qa|apply qn|apply qd|refine qs ?_ GE290.out|refine qs ?_ GE291.out|refine qs ?_ GE292.out)|exact HB.out)⟩⟩
    case rest =>
     clear HC12
     try clear c1
     try clear c2
     try clear p2
     try clear c3
     try clear c3b0
     try clear c3b1
     try clear c3b2
     try clear c7
     try clear c8
     try clear c10
     try clear c13
     try clear c13b0
     try clear c14
     try clear c15
     try clear c17
     try clear c17b0
     try clear c18
     try clear c19
     try clear c21
     try clear c23
     try clear c24
     try clear c26
     try clear hcz11_0
     try clear hcz11_1
     try clear hcz16_0
     try clear hcz16_1
     try clear hcz20_0
     try clear hcz20_1
     try clear hcz22_0
     try clear hcz22_1
     try clear hcz25_0
     try clear hcz25_1
     try clear hcz27_0
     try clear hcz27_1
     try clear hcz9_0
     try clear hcz9_1
     try clear hfz11_0
     try clear hfz11_1
     try clear hfz16_0
     try clear hfz16_1
     try clear hfz20_0
     try clear hfz20_1
     try clear hfz22_0
     try clear hfz22_1
     try clear hfz25_0
     try clear hfz25_1
     try clear hfz27_0
     try clear hfz27_1
     try clear hfz9_0
     try clear hfz9_1
     try clear p2
     obtain ⟨kq,x33_11,rfl,HA,HJ11,HO_5,HO_291001,HO_292001,BK290,BK291,BK292,HB⟩:=hcut
     cases kq with
     | zero=>exact absurd HA.out (by simp [parquetref01_Num_Plus.j1])
     | succ kj11 =>
      have H:=HA.out
      clear HA
      simp only [parquetref01_Num_Plus.j1] at H
      by_cases c28:x33_11=true
      rotate_left
      ·replace c28:=Bool.eq_false_iff.mpr c28
       subst c28
       have H1:((parquetref01_trim.f kj11 a0_0 x5_1).bind fun bt298=>(some (bt298.1,bt298.2)))=some (r1,r2):=by rw [if_neg (show ¬ (false=true) by decide)] at H;exact H
       clear H
       have H:=H1
       clear H1
       replace H:=Option.bind_eq_some_iff.mp H
       obtain ⟨⟨t298,t299⟩,A380,H⟩:=H
       replace H:(some (t298,t299))=some (r1,r2):=H
       have A38:=Aside0.mk A380
       clear A380
       simp only [Option.some.injEq,Prod.mk.injEq] at H
       obtain ⟨rfl,rfl⟩:=H
       have hnb39:=NB290_291.out
       have hnc39:=NB291_290.out
       have hnb40:=NB290_292.out
       have hnc40:=NB292_290.out
       obtain ⟨hcz41_0,hcz41_1⟩:=cl2 BK290.out
       obtain ⟨hfz41_0,hfz41_1⟩:=fr2 BK290.out
       obtain ⟨Ao42,co42,eo42⟩:=Kd.R_slice HO_5.out
       subst eo42
       go_wp2_with (first|(go_at_call 84;(with_reducible refine (parquetref01_trim.calls kj11 a0_0 (fun k_=>some k_=(.slice Ao42 x5_1.length co42:Value).ownBlock) _ _ x5_1 t298 t299 _ ?side1 A38.out).mono ?_);(case side1=>exact Kd.R_V (Kd.R_tight rfl (Kd.R_types (Kd.R_types (Kd.R_types (HO_5.out) BK290.out (by decide)) BK291.out (by decide)) BK292.out (by decide))));rintro e w43 ⟨v300,rfl,ho0,hb⟩;have n0_:=Aside0.mk (Kd.R_below (by (with_reducible repeat (first|apply Kd.R_alloc|apply Kd.R_drewN|apply Kd.R_drew));exact HO_5.out) hb);have n1_:=Aside0.mk (Kd.V_below (by (with_reducible repeat (first|apply Kd.V_alloc|apply Kd.V_drewN|apply Kd.V_drew));exact HO_291001.out) hb);have n2_:=Aside0.mk (Kd.V_below (by (with_reducible repeat (first|apply Kd.V_alloc|apply Kd.V_drewN|apply Kd.V_drew));exact HO_292001.out) hb);have n3_:=Aside0.mk (Kd.V_lower (Kd.V_mono (ok':=fun k_=>((P0_1_ k_∨P1_1_ k_)∨w.heap.size≤k_)∧k_≠gb290∧k_≠gb291∧k_≠gb292) ho0 (fun k_ hk_=>⟨Or.elim hk_ (fun hs_=>(.inr (((Kd.R_types (Kd.R_types (Kd.R_types (HO_5.out) BK290.out (by decide)) BK291.out (by decide)) BK292.out (by decide)).1 k_ hs_.symm).1.1.1))) (fun hn_=>(.inr (Nat.le_trans (below_size (by repeat (first|(with_reducible first|exact HB.out|apply qa|apply qn|apply qd|refine qs ?_ GE290.out|refine qs ?_ GE291.out|refine qs ?_ GE292.out)|exact HB.out))) hn_))),Or.elim hk_ (fun hs_=>((Kd.R_types (Kd.R_types (Kd.R_types (HO_5.out) BK290.out (by decide)) BK291.out (by decide)) BK292.out (by decide)).1 k_ hs_.symm).1.1.2) (fun hn_=>(Kd.freshB (g:=gb290) (o := .cells #[.bool a0_0,.slice A0_1 l0_1.length c0_1] 71 (0,0)) (by exact lb BK290.out) k_ hn_)),Or.elim hk_ (fun hs_=>((Kd.R_types (Kd.R_types (Kd.R_types (HO_5.out) BK290.out (by decide)) BK291.out (by decide)) BK292.out (by decide)).1 k_ hs_.symm).1.2) (fun hn_=>(Kd.freshB (g:=gb291) (o := .cells #[.bool a1_0,.slice A1_1 l1_1.length c1_1] 71 (0,0)) (by exact lb BK291.out) k_ hn_)),Or.elim hk_ (fun hs_=>((Kd.R_types (Kd.R_types (Kd.R_types (HO_5.out) BK290.out (by decide)) BK291.out (by decide)) BK292.out (by decide)).1 k_ hs_.symm).2) (fun hn_=>(Kd.freshB (g:=gb292) (o := .cells #[.bool false,.slice none 0 0] 71 (0,0)) (by exact lb BK292.out) k_ hn_))⟩)) (below_size (by repeat (first|(with_reducible first|exact HB.out|apply qa|apply qn|apply qd|refine qs ?_ GE290.out|refine qs ?_ GE291.out|refine qs ?_ GE292.out)|exact HB.out))));have n4_:=bb BK290 hb;have n5_:=bb BK291 hb;have n6_:=bb BK292 hb;have n7_:=Aside0.mk (below_step (by repeat (first|(with_reducible first|exact HB.out|apply qa|apply qn|apply qd|refine qs ?_ GE290.out|refine qs ?_ GE291.out|refine qs ?_ GE292.out)|exact HB.out)) hb);clear HO_5;clear HO_291001;clear HO_292001;clear BK290;clear BK291;clear BK292;clear HB;have HO_5:=n0_;have HO_291001:=n1_;have HO_292001:=n2_;have HO301:=n3_;have BK290:=n4_;have BK291:=n5_;have BK292:=n6_;have HB:=n7_;clear n0_ n1_ n2_ n3_ n4_ n5_ n6_ n7_;(try clear hb);(try clear hb2);(try clear hk);(try clear hi);(try clear ho0);have hnb44:=NB292_291.out;have hnc44:=NB291_292.out;obtain ⟨hcz45_0,hcz45_1⟩:=cl2 BK292.out;obtain ⟨hfz45_0,hfz45_1⟩:=fr2 BK292.out;obtain ⟨Ao46,co46,eo46⟩:=Kd.V_slice HO301.out;subst eo46))
       repeat (go_quiet (fail);try go_wp2_with (fail))
       refine bodyPost_ret (results_cell_row rfl _ _ gb292 71 #[.bool t298,.slice Ao46 t299.length co46] (0,0) _ rfl (by (with_reducible repeat (first|refine cn ?_ _|refine cd ?_|refine ca ?_ _));refine blk_put (cs:=#[.bool t298,.slice none 0 0]) ?_ 1 _ rfl;(with_reducible repeat (first|refine cn ?_ _|refine cd ?_|refine ca ?_ _));refine blk_put (cs:=#[.bool false,.slice none 0 0]) ?_ 0 _ rfl;(with_reducible repeat (first|refine cn ?_ _|refine cd ?_|refine ca ?_ _));exact BK292.out) Tryz.underlying71 rfl (by kernel_rfl)) rfl ?_
       exact ⟨_,by first|rfl|(simp [errW_none,errW_some]<;>rfl)|(simp [*,errW_none,errW_some]<;>rfl),by (with_reducible repeat (first|apply Kd.V_alloc|apply Kd.V_drewN|apply Kd.V_drew));exact Kd.V_mono (Kd.V_far (p:=⟨gb292,1,none⟩) (Kd.V_far (p:=⟨gb292,0,none⟩) (Kd.V_mono HO301.out (fun k_ hk=>(⟨hk,hk.2.2.2⟩:_∧k_≠gb292))) (fun _ hk=>hk.2) (.bool t298)) (fun _ hk=>hk.2) (.slice Ao46 t299.length co46)) (fun _ hk=>hk.1.1),by repeat (first|(with_reducible first|exact HB.out|apply qa|apply qn|apply qd|refine qs ?_ GE290.out|refine qs ?_ GE291.out|refine qs ?_ GE292.out)|exact HB.out)⟩
      subst c28
      have H1:((parquetref01_digit.f l0_1 x7_1).bind fun t293=>((parquetref01_digit.f l1_1 x7_1).bind fun t294=>(if x5_1.length < 17592186044416 then (parquetref01_Num_Plus.l0 kj11 (x5_1++[Int.tmod (wrap64 ((wrap64 (t293+t294))+x6_1)) 65536]) (wrap64 (Int.tdiv (wrap64 ((wrap64 (t293+t294))+x6_1)) 65536)) (wrap64 (x7_1+1)) a0_0 l0_1 a1_0 l1_1) else (none))))=some (r1,r2):=by rw [if_pos rfl] at H;exact H
      clear H
      have H:=H1
      clear H1
      replace H:=Option.bind_eq_some_iff.mp H
      obtain ⟨t293,A290,H⟩:=H
      replace H:((parquetref01_digit.f l1_1 x7_1).bind fun t294=>(if x5_1.length < 17592186044416 then (parquetref01_Num_Plus.l0 kj11 (x5_1++[Int.tmod (wrap64 ((wrap64 (t293+t294))+x6_1)) 65536]) (wrap64 (Int.tdiv (wrap64 ((wrap64 (t293+t294))+x6_1)) 65536)) (wrap64 (x7_1+1)) a0_0 l0_1 a1_0 l1_1) else (none)))=some (r1,r2):=H
      have A29:=Aside0.mk A290
      clear A290
      replace H:=Option.bind_eq_some_iff.mp H
      obtain ⟨t294,A300,H⟩:=H
      replace H:(if x5_1.length < 17592186044416 then (parquetref01_Num_Plus.l0 kj11 (x5_1++[Int.tmod (wrap64 ((wrap64 (t293+t294))+x6_1)) 65536]) (wrap64 (Int.tdiv (wrap64 ((wrap64 (t293+t294))+x6_1)) 65536)) (wrap64 (x7_1+1)) a0_0 l0_1 a1_0 l1_1) else (none))=some (r1,r2):=H
      have A30:=Aside0.mk A300
      clear A300
      by_cases c31:x5_1.length < 17592186044416
      rotate_left
      ·rw [if_neg c31] at H
       exact absurd H (by simp)
      rw [if_pos c31] at H
      have LMc31:=Aside0.mk c31
      clear c31
      obtain ⟨y295,hy295⟩:∃ y_:List Int,y_=(x5_1++[Int.tmod (wrap64 ((wrap64 (t293+t294))+x6_1)) 65536]):=⟨_,rfl⟩
      replace H:(parquetref01_Num_Plus.l0 kj11 y295 (wrap64 (Int.tdiv (wrap64 ((wrap64 (t293+t294))+x6_1)) 65536)) (wrap64 (x7_1+1)) a0_0 l0_1 a1_0 l1_1)=some (r1,r2):=by first|(rw [hy295];with_reducible exact H)|(have H2_:=(Option.bind_some _ _).symm.trans H;rw [hy295];with_reducible exact H2_)|(have H2_:=(Option.bind_some _ _).symm.trans H;with_reducible exact H2_)|with_reducible exact H|(rw [hy295];exact H)|exact H
      have Ny295:=Aside0.mk hy295
      clear hy295
      have H':=Aside0.mk H
      clear H
      have hnb32:=NB290_291.out
      have hnc32:=NB291_290.out
      have hnb33:=NB290_292.out
      have hnc33:=NB292_290.out
      obtain ⟨hcz34_0,hcz34_1⟩:=cl2 BK290.out
      obtain ⟨hfz34_0,hfz34_1⟩:=fr2 BK290.out
      go_wp2_with (fail)
      repeat (go_quiet (first|(go_at_call 83;(with_reducible refine (parquetref01_digit.calls _ _ l0_1 x7_1 t293 _ ?side1 ?side2 A29.out).mono ?_);(case side1=>repeat (first|exact (Kd.V_reads' HO_291001.out).2.2|(with_reducible refine Kd.C_alloc ?_ _)|(with_reducible refine Kd.C_drewN ?_ _)|(with_reducible refine Kd.C_drew ?_)));(case side2=>exact (Kd.V_reads' HO_291001.out).2.1);rintro e w' ⟨rfl,⟨nd,rfl⟩⟩;(try first|exact ⟨rfl,_,World.drewN_drewN _ _ _⟩|exact ⟨rfl,_,Eq.trans (World.drewN_drewN _ _ _) (congrArg (World.drewN _) (Nat.add_assoc _ _ _))⟩);have hnb35:=NB291_292.out;have hnc35:=NB292_291.out;obtain ⟨hcz36_0,hcz36_1⟩:=cl2 BK291.out;obtain ⟨hfz36_0,hfz36_1⟩:=fr2 BK291.out)|(go_at_call 83;(with_reducible refine (parquetref01_digit.calls _ _ l1_1 x7_1 t294 _ ?side1 ?side2 A30.out).mono ?_);(case side1=>repeat (first|exact (Kd.V_reads' HO_292001.out).2.2|(with_reducible refine Kd.C_alloc ?_ _)|(with_reducible refine Kd.C_drewN ?_ _)|(with_reducible refine Kd.C_drew ?_)));(case side2=>exact (Kd.V_reads' HO_292001.out).2.1);rintro e w' ⟨rfl,⟨nd,rfl⟩⟩;(try first|exact ⟨rfl,_,World.drewN_drewN _ _ _⟩|exact ⟨rfl,_,Eq.trans (World.drewN_drewN _ _ _) (congrArg (World.drewN _) (Nat.add_assoc _ _ _))⟩)));try go_wp2_with (first|((with_reducible refine gate_builtin (b := .append) (xs:=#[.tmp 47,.tmp 50]) rfl ?_);(try (refine gate_guard (by rfl) ?_;dsimp only));at_builtin;refine Kd.R_append (Kd.int .i64) (w0:=w) w.heap.size rfl (.tmp 47) (.tmp 50) 34 3 (.int .i64 0) 8 rfl Tryz.underlying34 info3 rfl (by decide) (by omega) u5 x5_1 (Int.tmod (wrap64 ((wrap64 (t293+t294))+x6_1)) 65536) [.int .i64 (Int.tmod (wrap64 ((wrap64 (t293+t294))+x6_1)) 65536)] (fun k_=>(w.heap.size≤k_)) (fun _=>False) rfl rfl ?aP (fun _ hk=>hk.elim) ?aF ?aO ?aB ?aS ?aL ?_;(case aP=>exact rfl);(case aB=>exact (by repeat (first|(with_reducible first|exact HB.out|apply qa|apply qn|apply qd|refine qs ?_ GE290.out|refine qs ?_ GE291.out|refine qs ?_ GE292.out)|exact HB.out)));(case aF=>exact (fun k_ hk=>(Nat.le_trans (below_size (by repeat (first|(with_reducible first|exact HB.out|apply qa|apply qn|apply qd|refine qs ?_ GE290.out|refine qs ?_ GE291.out|refine qs ?_ GE292.out)|exact HB.out))) hk)));(case aO=>exact (by (with_reducible repeat (first|apply Kd.R_alloc|apply Kd.R_drewN|apply Kd.R_drew));exact HO_5.out));(case aS=>exact (below_size (by repeat (first|(with_reducible first|exact HB.out|apply qa|apply qn|apply qd|refine qs ?_ GE290.out|refine qs ?_ GE291.out|refine qs ?_ GE292.out)|exact HB.out))));(case aL=>have:=LMc31.out;omega);intro v296 w37 ho hb hg hat;rw [← Ny295.out] at ho;have n0_:=Aside0.mk (Kd.V_afterv (ok:=(fun k_=>((P0_1_ k_∨P1_1_ k_)∨w.heap.size≤k_)∧k_≠gb290∧k_≠gb291∧k_≠gb292)) (by (with_reducible repeat (first|apply Kd.V_alloc|apply Kd.V_drewN|apply Kd.V_drew));exact Kd.V_mono HO_291001.out (fun _ hk=>⟨⟨hk.1,⟨hk.2.2.1,⟨hk.2.2.2.1,hk.2.2.2.2⟩⟩⟩,hk.2.1⟩)) hg hat);have n1_:=Aside0.mk (Kd.V_afterv (ok:=(fun k_=>((P0_1_ k_∨P1_1_ k_)∨w.heap.size≤k_)∧k_≠gb290∧k_≠gb291∧k_≠gb292)) (by (with_reducible repeat (first|apply Kd.V_alloc|apply Kd.V_drewN|apply Kd.V_drew));exact Kd.V_mono HO_292001.out (fun _ hk=>⟨⟨hk.1,⟨hk.2.2.1,⟨hk.2.2.2.1,hk.2.2.2.2⟩⟩⟩,hk.2.1⟩)) hg hat);have n2_:=Aside0.mk (blk_grown (g:=gb290) (o := .cells #[.bool a0_0,.slice A0_1 l0_1.length c0_1] 71 (0,0)) (by exact lb BK290.out) hg (Kd.R_ne HO_5.out BK290.out (by decide)));have n3_:=Aside0.mk (blk_grown (g:=gb291) (o := .cells #[.bool a1_0,.slice A1_1 l1_1.length c1_1] 71 (0,0)) (by exact lb BK291.out) hg (Kd.R_ne HO_5.out BK291.out (by decide)));have n4_:=Aside0.mk (blk_grown (g:=gb292) (o := .cells #[.bool false,.slice none 0 0] 71 (0,0)) (by exact lb BK292.out) hg (Kd.R_ne HO_5.out BK292.out (by decide)));have n5_:=Aside0.mk (hb);have n6_:=Aside0.mk (ho);clear HO_291001;clear HO_292001;clear BK290;clear BK291;clear BK292;clear HB;clear HO_5;have HO_291001:=n0_;have HO_292001:=n1_;have BK290:=n2_;have BK291:=n3_;have BK292:=n4_;have HB:=n5_;have HO297:=n6_;clear n0_ n1_ n2_ n3_ n4_ n5_ n6_;clear ho hb hg hat)))
      go_roundg kj11
      case measure=>have:=HK1.out;have:=HJ11.out;omega
      case rel=>exact ⟨(y295),(wrap64 (Int.tdiv (wrap64 ((wrap64 (t293+t294))+x6_1)) 65536)),(wrap64 (x7_1+1)),(by first|rfl|(simp;done)|(simp [*];done)),(by first|rfl|(simp;done)|(simp [*];done)),H',⟨by have:=HK1.out;have:=HJ11.out;omega⟩,⟨by (with_reducible repeat (first|apply Kd.R_alloc|apply Kd.R_drewN|apply Kd.R_drew));exact HO297.out⟩,⟨by (with_reducible repeat (first|apply Kd.V_alloc|apply Kd.V_drewN|apply Kd.V_drew));exact Kd.V_mono HO_291001.out (fun _ hk=>⟨hk.1.1,⟨hk.2,⟨hk.1.2.1,⟨hk.1.2.2.1,hk.1.2.2.2⟩⟩⟩⟩)⟩,⟨by (with_reducible repeat (first|apply Kd.V_alloc|apply Kd.V_drewN|apply Kd.V_drew));exact Kd.V_mono HO_292001.out (fun _ hk=>⟨hk.1.1,⟨hk.2,⟨hk.1.2.1,⟨hk.1.2.2.1,hk.1.2.2.2⟩⟩⟩⟩)⟩,⟨by (with_reducible repeat (first|refine cn ?_ _|refine cd ?_|refine ca ?_ _));exact BK290.out⟩,⟨by (with_reducible repeat (first|refine cn ?_ _|refine cd ?_|refine ca ?_ _));exact BK291.out⟩,⟨by (with_reducible repeat (first|refine cn ?_ _|refine cd ?_|refine ca ?_ _));exact BK292.out⟩,⟨by repeat (first|(with_reducible first|exact HB.out|apply qa|apply qn|apply qd|refine qs ?_ GE290.out|refine qs ?_ GE291.out|refine qs ?_ GE292.out)|exact HB.out)⟩⟩
 rw [if_neg c3] at H
 have c3b0:(a0_0==a1_0)=false:=by simpa using c3
 (try (have c3b1:decide (a0_0=a1_0)=false:=by simpa using c3))
 (try (have c3b2:(a0_0==a1_0)=false:=by simpa using c3))
 (try (have c3b3:¬ (a0_0=a1_0):=by simpa using c3))
 clear c3
 replace H:=Option.bind_eq_some_iff.mp H
 obtain ⟨t304,A470,H⟩:=H
 replace H:(if t304 < 0 then (parquetref01_Num_Plus.j2 k ([]:List Int) 0 a1_0 l1_1 a0_0 l0_1) else (parquetref01_Num_Plus.j2 k ([]:List Int) 0 a0_0 l0_1 a1_0 l1_1))=some (r1,r2):=H
 have A47:=Aside0.mk A470
 clear A470
 have HC48:=Aside0.mk H
 clear H
 go_enter Tryz.func45,Tryz.ntmps45
 go_upto_if 65 with (first|((with_reducible refine gate_dst (N:=2) rfl ?_);(try (refine gate_guard (by rfl) ?_;dsimp only));refine box_event ?hg (N:=2) ?hd (cs:=#[.bool a0_0,.slice A0_1 l0_1.length c0_1]) (t:=71) ?hr ?_;(case hd=>rfl);(case hg=>rfl);(case hr=>first|(go_simp;done)|(go_simp;rfl));intro gb290 hg w49 hbox hb;have n0_:=Aside0.mk (Kd.V_below (Kd.V_elderB (by (with_reducible repeat (first|apply Kd.V_alloc|apply Kd.V_drewN|apply Kd.V_drew));exact HO0_1.out) gb290 (Nat.le_of_eq hg.symm)) hb);have n1_:=Aside0.mk (Kd.V_below (Kd.V_elderB (by (with_reducible repeat (first|apply Kd.V_alloc|apply Kd.V_drewN|apply Kd.V_drew));exact HO1_1.out) gb290 (Nat.le_of_eq hg.symm)) hb);have n2_:=Aside0.mk (below_step (by repeat (first|(with_reducible first|exact HB.out|apply qa|apply qn|apply qd)|exact HB.out)) hb);have n3_:=Aside0.mk (hbox);have n4_:=bgw HB hg;have n5_:=bgw HB hg;clear HO0_1;clear HO1_1;clear HB;have HO0_1:=n0_;have HO1_1:=n1_;have HB:=n2_;have BK290:=n3_;have GW290:=n4_;have GE290:=n5_;clear n0_ n1_ n2_ n3_ n4_ n5_;clear hb hbox hg)|((with_reducible refine gate_dst (N:=3) rfl ?_);(try (refine gate_guard (by rfl) ?_;dsimp only));refine box_event ?hg (N:=3) ?hd (cs:=#[.bool a1_0,.slice A1_1 l1_1.length c1_1]) (t:=71) ?hr ?_;(case hd=>rfl);(case hg=>rfl);(case hr=>first|(go_simp;done)|(go_simp;rfl));intro gb291 hg w50 hbox hb;have n0_:=Aside0.mk (Kd.V_below (Kd.V_elderB (by (with_reducible repeat (first|apply Kd.V_alloc|apply Kd.V_drewN|apply Kd.V_drew));exact HO0_1.out) gb291 (Nat.le_of_eq hg.symm)) hb);have n1_:=Aside0.mk (Kd.V_below (Kd.V_elderB (by (with_reducible repeat (first|apply Kd.V_alloc|apply Kd.V_drewN|apply Kd.V_drew));exact HO1_1.out) gb291 (Nat.le_of_eq hg.symm)) hb);have n2_:=bb BK290 hb;have n3_:=Aside0.mk (below_step (by repeat (first|(with_reducible first|exact HB.out|apply qa|apply qn|apply qd|refine qs ?_ GE290.out)|exact HB.out)) hb);have n4_:=Aside0.mk (hbox);have n5_:=bgw HB hg;have n6_:=bgw HB hg;have n7_:=bnl BK290 hg;have n8_:=bng BK290 hg;clear HO0_1;clear HO1_1;clear BK290;clear HB;have HO0_1:=n0_;have HO1_1:=n1_;have BK290:=n2_;have HB:=n3_;have BK291:=n4_;have GW291:=n5_;have GE291:=n6_;have NB290_291:=n7_;have NB291_290:=n8_;clear n0_ n1_ n2_ n3_ n4_ n5_ n6_ n7_ n8_;clear hb hbox hg)|((with_reducible refine gate_dst (N:=4) rfl ?_);(try (refine gate_guard (by rfl) ?_;dsimp only));refine box_event ?hg (N:=4) ?hd (cs:=#[.bool false,.slice none 0 0]) (t:=71) ?hr ?_;(case hd=>rfl);(case hg=>rfl);(case hr=>first|(go_simp;done)|(go_simp;rfl));intro gb292 hg w51 hbox hb;have n0_:=Aside0.mk (Kd.V_below (Kd.V_elderB (by (with_reducible repeat (first|apply Kd.V_alloc|apply Kd.V_drewN|apply Kd.V_drew));exact HO0_1.out) gb292 (Nat.le_of_eq hg.symm)) hb);have n1_:=Aside0.mk (Kd.V_below (Kd.V_elderB (by (with_reducible repeat (first|apply Kd.V_alloc|apply Kd.V_drewN|apply Kd.V_drew));exact HO1_1.out) gb292 (Nat.le_of_eq hg.symm)) hb);have n2_:=bb BK290 hb;have n3_:=bb BK291 hb;have n4_:=Aside0.mk (below_step (by repeat (first|(with_reducible first|exact HB.out|apply qa|apply qn|apply qd|refine qs ?_ GE290.out|refine qs ?_ GE291.out)|exact HB.out)) hb);have n5_:=Aside0.mk (hbox);have n6_:=bgw HB hg;have n7_:=bgw HB hg;have n8_:=bnl BK290 hg;have n9_:=bng BK290 hg;have n10_:=bnl BK291 hg;have n11_:=bng BK291 hg;clear HO0_1;clear HO1_1;clear BK290;clear BK291;clear HB;have HO0_1:=n0_;have HO1_1:=n1_;have BK290:=n2_;have BK291:=n3_;have HB:=n4_;have BK292:=n5_;have GW292:=n6_;have GE292:=n7_;have NB290_292:=n8_;have NB292_290:=n9_;have NB291_292:=n10_;have NB292_291:=n11_;clear n0_ n1_ n2_ n3_ n4_ n5_ n6_ n7_ n8_ n9_ n10_ n11_;clear hb hbox hg;have hnb52:=NB290_291.out;have hnc52:=NB291_290.out;have hnb53:=NB290_292.out;have hnc53:=NB292_290.out;obtain ⟨hcz54_0,hcz54_1⟩:=cl2 BK290.out;obtain ⟨hfz54_0,hfz54_1⟩:=fr2 BK290.out;have hnb55:=NB291_292.out;have hnc55:=NB292_291.out;obtain ⟨hcz56_0,hcz56_1⟩:=cl2 BK291.out;obtain ⟨hfz56_0,hfz56_1⟩:=fr2 BK291.out)|((with_reducible refine gate_dst (N:=9) rfl ?_);(try (refine gate_guard (by rfl) ?_;dsimp only));refine box_event ?hg (N:=9) ?hd (cs:=#[.bool false,.slice none 0 0]) (t:=71) ?hr ?_;(case hd=>rfl);(case hg=>rfl);(case hr=>first|(go_simp;done)|(go_simp;rfl));intro gb302 hg w57 hbox hb;have n0_:=Aside0.mk (Kd.V_below (Kd.V_elderB (by (with_reducible repeat (first|apply Kd.V_alloc|apply Kd.V_drewN|apply Kd.V_drew));exact HO0_1.out) gb302 (Nat.le_of_eq hg.symm)) hb);have n1_:=Aside0.mk (Kd.V_below (Kd.V_elderB (by (with_reducible repeat (first|apply Kd.V_alloc|apply Kd.V_drewN|apply Kd.V_drew));exact HO1_1.out) gb302 (Nat.le_of_eq hg.symm)) hb);have n2_:=bb BK290 hb;have n3_:=bb BK291 hb;have n4_:=bb BK292 hb;have n5_:=Aside0.mk (below_step (by repeat (first|(with_reducible first|exact HB.out|apply qa|apply qn|apply qd|refine qs ?_ GE290.out|refine qs ?_ GE291.out|refine qs ?_ GE292.out)|exact HB.out)) hb);have n6_:=Aside0.mk (hbox);have n7_:=bgw HB hg;have n8_:=bgw HB hg;have n9_:=bnl BK290 hg;have n10_:=bng BK290 hg;have n11_:=bnl BK291 hg;have n12_:=bng BK291 hg;have n13_:=bnl BK292 hg;have n14_:=bng BK292 hg;clear HO0_1;clear HO1_1;clear BK290;clear BK291;clear BK292;clear HB;have HO0_1:=n0_;have HO1_1:=n1_;have BK290:=n2_;have BK291:=n3_;have BK292:=n4_;have HB:=n5_;have BK302:=n6_;have GW302:=n7_;have GE302:=n8_;have NB290_302:=n9_;have NB302_290:=n10_;have NB291_302:=n11_;have NB302_291:=n12_;have NB292_302:=n13_;have NB302_292:=n14_;clear n0_ n1_ n2_ n3_ n4_ n5_ n6_ n7_ n8_ n9_ n10_ n11_ n12_ n13_ n14_;clear hb hbox hg;have hnb58:=NB302_290.out;have hnc58:=NB290_302.out;have hnb59:=NB302_291.out;have hnc59:=NB291_302.out;have hnb60:=NB302_292.out;have hnc60:=NB292_302.out;obtain ⟨hcz61_0,hcz61_1⟩:=cl2 BK302.out;obtain ⟨hfz61_0,hfz61_1⟩:=fr2 BK302.out;obtain ⟨hcz62_0,hcz62_1⟩:=cl2 BK291.out;obtain ⟨hfz62_0,hfz62_1⟩:=fr2 BK291.out)|((with_reducible refine gate_dst (N:=10) rfl ?_);(try (refine gate_guard (by rfl) ?_;dsimp only));refine box_event ?hg (N:=10) ?hd (cs:=#[.bool false,.slice none 0 0]) (t:=71) ?hr ?_;(case hd=>rfl);(case hg=>rfl);(case hr=>first|(go_simp;done)|(go_simp;rfl));intro gb303 hg w63 hbox hb;have n0_:=Aside0.mk (Kd.V_below (Kd.V_elderB (by (with_reducible repeat (first|apply Kd.V_alloc|apply Kd.V_drewN|apply Kd.V_drew));exact (Kd.V_mono (Kd.V_far (p:=⟨gb302,1,none⟩) (Kd.V_far (p:=⟨gb302,0,none⟩) (Kd.V_mono HO0_1.out (fun k_ hk=>(⟨hk,hk.2⟩:_∧k_≠gb302))) (fun _ hk=>hk.2) (.bool a0_0)) (fun _ hk=>hk.2) (.slice A0_1 l0_1.length c0_1)) (fun _ h_=>h_.1))) gb303 (Nat.le_of_eq hg.symm)) hb);have n1_:=Aside0.mk (Kd.V_below (Kd.V_elderB (by (with_reducible repeat (first|apply Kd.V_alloc|apply Kd.V_drewN|apply Kd.V_drew));exact (Kd.V_mono (Kd.V_far (p:=⟨gb302,1,none⟩) (Kd.V_far (p:=⟨gb302,0,none⟩) (Kd.V_mono HO1_1.out (fun k_ hk=>(⟨hk,hk.2⟩:_∧k_≠gb302))) (fun _ hk=>hk.2) (.bool a0_0)) (fun _ hk=>hk.2) (.slice A0_1 l0_1.length c0_1)) (fun _ h_=>h_.1))) gb303 (Nat.le_of_eq hg.symm)) hb);have n2_:=Aside0.mk (blk_below (g:=gb290) (o := .cells #[.bool a0_0,.slice A0_1 l0_1.length c0_1] 71 (0,0)) (by repeat (with_reducible first|exact lb BK290.out|refine blk_far ?_ NB290_302.out _|refine cn ?_ _|refine cd ?_|refine ca ?_ _)) hb);have n3_:=Aside0.mk (blk_below (g:=gb291) (o := .cells #[.bool a1_0,.slice A1_1 l1_1.length c1_1] 71 (0,0)) (by repeat (with_reducible first|exact lb BK291.out|refine blk_far ?_ NB291_302.out _|refine cn ?_ _|refine cd ?_|refine ca ?_ _)) hb);have n4_:=Aside0.mk (blk_below (g:=gb292) (o := .cells #[.bool false,.slice none 0 0] 71 (0,0)) (by repeat (with_reducible first|exact lb BK292.out|refine blk_far ?_ NB292_302.out _|refine cn ?_ _|refine cd ?_|refine ca ?_ _)) hb);have n5_:=Aside0.mk (blk_below (g:=gb302) (o := .cells #[.bool a0_0,.slice A0_1 l0_1.length c0_1] 71 (0,0)) (by (with_reducible repeat (first|refine cn ?_ _|refine cd ?_|refine ca ?_ _));refine blk_put (cs:=#[.bool a0_0,.slice none 0 0]) ?_ 1 _ rfl;(with_reducible repeat (first|refine cn ?_ _|refine cd ?_|refine ca ?_ _));refine blk_put (cs:=#[.bool false,.slice none 0 0]) ?_ 0 _ rfl;(with_reducible repeat (first|refine cn ?_ _|refine cd ?_|refine ca ?_ _));exact BK302.out) hb);have n6_:=Aside0.mk (below_step (by repeat (first|(with_reducible first|exact HB.out|apply qa|apply qn|apply qd|refine qs ?_ GE290.out|refine qs ?_ GE291.out|refine qs ?_ GE292.out|refine qs ?_ GE302.out)|exact HB.out)) hb);have n7_:=Aside0.mk (hbox);have n8_:=bgw HB hg;have n9_:=bgw HB hg;have n10_:=Aside0.mk ((by rw [hg];exact Nat.ne_of_lt (blk_lt (g:=gb290) (o := .cells #[.bool a0_0,.slice A0_1 l0_1.length c0_1] 71 (0,0)) (by repeat (with_reducible first|exact lb BK290.out|refine blk_far ?_ NB290_302.out _|refine cn ?_ _|refine cd ?_|refine ca ?_ _))):gb290≠gb303));have n11_:=Aside0.mk ((by rw [hg];exact Nat.ne_of_gt (blk_lt (g:=gb290) (o := .cells #[.bool a0_0,.slice A0_1 l0_1.length c0_1] 71 (0,0)) (by repeat (with_reducible first|exact lb BK290.out|refine blk_far ?_ NB290_302.out _|refine cn ?_ _|refine cd ?_|refine ca ?_ _))):gb303≠gb290));have n12_:=Aside0.mk ((by rw [hg];exact Nat.ne_of_lt (blk_lt (g:=gb291) (o := .cells #[.bool a1_0,.slice A1_1 l1_1.length c1_1] 71 (0,0)) (by repeat (with_reducible first|exact lb BK291.out|refine blk_far ?_ NB291_302.out _|refine cn ?_ _|refine cd ?_|refine ca ?_ _))):gb291≠gb303));have n13_:=Aside0.mk ((by rw [hg];exact Nat.ne_of_gt (blk_lt (g:=gb291) (o := .cells #[.bool a1_0,.slice A1_1 l1_1.length c1_1] 71 (0,0)) (by repeat (with_reducible first|exact lb BK291.out|refine blk_far ?_ NB291_302.out _|refine cn ?_ _|refine cd ?_|refine ca ?_ _))):gb303≠gb291));have n14_:=Aside0.mk ((by rw [hg];exact Nat.ne_of_lt (blk_lt (g:=gb292) (o := .cells #[.bool false,.slice none 0 0] 71 (0,0)) (by repeat (with_reducible first|exact lb BK292.out|refine blk_far ?_ NB292_302.out _|refine cn ?_ _|refine cd ?_|refine ca ?_ _))):gb292≠gb303));have n15_:=Aside0.mk ((by rw [hg];exact Nat.ne_of_gt (blk_lt (g:=gb292) (o := .cells #[.bool false,.slice none 0 0] 71 (0,0)) (by repeat (with_reducible first|exact lb BK292.out|refine blk_far ?_ NB292_302.out _|refine cn ?_ _|refine cd ?_|refine ca ?_ _))):gb303≠gb292));have n16_:=Aside0.mk ((by rw [hg];exact Nat.ne_of_lt (blk_lt (g:=gb302) (o := .cells #[.bool a0_0,.slice A0_1 l0_1.length c0_1] 71 (0,0)) (by (with_reducible repeat (first|refine cn ?_ _|refine cd ?_|refine ca ?_ _));refine blk_put (cs:=#[.bool a0_0,.slice none 0 0]) ?_ 1 _ rfl;(with_reducible repeat (first|refine cn ?_ _|refine cd ?_|refine ca ?_ _));refine blk_put (cs:=#[.bool false,.slice none 0 0]) ?_ 0 _ rfl;(with_reducible repeat (first|refine cn ?_ _|refine cd ?_|refine ca ?_ _));exact BK302.out)):gb302≠gb303));have n17_:=Aside0.mk ((by rw [hg];exact Nat.ne_of_gt (blk_lt (g:=gb302) (o := .cells #[.bool a0_0,.slice A0_1 l0_1.length c0_1] 71 (0,0)) (by (with_reducible repeat (first|refine cn ?_ _|refine cd ?_|refine ca ?_ _));refine blk_put (cs:=#[.bool a0_0,.slice none 0 0]) ?_ 1 _ rfl;(with_reducible repeat (first|refine cn ?_ _|refine cd ?_|refine ca ?_ _));refine blk_put (cs:=#[.bool false,.slice none 0 0]) ?_ 0 _ rfl;(with_reducible repeat (first|refine cn ?_ _|refine cd ?_|refine ca ?_ _));exact BK302.out)):gb303≠gb302));clear HO0_1;clear HO1_1;clear BK290;clear BK291;clear BK292;clear BK302;clear HB;have HO0_1:=n0_;have HO1_1:=n1_;have BK290:=n2_;have BK291:=n3_;have BK292:=n4_;have BK302:=n5_;have HB:=n6_;have BK303:=n7_;have GW303:=n8_;have GE303:=n9_;have NB290_303:=n10_;have NB303_290:=n11_;have NB291_303:=n12_;have NB303_291:=n13_;have NB292_303:=n14_;have NB303_292:=n15_;have NB302_303:=n16_;have NB303_302:=n17_;clear n0_ n1_ n2_ n3_ n4_ n5_ n6_ n7_ n8_ n9_ n10_ n11_ n12_ n13_ n14_ n15_ n16_ n17_;clear hb hbox hg;have hnb64:=NB303_290.out;have hnc64:=NB290_303.out;have hnb65:=NB303_291.out;have hnc65:=NB291_303.out;have hnb66:=NB303_292.out;have hnc66:=NB292_303.out;have hnb67:=NB303_302.out;have hnc67:=NB302_303.out;obtain ⟨hcz68_0,hcz68_1⟩:=cl2 BK303.out;obtain ⟨hfz68_0,hfz68_1⟩:=fr2 BK303.out;obtain ⟨hcz69_0,hcz69_1⟩:=cl2 BK290.out;obtain ⟨hfz69_0,hfz69_1⟩:=fr2 BK290.out;obtain ⟨hcz70_0,hcz70_1⟩:=cl2 BK291.out;obtain ⟨hfz70_0,hfz70_1⟩:=fr2 BK291.out)|(go_at_call 85;(with_reducible refine (parquetref01_size.calls k _ _ l0_1 _ _ l1_1 t304 _ ?side1 ?side2 ?side3 ?side4 A47.out).mono ?_);(case side1=>refine (Kd.V_reads' (e:=3) (base:=w.heap.size) (ok:=fun k_=>(((((((P0_1_ k_∨P1_1_ k_)∨w.heap.size≤k_)∧k_≠gb290)∧k_≠gb291)∧k_≠gb292)∧k_≠gb302)∧k_≠gb303)) (n:=l0_1.length) (c:=c0_1) ?_).2.2;exact (by (with_reducible repeat (first|apply Kd.V_alloc|apply Kd.V_drewN|apply Kd.V_drew));exact (Kd.V_mono (Kd.V_far (p:=⟨gb303,1,none⟩) (Kd.V_far (p:=⟨gb303,0,none⟩) (Kd.V_mono HO0_1.out (fun k_ hk=>(⟨hk,hk.2⟩:_∧k_≠gb303))) (fun _ hk=>hk.2) (.bool a1_0)) (fun _ hk=>hk.2) (.slice A1_1 l1_1.length c1_1)) (fun _ h_=>h_.1))));(case side2=>exact (Kd.V_reads' HO0_1.out).2.1);(case side3=>refine (Kd.V_reads' (e:=3) (base:=w.heap.size) (ok:=fun k_=>(((((((P0_1_ k_∨P1_1_ k_)∨w.heap.size≤k_)∧k_≠gb290)∧k_≠gb291)∧k_≠gb292)∧k_≠gb302)∧k_≠gb303)) (n:=l1_1.length) (c:=c1_1) ?_).2.2;exact (by (with_reducible repeat (first|apply Kd.V_alloc|apply Kd.V_drewN|apply Kd.V_drew));exact (Kd.V_mono (Kd.V_far (p:=⟨gb303,1,none⟩) (Kd.V_far (p:=⟨gb303,0,none⟩) (Kd.V_mono HO1_1.out (fun k_ hk=>(⟨hk,hk.2⟩:_∧k_≠gb303))) (fun _ hk=>hk.2) (.bool a1_0)) (fun _ hk=>hk.2) (.slice A1_1 l1_1.length c1_1)) (fun _ h_=>h_.1))));(case side4=>exact (Kd.V_reads' HO1_1.out).2.1);rintro e w' ⟨rfl,⟨nd,rfl⟩⟩;(try first|exact ⟨rfl,_,World.drewN_drewN _ _ _⟩|exact ⟨rfl,_,Eq.trans (World.drewN_drewN _ _ _) (congrArg (World.drewN _) (Nat.add_assoc _ _ _))⟩)))
 repeat (go_quiet (fail);go_upto_if 65 with (fail))
 (try simp only [Act.put,List.setIfInBounds_toArray,List.set_cons_zero,List.set_cons_succ])
 go_cut [] (fun wc=>∃ (kq:Nat) (x303000_47:Bool) (x303001_47:List Int) (x304000_47:Bool) (x304001_47:List Int) (u303001:Value) (u304001:Value),Aside0 (parquetref01_Num_Plus.j2 kq ([]:List Int) 0 x303000_47 x303001_47 x304000_47 x304001_47=some (r1,r2))∧Aside0 (kq≤k)∧Aside0 (Kd.R (Kd.int .i64) 3 wc w.heap.size (fun k_=>(w.heap.size≤k_)) (.slice none 0 0) ([]:List Int))∧Aside0 (Kd.V (Kd.int .i64) 3 wc w.heap.size (fun k_=>((P0_1_ k_∨P1_1_ k_)∨w.heap.size≤k_)∧some k_≠((.slice none 0 0):Value).ownBlock∧k_≠gb290∧k_≠gb291∧k_≠gb292∧k_≠gb302∧k_≠gb303) (.slice A0_1 l0_1.length c0_1) l0_1)∧Aside0 (Kd.V (Kd.int .i64) 3 wc w.heap.size (fun k_=>((P0_1_ k_∨P1_1_ k_)∨w.heap.size≤k_)∧some k_≠((.slice none 0 0):Value).ownBlock∧k_≠gb290∧k_≠gb291∧k_≠gb292∧k_≠gb302∧k_≠gb303) (.slice A1_1 l1_1.length c1_1) l1_1)∧Aside0 (Kd.V (Kd.int .i64) 3 wc w.heap.size (fun k_=>((P0_1_ k_∨P1_1_ k_)∨w.heap.size≤k_)∧some k_≠((.slice none 0 0):Value).ownBlock∧k_≠gb290∧k_≠gb291∧k_≠gb292∧k_≠gb302∧k_≠gb303) u303001 x303001_47)∧Aside0 (Kd.V (Kd.int .i64) 3 wc w.heap.size (fun k_=>((P0_1_ k_∨P1_1_ k_)∨w.heap.size≤k_)∧some k_≠((.slice none 0 0):Value).ownBlock∧k_≠gb290∧k_≠gb291∧k_≠gb292∧k_≠gb302∧k_≠gb303) u304001 x304001_47)∧Aside0 (wc.heap[gb290]?=some (.cells #[.bool a0_0,(.slice A0_1 l0_1.length c0_1)] 71 (0,0)))∧Aside0 (wc.heap[gb291]?=some (.cells #[.bool a1_0,(.slice A1_1 l1_1.length c1_1)] 71 (0,0)))∧Aside0 (wc.heap[gb292]?=some (.cells #[.bool false,(.slice none 0 0)] 71 (0,0)))∧Aside0 (wc.heap[gb302]?=some (.cells #[.bool x303000_47,u303001] 71 (0,0)))∧Aside0 (wc.heap[gb303]?=some (.cells #[.bool x304000_47,u304001] 71 (0,0)))∧Aside0 (Below w.heap.size w wc))
 case first =>
  have H:=HC48.out
  clear HC48
  by_cases c71:t304 < 0
  rotate_left
  ·rw [if_neg c71] at H
   have c71b0:decide (t304 < 0)=false:=decide_eq_false c71
   clear c71
   (first|rw [c71b0]|(simp only [i64_w,i32_w];rw [c71b0])|skip)
   have H':=Aside0.mk H
   clear H
   go_wp2
   repeat (go_quiet (fail);try go_wp2)
   go_meet
   case rel=>exact ⟨_,(a0_0),(l0_1),(a1_0),(l1_1),(.slice A0_1 l0_1.length c0_1),(.slice A1_1 l1_1.length c1_1),H',⟨by first|omega|exact Nat.le_refl _⟩,⟨by first|exact Kd.R_nil _ _ _ _ _|exact Kd.N_nil _ _ _ _ _|exact Kd.V_nil _ _ _ _ _|exact Kd.Q_nil _ _ _ _ _|exact Kd.S_nil _ _ _ _ _⟩,⟨by (with_reducible repeat (first|apply Kd.V_alloc|apply Kd.V_drewN|apply Kd.V_drew));exact Kd.V_mono (Kd.V_far (p:=⟨gb303,1,none⟩) (Kd.V_far (p:=⟨gb303,0,none⟩) (Kd.V_mono HO0_1.out (fun k_ hk=>(⟨hk,hk.2⟩:_∧k_≠gb303))) (fun _ hk=>hk.2) (.bool a1_0)) (fun _ hk=>hk.2) (.slice A1_1 l1_1.length c1_1)) (fun _ hk=>⟨hk.1.1.1.1.1.1,⟨(by simp [Value.ownBlock]),⟨hk.1.1.1.1.1.2,⟨hk.1.1.1.1.2,⟨hk.1.1.1.2,⟨hk.1.1.2,hk.1.2⟩⟩⟩⟩⟩⟩)⟩,⟨by (with_reducible repeat (first|apply Kd.V_alloc|apply Kd.V_drewN|apply Kd.V_drew));exact Kd.V_mono (Kd.V_far (p:=⟨gb303,1,none⟩) (Kd.V_far (p:=⟨gb303,0,none⟩) (Kd.V_mono HO1_1.out (fun k_ hk=>(⟨hk,hk.2⟩:_∧k_≠gb303))) (fun _ hk=>hk.2) (.bool a1_0)) (fun _ hk=>hk.2) (.slice A1_1 l1_1.length c1_1)) (fun _ hk=>⟨hk.1.1.1.1.1.1,⟨(by simp [Value.ownBlock]),⟨hk.1.1.1.1.1.2,⟨hk.1.1.1.1.2,⟨hk.1.1.1.2,⟨hk.1.1.2,hk.1.2⟩⟩⟩⟩⟩⟩)⟩,⟨by (with_reducible repeat (first|apply Kd.V_alloc|apply Kd.V_drewN|apply Kd.V_drew));exact Kd.V_mono (Kd.V_far (p:=⟨gb303,1,none⟩) (Kd.V_far (p:=⟨gb303,0,none⟩) (Kd.V_mono HO0_1.out (fun k_ hk=>(⟨hk,hk.2⟩:_∧k_≠gb303))) (fun _ hk=>hk.2) (.bool a1_0)) (fun _ hk=>hk.2) (.slice A1_1 l1_1.length c1_1)) (fun _ hk=>⟨hk.1.1.1.1.1.1,⟨(by simp [Value.ownBlock]),⟨hk.1.1.1.1.1.2,⟨hk.1.1.1.1.2,⟨hk.1.1.1.2,⟨hk.1.1.2,hk.1.2⟩⟩⟩⟩⟩⟩)⟩,⟨by (with_reducible repeat (first|apply Kd.V_alloc|apply Kd.V_drewN|apply Kd.V_drew));exact Kd.V_mono (Kd.V_far (p:=⟨gb303,1,none⟩) (Kd.V_far (p:=⟨gb303,0,none⟩) (Kd.V_mono HO1_1.out (fun k_ hk=>(⟨hk,hk.2⟩:_∧k_≠gb303))) (fun _ hk=>hk.2) (.bool a1_0)) (fun _ hk=>hk.2) (.slice A1_1 l1_1.length c1_1)) (fun _ hk=>⟨hk.1.1.1.1.1.1,⟨(by simp [Value.ownBlock]),⟨hk.1.1.1.1.1.2,⟨hk.1.1.1.1.2,⟨hk.1.1.1.2,⟨hk.1.1.2,hk.1.2⟩⟩⟩⟩⟩⟩)⟩,⟨by repeat (with_reducible first|exact lb BK290.out|refine blk_far ?_ NB290_303.out _|refine cn ?_ _|refine cd ?_|refine ca ?_ _)⟩,⟨by repeat (with_reducible first|exact lb BK291.out|refine blk_far ?_ NB291_303.out _|refine cn ?_ _|refine cd ?_|refine ca ?_ _)⟩,⟨by repeat (with_reducible first|exact lb BK292.out|refine blk_far ?_ NB292_303.out _|refine cn ?_ _|refine cd ?_|refine ca ?_ _)⟩,⟨by repeat (with_reducible first|exact lb BK302.out|refine blk_far ?_ NB302_303.out _|refine cn ?_ _|refine cd ?_|refine ca ?_ _)⟩,⟨by (with_reducible repeat (first|refine cn ?_ _|refine cd ?_|refine ca ?_ _));refine blk_put (cs:=#[.bool a1_0,.slice none 0 0]) ?_ 1 _ rfl;(with_reducible repeat (first|refine cn ?_ _|refine cd ?_|refine ca ?_ _));refine blk_put (cs:=#[.bool false,.slice none 0 0]) ?_ 0 _ rfl;(with_reducible repeat (first|refine cn ?_ _|refine cd ?_|refine ca ?_ _));exact BK303.out⟩,⟨by repeat (first|(with_reducible first|exact HB.out|apply qa|apply qn|apply qd|refine qs ?_ GE290.out|refine qs ?_ GE291.out|refine qs ?_ GE292.out|refine qs ?_ GE302.out|refine qs ?_ GE303.out)|exact HB.out)⟩⟩
  rw [if_pos c71] at H
  have c71b0:decide (t304 < 0)=true:=decide_eq_true c71
  clear c71
  (first|rw [c71b0]|(simp only [i64_w,i32_w];rw [c71b0])|skip)
  have H':=Aside0.mk H
  clear H
  have hnb72:=NB291_290.out
  have hnc72:=NB290_291.out
  have hnb73:=NB291_292.out
  have hnc73:=NB292_291.out
  have hnb74:=NB291_302.out
  have hnc74:=NB302_291.out
  have hnb75:=NB291_303.out
  have hnc75:=NB303_291.out
  obtain ⟨hcz76_0,hcz76_1⟩:=cl2 BK291.out
  obtain ⟨hfz76_0,hfz76_1⟩:=fr2 BK291.out
  have hnb77:=NB302_290.out
  have hnc77:=NB290_302.out
  have hnb78:=NB302_292.out
  have hnc78:=NB292_302.out
  have hnb79:=NB302_303.out
  have hnc79:=NB303_302.out
  obtain ⟨hcz80_0,hcz80_1⟩:=cl2 BK302.out
  obtain ⟨hfz80_0,hfz80_1⟩:=fr2 BK302.out
  have hnb81:=NB290_292.out
  have hnc81:=NB292_290.out
  have hnb82:=NB290_303.out
  have hnc82:=NB303_290.out
  obtain ⟨hcz83_0,hcz83_1⟩:=cl2 BK290.out
  obtain ⟨hfz83_0,hfz83_1⟩:=fr2 BK290.out
  have hnb84:=NB303_292.out
  have hnc84:=NB292_303.out
  obtain ⟨hcz85_0,hcz85_1⟩:=cl2 BK303.out
  obtain ⟨hfz85_0,hfz85_1⟩:=fr2 BK303.out
  go_wp2
  repeat (go_quiet (fail);try go_wp2)
  go_meet
  case rel=>exact ⟨_,(a1_0),(l1_1),(a0_0),(l0_1),(.slice A1_1 l1_1.length c1_1),(.slice A0_1 l0_1.length c0_1),H',⟨by first|omega|exact Nat.le_refl _⟩,⟨by first|exact Kd.R_nil _ _ _ _ _|exact Kd.N_nil _ _ _ _ _|exact Kd.V_nil _ _ _ _ _|exact Kd.Q_nil _ _ _ _ _|exact Kd.S_nil _ _ _ _ _⟩,⟨by (with_reducible repeat (first|apply Kd.V_alloc|apply Kd.V_drewN|apply Kd.V_drew));exact Kd.V_mono (Kd.V_far (p:=⟨gb303,1,none⟩) (Kd.V_far (p:=⟨gb303,0,none⟩) (Kd.V_far (p:=⟨gb302,1,none⟩) (Kd.V_far (p:=⟨gb302,0,none⟩) (Kd.V_far (p:=⟨gb303,1,none⟩) (Kd.V_far (p:=⟨gb303,0,none⟩) (Kd.V_mono (Kd.V_mono HO0_1.out (fun k_ hk=>(⟨hk,hk.2⟩:_∧k_≠gb303))) (fun k_ hk=>(⟨hk,hk.1.1.2⟩:_∧k_≠gb302))) (fun _ hk=>hk.1.2) (.bool a1_0)) (fun _ hk=>hk.1.2) (.slice A1_1 l1_1.length c1_1)) (fun _ hk=>hk.2) (.bool a1_0)) (fun _ hk=>hk.2) (.slice A1_1 l1_1.length c1_1)) (fun _ hk=>hk.1.2) (.bool a0_0)) (fun _ hk=>hk.1.2) (.slice A0_1 l0_1.length c0_1)) (fun _ hk=>⟨hk.1.1.1.1.1.1.1,⟨(by simp [Value.ownBlock]),⟨hk.1.1.1.1.1.1.2,⟨hk.1.1.1.1.1.2,⟨hk.1.1.1.1.2,⟨hk.1.1.1.2,hk.1.1.2⟩⟩⟩⟩⟩⟩)⟩,⟨by (with_reducible repeat (first|apply Kd.V_alloc|apply Kd.V_drewN|apply Kd.V_drew));exact Kd.V_mono (Kd.V_far (p:=⟨gb303,1,none⟩) (Kd.V_far (p:=⟨gb303,0,none⟩) (Kd.V_far (p:=⟨gb302,1,none⟩) (Kd.V_far (p:=⟨gb302,0,none⟩) (Kd.V_far (p:=⟨gb303,1,none⟩) (Kd.V_far (p:=⟨gb303,0,none⟩) (Kd.V_mono (Kd.V_mono HO1_1.out (fun k_ hk=>(⟨hk,hk.2⟩:_∧k_≠gb303))) (fun k_ hk=>(⟨hk,hk.1.1.2⟩:_∧k_≠gb302))) (fun _ hk=>hk.1.2) (.bool a1_0)) (fun _ hk=>hk.1.2) (.slice A1_1 l1_1.length c1_1)) (fun _ hk=>hk.2) (.bool a1_0)) (fun _ hk=>hk.2) (.slice A1_1 l1_1.length c1_1)) (fun _ hk=>hk.1.2) (.bool a0_0)) (fun _ hk=>hk.1.2) (.slice A0_1 l0_1.length c0_1)) (fun _ hk=>⟨hk.1.1.1.1.1.1.1,⟨(by simp [Value.ownBlock]),⟨hk.1.1.1.1.1.1.2,⟨hk.1.1.1.1.1.2,⟨hk.1.1.1.1.2,⟨hk.1.1.1.2,hk.1.1.2⟩⟩⟩⟩⟩⟩)⟩,⟨by (with_reducible repeat (first|apply Kd.V_alloc|apply Kd.V_drewN|apply Kd.V_drew));exact Kd.V_mono (Kd.V_far (p:=⟨gb303,1,none⟩) (Kd.V_far (p:=⟨gb303,0,none⟩) (Kd.V_far (p:=⟨gb302,1,none⟩) (Kd.V_far (p:=⟨gb302,0,none⟩) (Kd.V_far (p:=⟨gb303,1,none⟩) (Kd.V_far (p:=⟨gb303,0,none⟩) (Kd.V_mono (Kd.V_mono HO1_1.out (fun k_ hk=>(⟨hk,hk.2⟩:_∧k_≠gb303))) (fun k_ hk=>(⟨hk,hk.1.1.2⟩:_∧k_≠gb302))) (fun _ hk=>hk.1.2) (.bool a1_0)) (fun _ hk=>hk.1.2) (.slice A1_1 l1_1.length c1_1)) (fun _ hk=>hk.2) (.bool a1_0)) (fun _ hk=>hk.2) (.slice A1_1 l1_1.length c1_1)) (fun _ hk=>hk.1.2) (.bool a0_0)) (fun _ hk=>hk.1.2) (.slice A0_1 l0_1.length c0_1)) (fun _ hk=>⟨hk.1.1.1.1.1.1.1,⟨(by simp [Value.ownBlock]),⟨hk.1.1.1.1.1.1.2,⟨hk.1.1.1.1.1.2,⟨hk.1.1.1.1.2,⟨hk.1.1.1.2,hk.1.1.2⟩⟩⟩⟩⟩⟩)⟩,⟨by (with_reducible repeat (first|apply Kd.V_alloc|apply Kd.V_drewN|apply Kd.V_drew));exact Kd.V_mono (Kd.V_far (p:=⟨gb303,1,none⟩) (Kd.V_far (p:=⟨gb303,0,none⟩) (Kd.V_far (p:=⟨gb302,1,none⟩) (Kd.V_far (p:=⟨gb302,0,none⟩) (Kd.V_far (p:=⟨gb303,1,none⟩) (Kd.V_far (p:=⟨gb303,0,none⟩) (Kd.V_mono (Kd.V_mono HO0_1.out (fun k_ hk=>(⟨hk,hk.2⟩:_∧k_≠gb303))) (fun k_ hk=>(⟨hk,hk.1.1.2⟩:_∧k_≠gb302))) (fun _ hk=>hk.1.2) (.bool a1_0)) (fun _ hk=>hk.1.2) (.slice A1_1 l1_1.length c1_1)) (fun _ hk=>hk.2) (.bool a1_0)) (fun _ hk=>hk.2) (.slice A1_1 l1_1.length c1_1)) (fun _ hk=>hk.1.2) (.bool a0_0)) (fun _ hk=>hk.1.2) (.slice A0_1 l0_1.length c0_1)) (fun _ hk=>⟨hk.1.1.1.1.1.1.1,⟨(by simp [Value.ownBlock]),⟨hk.1.1.1.1.1.1.2,⟨hk.1.1.1.1.1.2,⟨hk.1.1.1.1.2,⟨hk.1.1.1.2,hk.1.1.2⟩⟩⟩⟩⟩⟩)⟩,⟨by repeat (with_reducible first|exact lb BK290.out|refine blk_far ?_ NB290_303.out _|refine blk_far ?_ NB290_302.out _|refine cn ?_ _|refine cd ?_|refine ca ?_ _)⟩,⟨by repeat (with_reducible first|exact lb BK291.out|refine blk_far ?_ NB291_303.out _|refine blk_far ?_ NB291_302.out _|refine cn ?_ _|refine cd ?_|refine ca ?_ _)⟩,⟨by repeat (with_reducible first|exact lb BK292.out|refine blk_far ?_ NB292_303.out _|refine blk_far ?_ NB292_302.out _|refine cn ?_ _|refine cd ?_|refine ca ?_ _)⟩,⟨by (with_reducible repeat (first|refine cn ?_ _|refine cd ?_|refine ca ?_ _));refine blk_far ?_ NB302_303.out _;(with_reducible repeat (first|refine cn ?_ _|refine cd ?_|refine ca ?_ _));refine blk_far ?_ NB302_303.out _;(with_reducible repeat (first|refine cn ?_ _|refine cd ?_|refine ca ?_ _));refine blk_put (cs:=#[.bool a1_0,.slice A0_1 l0_1.length c0_1]) ?_ 1 _ rfl;(with_reducible repeat (first|refine cn ?_ _|refine cd ?_|refine ca ?_ _));refine blk_put (cs:=#[.bool a0_0,.slice A0_1 l0_1.length c0_1]) ?_ 0 _ rfl;(with_reducible repeat (first|refine cn ?_ _|refine cd ?_|refine ca ?_ _));refine blk_far ?_ NB302_303.out _;(with_reducible repeat (first|refine cn ?_ _|refine cd ?_|refine ca ?_ _));refine blk_far ?_ NB302_303.out _;(with_reducible repeat (first|refine cn ?_ _|refine cd ?_|refine ca ?_ _));exact BK302.out⟩,⟨by (with_reducible repeat (first|refine cn ?_ _|refine cd ?_|refine ca ?_ _));refine blk_put (cs:=#[.bool a0_0,.slice A1_1 l1_1.length c1_1]) ?_ 1 _ rfl;(with_reducible repeat (first|refine cn ?_ _|refine cd ?_|refine ca ?_ _));refine blk_put (cs:=#[.bool a1_0,.slice A1_1 l1_1.length c1_1]) ?_ 0 _ rfl;(with_reducible repeat (first|refine cn ?_ _|refine cd ?_|refine ca ?_ _));refine blk_far ?_ NB303_302.out _;(with_reducible repeat (first|refine cn ?_ _|refine cd ?_|refine ca ?_ _));refine blk_far ?_ NB303_302.out _;(with_reducible repeat (first|refine cn ?_ _|refine cd ?_|refine ca ?_ _));refine blk_put (cs:=#[.bool a1_0,.slice none 0 0]) ?_ 1 _ rfl;(with_reducible repeat (first|refine cn ?_ _|refine cd ?_|refine ca ?_ _));refine blk_put (cs:=#[.bool false,.slice none 0 0]) ?_ 0 _ rfl;(with_reducible repeat (first|refine cn ?_ _|refine cd ?_|refine ca ?_ _));exact BK303.out⟩,⟨by repeat (first|(with_reducible first|exact HB.out|apply qa|apply qn|apply qd|refine qs ?_ GE290.out|refine qs ?_ GE291.out|refine qs ?_ GE292.out|refine qs ?_ GE302.out|refine qs ?_ GE303.out)|exact HB.out)⟩⟩
 case rest =>
  clear HC48
  try clear c1
  try clear c2
  try clear p2
  try clear c3
  try clear c3b0
  try clear c3b1
  try clear c3b2
  try clear c4
  try clear c5
  try clear c6
  try clear p6
  try clear c7
  try clear c8
  try clear c10
  try clear c13
  try clear c13b0
  try clear c14
  try clear c15
  try clear c17
  try clear c17b0
  try clear c18
  try clear c19
  try clear c21
  try clear c23
  try clear c24
  try clear c26
  try clear c28
  try clear c30
  try clear c31
  try clear c32
  try clear c33
  try clear c35
  try clear c39
  try clear c40
  try clear c44
  try clear c52
  try clear c53
  try clear c55
  try clear c58
  try clear c59
  try clear c60
  try clear c64
  try clear p64
  try clear c65
  try clear c66
  try clear c67
  try clear c71
  try clear c71b0
  try clear c72
  try clear c73
  try clear c74
  try clear c75
  try clear c77
  try clear c78
  try clear c79
  try clear c81
  try clear c82
  try clear c84
  try clear hcz11_0
  try clear hcz11_1
  try clear hcz16_0
  try clear hcz16_1
  try clear hcz20_0
  try clear hcz20_1
  try clear hcz22_0
  try clear hcz22_1
  try clear hcz25_0
  try clear hcz25_1
  try clear hcz27_0
  try clear hcz27_1
  try clear hcz34_0
  try clear hcz34_1
  try clear hcz36_0
  try clear hcz36_1
  try clear hcz41_0
  try clear hcz41_1
  try clear hcz45_0
  try clear hcz45_1
  try clear hcz54_0
  try clear hcz54_1
  try clear hcz56_0
  try clear hcz56_1
  try clear hcz61_0
  try clear hcz61_1
  try clear hcz62_0
  try clear hcz62_1
  try clear hcz68_0
  try clear hcz68_1
  try clear hcz69_0
  try clear hcz69_1
  try clear hcz70_0
  try clear hcz70_1
  try clear hcz76_0
  try clear hcz76_1
  try clear hcz80_0
  try clear hcz80_1
  try clear hcz83_0
  try clear hcz83_1
  try clear hcz85_0
  try clear hcz85_1
  try clear hcz9_0
  try clear hcz9_1
  try clear hfz11_0
  try clear hfz11_1
  try clear hfz16_0
  try clear hfz16_1
  try clear hfz20_0
  try clear hfz20_1
  try clear hfz22_0
  try clear hfz22_1
  try clear hfz25_0
  try clear hfz25_1
  try clear hfz27_0
  try clear hfz27_1
  try clear hfz34_0
  try clear hfz34_1
  try clear hfz36_0
  try clear hfz36_1
  try clear hfz41_0
  try clear hfz41_1
  try clear hfz45_0
  try clear hfz45_1
  try clear hfz54_0
  try clear hfz54_1
  try clear hfz56_0
  try clear hfz56_1
  try clear hfz61_0
  try clear hfz61_1
  try clear hfz62_0
  try clear hfz62_1
  try clear hfz68_0
  try clear hfz68_1
  try clear hfz69_0
  try clear hfz69_1
  try clear hfz70_0
  try clear hfz70_1
  try clear hfz76_0
  try clear hfz76_1
  try clear hfz80_0
  try clear hfz80_1
  try clear hfz83_0
  try clear hfz83_1
  try clear hfz85_0
  try clear hfz85_1
  try clear hfz9_0
  try clear hfz9_1
  try clear p2
  obtain ⟨kq,x303000_47,x303001_47,x304000_47,x304001_47,u303001,u304001,HA,HJ47,HO_5,HO_291001,HO_292001,HO_303001,HO_304001,BK290,BK291,BK292,BK302,BK303,HB⟩:=hcut
  cases kq with
  | zero=>exact absurd HA.out (by simp [parquetref01_Num_Plus.j2])
  | succ kj47 =>
   have H:=HA.out
   clear HA
   simp only [parquetref01_Num_Plus.j2] at H
   have H':=Aside0.mk H
   clear H
   go_wp2
   repeat (go_quiet (fail);try go_wp2)
   go_loopg [5,6,11] kj47 (fun kq v5 v6 v11 w'=>∃ (x5_2:List Int) (x6_2:Int) (x11_2:Int),v6 = .int .i64 x6_2∧v11 = .int .i64 x11_2∧Aside0 (parquetref01_Num_Plus.l1 kq x5_2 x6_2 x11_2 x303000_47 x303001_47 x304000_47 x304001_47=some (r1,r2))∧Aside0 (kq≤kj47)∧Aside0 (Kd.R (Kd.int .i64) 3 w' w.heap.size (fun k_=>(w.heap.size≤k_)) v5 x5_2)∧Aside0 (Kd.V (Kd.int .i64) 3 w' w.heap.size (fun k_=>((P0_1_ k_∨P1_1_ k_)∨w.heap.size≤k_)∧some k_≠(v5:Value).ownBlock∧k_≠gb290∧k_≠gb291∧k_≠gb292∧k_≠gb302∧k_≠gb303) (.slice A0_1 l0_1.length c0_1) l0_1)∧Aside0 (Kd.V (Kd.int .i64) 3 w' w.heap.size (fun k_=>((P0_1_ k_∨P1_1_ k_)∨w.heap.size≤k_)∧some k_≠(v5:Value).ownBlock∧k_≠gb290∧k_≠gb291∧k_≠gb292∧k_≠gb302∧k_≠gb303) (.slice A1_1 l1_1.length c1_1) l1_1)∧Aside0 (Kd.V (Kd.int .i64) 3 w' w.heap.size (fun k_=>((P0_1_ k_∨P1_1_ k_)∨w.heap.size≤k_)∧some k_≠(v5:Value).ownBlock∧k_≠gb290∧k_≠gb291∧k_≠gb292∧k_≠gb302∧k_≠gb303) u303001 x303001_47)∧Aside0 (Kd.V (Kd.int .i64) 3 w' w.heap.size (fun k_=>((P0_1_ k_∨P1_1_ k_)∨w.heap.size≤k_)∧some k_≠(v5:Value).ownBlock∧k_≠gb290∧k_≠gb291∧k_≠gb292∧k_≠gb302∧k_≠gb303) u304001 x304001_47)∧Aside0 (w'.heap[gb290]?=some (.cells #[.bool a0_0,(.slice A0_1 l0_1.length c0_1)] 71 (0,0)))∧Aside0 (w'.heap[gb291]?=some (.cells #[.bool a1_0,(.slice A1_1 l1_1.length c1_1)] 71 (0,0)))∧Aside0 (w'.heap[gb292]?=some (.cells #[.bool false,(.slice none 0 0)] 71 (0,0)))∧Aside0 (w'.heap[gb302]?=some (.cells #[.bool x303000_47,u303001] 71 (0,0)))∧Aside0 (w'.heap[gb303]?=some (.cells #[.bool x304000_47,u304001] 71 (0,0)))∧Aside0 (Below w.heap.size w w'))
   case atStart=>exact ⟨(([]:List Int)),(0),(0),(by first|rfl|(simp;done)|(simp [*];done)),(by first|rfl|(simp;done)|(simp [*];done)),H',⟨Nat.le_refl _⟩,⟨by (with_reducible repeat (first|apply Kd.R_alloc|apply Kd.R_drewN|apply Kd.R_drew));exact HO_5.out⟩,⟨by (with_reducible repeat (first|apply Kd.V_alloc|apply Kd.V_drewN|apply Kd.V_drew));exact HO_291001.out⟩,⟨by (with_reducible repeat (first|apply Kd.V_alloc|apply Kd.V_drewN|apply Kd.V_drew));exact HO_292001.out⟩,⟨by (with_reducible repeat (first|apply Kd.V_alloc|apply Kd.V_drewN|apply Kd.V_drew));exact HO_303001.out⟩,⟨by (with_reducible repeat (first|apply Kd.V_alloc|apply Kd.V_drewN|apply Kd.V_drew));exact HO_304001.out⟩,⟨by (with_reducible repeat (first|refine cn ?_ _|refine cd ?_|refine ca ?_ _));exact BK290.out⟩,⟨by (with_reducible repeat (first|refine cn ?_ _|refine cd ?_|refine ca ?_ _));exact BK291.out⟩,⟨by (with_reducible repeat (first|refine cn ?_ _|refine cd ?_|refine ca ?_ _));exact BK292.out⟩,⟨by (with_reducible repeat (first|refine cn ?_ _|refine cd ?_|refine ca ?_ _));exact BK302.out⟩,⟨by (with_reducible repeat (first|refine cn ?_ _|refine cd ?_|refine ca ?_ _));exact BK303.out⟩,⟨by repeat (first|(with_reducible first|exact HB.out|apply qa|apply qn|apply qd|refine qs ?_ GE290.out|refine qs ?_ GE291.out|refine qs ?_ GE292.out|refine qs ?_ GE302.out|refine qs ?_ GE303.out)|exact HB.out)⟩⟩
   case round =>
    clear H'
    try clear c1
    try clear c2
    try clear p2
    try clear c3
    try clear c3b0
    try clear c3b1
    try clear c3b2
    try clear c4
    try clear c5
    try clear c6
    try clear p6
    try clear c7
    try clear c8
    try clear c10
    try clear c13
    try clear c13b0
    try clear c14
    try clear c15
    try clear c17
    try clear c17b0
    try clear c18
    try clear c19
    try clear c21
    try clear c23
    try clear c24
    try clear c26
    try clear c28
    try clear c30
    try clear c31
    try clear c32
    try clear c33
    try clear c35
    try clear c39
    try clear c40
    try clear c44
    try clear c52
    try clear c53
    try clear c55
    try clear c58
    try clear c59
    try clear c60
    try clear c64
    try clear p64
    try clear c65
    try clear c66
    try clear c67
    try clear c71
    try clear c71b0
    try clear c72
    try clear c73
    try clear c74
    try clear c75
    try clear c77
    try clear c78
    try clear c79
    try clear c81
    try clear c82
    try clear c84
    try clear hcz11_0
    try clear hcz11_1
    try clear hcz16_0
    try clear hcz16_1
    try clear hcz20_0
    try clear hcz20_1
    try clear hcz22_0
    try clear hcz22_1
    try clear hcz25_0
    try clear hcz25_1
    try clear hcz27_0
    try clear hcz27_1
    try clear hcz34_0
    try clear hcz34_1
    try clear hcz36_0
    try clear hcz36_1
    try clear hcz41_0
    try clear hcz41_1
    try clear hcz45_0
    try clear hcz45_1
    try clear hcz54_0
    try clear hcz54_1
    try clear hcz56_0
    try clear hcz56_1
    try clear hcz61_0
    try clear hcz61_1
    try clear hcz62_0
    try clear hcz62_1
    try clear hcz68_0
    try clear hcz68_1
    try clear hcz69_0
    try clear hcz69_1
    try clear hcz70_0
    try clear hcz70_1
    try clear hcz76_0
    try clear hcz76_1
    try clear hcz80_0
    try clear hcz80_1
    try clear hcz83_0
    try clear hcz83_1
    try clear hcz85_0
    try clear hcz85_1
    try clear hcz9_0
    try clear hcz9_1
    try clear hfz11_0
    try clear hfz11_1
    try clear hfz16_0
    try clear hfz16_1
    try clear hfz20_0
    try clear hfz20_1
    try clear hfz22_0
    try clear hfz22_1
    try clear hfz25_0
    try clear hfz25_1
    try clear hfz27_0
    try clear hfz27_1
    try clear hfz34_0
    try clear hfz34_1
    try clear hfz36_0
    try clear hfz36_1
    try clear hfz41_0
    try clear hfz41_1
    try clear hfz45_0
    try clear hfz45_1
    try clear hfz54_0
    try clear hfz54_1
    try clear hfz56_0
    try clear hfz56_1
    try clear hfz61_0
    try clear hfz61_1
    try clear hfz62_0
    try clear hfz62_1
    try clear hfz68_0
    try clear hfz68_1
    try clear hfz69_0
    try clear hfz69_1
    try clear hfz70_0
    try clear hfz70_1
    try clear hfz76_0
    try clear hfz76_1
    try clear hfz80_0
    try clear hfz80_1
    try clear hfz83_0
    try clear hfz83_1
    try clear hfz85_0
    try clear hfz85_1
    try clear hfz9_0
    try clear hfz9_1
    try clear p2
    try clear p6
    try clear p64
    obtain ⟨x5_2,x6_2,x11_2,rfl,rfl,HA,HK2,HO_5,HO_291001,HO_292001,HO_303001,HO_304001,BK290,BK291,BK292,BK302,BK303,HB⟩:=hrel
    cases gk with
    | zero=>exact absurd HA.out (by simp [parquetref01_Num_Plus.l1])
    | succ k2 =>
     have H:=HA.out
     clear HA
     simp only [parquetref01_Num_Plus.l1] at H
     by_cases c86:x11_2 < (x303001_47.length:Int)
     rotate_left
     ·rw [if_neg c86] at H
      have c86b0:decide (x11_2 < (x303001_47.length:Int))=false:=decide_eq_false c86
      clear c86
      replace H:=Option.bind_eq_some_iff.mp H
      obtain ⟨⟨t313,t314⟩,A1160,H⟩:=H
      replace H:(some (t313,t314))=some (r1,r2):=H
      have A116:=Aside0.mk A1160
      clear A1160
      simp only [Option.some.injEq,Prod.mk.injEq] at H
      obtain ⟨rfl,rfl⟩:=H
      have hnb117:=NB302_290.out
      have hnc117:=NB290_302.out
      have hnb118:=NB302_291.out
      have hnc118:=NB291_302.out
      have hnb119:=NB302_292.out
      have hnc119:=NB292_302.out
      have hnb120:=NB302_303.out
      have hnc120:=NB303_302.out
      obtain ⟨hcz121_0,hcz121_1⟩:=cl2 BK302.out
      obtain ⟨hfz121_0,hfz121_1⟩:=fr2 BK302.out
      obtain ⟨Ao122,co122,eo122⟩:=Kd.V_slice HO_303001.out
      subst eo122
      obtain ⟨Ao123,co123,eo123⟩:=Kd.R_slice HO_5.out
      subst eo123
      go_wp2_with (first|(go_at_call 84;(with_reducible refine (parquetref01_trim.calls k2 x303000_47 (fun k_=>some k_=(.slice Ao123 x5_2.length co123:Value).ownBlock) _ _ x5_2 t313 t314 _ ?side1 A116.out).mono ?_);(case side1=>exact Kd.R_V (Kd.R_tight rfl (Kd.R_types (Kd.R_types (Kd.R_types (Kd.R_types (Kd.R_types (HO_5.out) BK290.out (by decide)) BK291.out (by decide)) BK292.out (by decide)) BK302.out (by decide)) BK303.out (by decide))));rintro e w124 ⟨v315,rfl,ho0,hb⟩;have n0_:=Aside0.mk (Kd.R_below (by (with_reducible repeat (first|apply Kd.R_alloc|apply Kd.R_drewN|apply Kd.R_drew));exact HO_5.out) hb);have n1_:=Aside0.mk (Kd.V_below (by (with_reducible repeat (first|apply Kd.V_alloc|apply Kd.V_drewN|apply Kd.V_drew));exact HO_291001.out) hb);have n2_:=Aside0.mk (Kd.V_below (by (with_reducible repeat (first|apply Kd.V_alloc|apply Kd.V_drewN|apply Kd.V_drew));exact HO_292001.out) hb);have n3_:=Aside0.mk (Kd.V_below (by (with_reducible repeat (first|apply Kd.V_alloc|apply Kd.V_drewN|apply Kd.V_drew));exact HO_303001.out) hb);have n4_:=Aside0.mk (Kd.V_below (by (with_reducible repeat (first|apply Kd.V_alloc|apply Kd.V_drewN|apply Kd.V_drew));exact HO_304001.out) hb);have n5_:=Aside0.mk (Kd.V_lower (Kd.V_mono (ok':=fun k_=>((P0_1_ k_∨P1_1_ k_)∨w.heap.size≤k_)∧k_≠gb290∧k_≠gb291∧k_≠gb292∧k_≠gb302∧k_≠gb303) ho0 (fun k_ hk_=>⟨Or.elim hk_ (fun hs_=>(.inr (((Kd.R_types (Kd.R_types (Kd.R_types (Kd.R_types (Kd.R_types (HO_5.out) BK290.out (by decide)) BK291.out (by decide)) BK292.out (by decide)) BK302.out (by decide)) BK303.out (by decide)).1 k_ hs_.symm).1.1.1.1.1))) (fun hn_=>(.inr (Nat.le_trans (below_size (by repeat (first|(with_reducible first|exact HB.out|apply qa|apply qn|apply qd|refine qs ?_ GE290.out|refine qs ?_ GE291.out|refine qs ?_ GE292.out|refine qs ?_ GE302.out|refine qs ?_ GE303.out)|exact HB.out))) hn_))),Or.elim hk_ (fun hs_=>((Kd.R_types (Kd.R_types (Kd.R_types (Kd.R_types (Kd.R_types (HO_5.out) BK290.out (by decide)) BK291.out (by decide)) BK292.out (by decide)) BK302.out (by decide)) BK303.out (by decide)).1 k_ hs_.symm).1.1.1.1.2) (fun hn_=>(Kd.freshB (g:=gb290) (o := .cells #[.bool a0_0,.slice A0_1 l0_1.length c0_1] 71 (0,0)) (by exact lb BK290.out) k_ hn_)),Or.elim hk_ (fun hs_=>((Kd.R_types (Kd.R_types (Kd.R_types (Kd.R_types (Kd.R_types (HO_5.out) BK290.out (by decide)) BK291.out (by decide)) BK292.out (by decide)) BK302.out (by decide)) BK303.out (by decide)).1 k_ hs_.symm).1.1.1.2) (fun hn_=>(Kd.freshB (g:=gb291) (o := .cells #[.bool a1_0,.slice A1_1 l1_1.length c1_1] 71 (0,0)) (by exact lb BK291.out) k_ hn_)),Or.elim hk_ (fun hs_=>((Kd.R_types (Kd.R_types (Kd.R_types (Kd.R_types (Kd.R_types (HO_5.out) BK290.out (by decide)) BK291.out (by decide)) BK292.out (by decide)) BK302.out (by decide)) BK303.out (by decide)).1 k_ hs_.symm).1.1.2) (fun hn_=>(Kd.freshB (g:=gb292) (o := .cells #[.bool false,.slice none 0 0] 71 (0,0)) (by exact lb BK292.out) k_ hn_)),Or.elim hk_ (fun hs_=>((Kd.R_types (Kd.R_types (Kd.R_types (Kd.R_types (Kd.R_types (HO_5.out) BK290.out (by decide)) BK291.out (by decide)) BK292.out (by decide)) BK302.out (by decide)) BK303.out (by decide)).1 k_ hs_.symm).1.2) (fun hn_=>(Kd.freshB (g:=gb302) (o := .cells #[.bool x303000_47,.slice Ao122 x303001_47.length co122] 71 (0,0)) (by exact lb BK302.out) k_ hn_)),Or.elim hk_ (fun hs_=>((Kd.R_types (Kd.R_types (Kd.R_types (Kd.R_types (Kd.R_types (HO_5.out) BK290.out (by decide)) BK291.out (by decide)) BK292.out (by decide)) BK302.out (by decide)) BK303.out (by decide)).1 k_ hs_.symm).2) (fun hn_=>(Kd.freshB (g:=gb303) (o := .cells #[.bool x304000_47,u304001] 71 (0,0)) (by exact lb BK303.out) k_ hn_))⟩)) (below_size (by repeat (first|(with_reducible first|exact HB.out|apply qa|apply qn|apply qd|refine qs ?_ GE290.out|refine qs ?_ GE291.out|refine qs ?_ GE292.out|refine qs ?_ GE302.out|refine qs ?_ GE303.out)|exact HB.out))));have n6_:=bb BK290 hb;have n7_:=bb BK291 hb;have n8_:=bb BK292 hb;have n9_:=bb BK302 hb;have n10_:=bb BK303 hb;have n11_:=Aside0.mk (below_step (by repeat (first|(with_reducible first|exact HB.out|apply qa|apply qn|apply qd|refine qs ?_ GE290.out|refine qs ?_ GE291.out|refine qs ?_ GE292.out|refine qs ?_ GE302.out|refine qs ?_ GE303.out)|exact HB.out)) hb);clear HO_5;clear HO_291001;clear HO_292001;clear HO_303001;clear HO_304001;clear BK290;clear BK291;clear BK292;clear BK302;clear BK303;clear HB;have HO_5:=n0_;have HO_291001:=n1_;have HO_292001:=n2_;have HO_303001:=n3_;have HO_304001:=n4_;have HO316:=n5_;have BK290:=n6_;have BK291:=n7_;have BK292:=n8_;have BK302:=n9_;have BK303:=n10_;have HB:=n11_;clear n0_ n1_ n2_ n3_ n4_ n5_ n6_ n7_ n8_ n9_ n10_ n11_;(try clear hb);(try clear hb2);(try clear hk);(try clear hi);(try clear ho0);have hnb125:=NB292_290.out;have hnc125:=NB290_292.out;have hnb126:=NB292_291.out;have hnc126:=NB291_292.out;have hnb127:=NB292_303.out;have hnc127:=NB303_292.out;obtain ⟨hcz128_0,hcz128_1⟩:=cl2 BK292.out;obtain ⟨hfz128_0,hfz128_1⟩:=fr2 BK292.out;obtain ⟨Ao129,co129,eo129⟩:=Kd.V_slice HO316.out;subst eo129))
      repeat (go_quiet (fail);try go_wp2_with (fail))
      refine bodyPost_ret (results_cell_row rfl _ _ gb292 71 #[.bool t313,.slice Ao129 t314.length co129] (0,0) _ rfl (by (with_reducible repeat (first|refine cn ?_ _|refine cd ?_|refine ca ?_ _));refine blk_put (cs:=#[.bool t313,.slice none 0 0]) ?_ 1 _ rfl;(with_reducible repeat (first|refine cn ?_ _|refine cd ?_|refine ca ?_ _));refine blk_put (cs:=#[.bool false,.slice none 0 0]) ?_ 0 _ rfl;(with_reducible repeat (first|refine cn ?_ _|refine cd ?_|refine ca ?_ _));exact BK292.out) Tryz.underlying71 rfl (by kernel_rfl)) rfl ?_
      exact ⟨_,by first|rfl|(simp [errW_none,errW_some]<;>rfl)|(simp [*,errW_none,errW_some]<;>rfl),by (with_reducible repeat (first|apply Kd.V_alloc|apply Kd.V_drewN|apply Kd.V_drew));exact Kd.V_mono (Kd.V_far (p:=⟨gb292,1,none⟩) (Kd.V_far (p:=⟨gb292,0,none⟩) (Kd.V_mono HO316.out (fun k_ hk=>(⟨hk,hk.2.2.2.1⟩:_∧k_≠gb292))) (fun _ hk=>hk.2) (.bool t313)) (fun _ hk=>hk.2) (.slice Ao129 t314.length co129)) (fun _ hk=>hk.1.1),by repeat (first|(with_reducible first|exact HB.out|apply qa|apply qn|apply qd|refine qs ?_ GE290.out|refine qs ?_ GE291.out|refine qs ?_ GE292.out|refine qs ?_ GE302.out|refine qs ?_ GE303.out)|exact HB.out)⟩
     rw [if_pos c86] at H
     have c86b0:decide (x11_2 < (x303001_47.length:Int))=true:=decide_eq_true c86
     clear c86
     by_cases c87:0≤x11_2
     rotate_left
     ·rw [if_neg c87] at H
      exact absurd H (by simp)
     rw [if_pos c87] at H
     have c87b0:decide (0≤x11_2)=true:=decide_eq_true c87
     clear c87
     replace H:=Option.bind_eq_some_iff.mp H
     obtain ⟨t306,A880,H⟩:=H
     replace H:(if (wrap64 ((wrap64 ((rd x303001_47 x11_2) - t306)) - x6_2)) < 0 then (if x5_2.length < 17592186044416 then (parquetref01_Num_Plus.l1 k2 (x5_2++[wrap64 ((wrap64 ((wrap64 ((rd x303001_47 x11_2) - t306)) - x6_2))+65536)]) 1 (wrap64 (x11_2+1)) x303000_47 x303001_47 x304000_47 x304001_47) else (none)) else (if x5_2.length < 17592186044416 then (parquetref01_Num_Plus.l1 k2 (x5_2++[wrap64 ((wrap64 ((rd x303001_47 x11_2) - t306)) - x6_2)]) 0 (wrap64 (x11_2+1)) x303000_47 x303001_47 x304000_47 x304001_47) else (none)))=some (r1,r2):=H
     have A88:=Aside0.mk A880
     clear A880
     by_cases c89:(wrap64 ((wrap64 ((rd x303001_47 x11_2) - t306)) - x6_2)) < 0
     rotate_left
     ·rw [if_neg c89] at H
      have c89b0:decide ((wrap64 ((wrap64 ((rd x303001_47 x11_2) - t306)) - x6_2)) < 0)=false:=decide_eq_false c89
      clear c89
      by_cases c103:x5_2.length < 17592186044416
      rotate_left
      ·rw [if_neg c103] at H
       exact absurd H (by simp)
      rw [if_pos c103] at H
      have LMc103:=Aside0.mk c103
      clear c103
      obtain ⟨y310,hy310⟩:∃ y_:List Int,y_=(x5_2++[wrap64 ((wrap64 ((rd x303001_47 x11_2) - t306)) - x6_2)]):=⟨_,rfl⟩
      replace H:(parquetref01_Num_Plus.l1 k2 y310 0 (wrap64 (x11_2+1)) x303000_47 x303001_47 x304000_47 x304001_47)=some (r1,r2):=by first|(rw [hy310];with_reducible exact H)|(have H2_:=(Option.bind_some _ _).symm.trans H;rw [hy310];with_reducible exact H2_)|(have H2_:=(Option.bind_some _ _).symm.trans H;with_reducible exact H2_)|with_reducible exact H|(rw [hy310];exact H)|exact H
      have Ny310:=Aside0.mk hy310
      clear hy310
      have H':=Aside0.mk H
      clear H
      have hnb104:=NB302_290.out
      have hnc104:=NB290_302.out
      have hnb105:=NB302_291.out
      have hnc105:=NB291_302.out
      have hnb106:=NB302_292.out
      have hnc106:=NB292_302.out
      have hnb107:=NB302_303.out
      have hnc107:=NB303_302.out
      obtain ⟨hcz108_0,hcz108_1⟩:=cl2 BK302.out
      obtain ⟨hfz108_0,hfz108_1⟩:=fr2 BK302.out
      obtain ⟨Ao109,co109,eo109⟩:=Kd.V_slice HO_303001.out
      subst eo109
      have p305:0≤(x11_2:Int):=of_decide_eq_true (by first|(with_reducible assumption)|assumption)
      have q305:x11_2 < (x303001_47.length:Int):=of_decide_eq_true (by first|(with_reducible assumption)|assumption)
      obtain ⟨ad305,e305,hx305_0⟩:=Kd.at_int (Kd.V_reads' HO_303001.out).2.2 x11_2 p305 q305
      cases e305
      replace p305:=eq_true p305
      replace q305:=eq_true q305
      have hnb110:=NB303_290.out
      have hnc110:=NB290_303.out
      have hnb111:=NB303_291.out
      have hnc111:=NB291_303.out
      have hnb112:=NB303_292.out
      have hnc112:=NB292_303.out
      obtain ⟨hcz113_0,hcz113_1⟩:=cl2 BK303.out
      obtain ⟨hfz113_0,hfz113_1⟩:=fr2 BK303.out
      obtain ⟨Ao114,co114,eo114⟩:=Kd.V_slice HO_304001.out
      subst eo114
      go_wp2_with (fail)
      repeat (go_quiet (first|(go_at_call 83;(with_reducible refine (parquetref01_digit.calls _ _ x304001_47 x11_2 t306 _ ?side1 ?side2 A88.out).mono ?_);(case side1=>repeat (first|exact (Kd.V_reads' HO_304001.out).2.2|(with_reducible refine Kd.C_alloc ?_ _)|(with_reducible refine Kd.C_drewN ?_ _)|(with_reducible refine Kd.C_drew ?_)));(case side2=>exact (Kd.V_reads' HO_304001.out).2.1);rintro e w' ⟨rfl,⟨nd,rfl⟩⟩;(try first|exact ⟨rfl,_,World.drewN_drewN _ _ _⟩|exact ⟨rfl,_,Eq.trans (World.drewN_drewN _ _ _) (congrArg (World.drewN _) (Nat.add_assoc _ _ _))⟩)));try go_wp2_with (first|((with_reducible refine gate_builtin (b := .append) (xs:=#[.tmp 91,.tmp 93]) rfl ?_);(try (refine gate_guard (by rfl) ?_;dsimp only));at_builtin;refine Kd.R_append (Kd.int .i64) (w0:=w) w.heap.size rfl (.tmp 91) (.tmp 93) 34 3 (.int .i64 0) 8 rfl Tryz.underlying34 info3 rfl (by decide) (by omega) u5 x5_2 (wrap64 ((wrap64 ((rd x303001_47 x11_2) - t306)) - x6_2)) [.int .i64 (wrap64 ((wrap64 ((rd x303001_47 x11_2) - t306)) - x6_2))] (fun k_=>(w.heap.size≤k_)) (fun _=>False) rfl rfl ?aP (fun _ hk=>hk.elim) ?aF ?aO ?aB ?aS ?aL ?_;(case aP=>exact rfl);(case aB=>exact (by repeat (first|(with_reducible first|exact HB.out|apply qa|apply qn|apply qd|refine qs ?_ GE290.out|refine qs ?_ GE291.out|refine qs ?_ GE292.out|refine qs ?_ GE302.out|refine qs ?_ GE303.out)|exact HB.out)));(case aF=>exact (fun k_ hk=>(Nat.le_trans (below_size (by repeat (first|(with_reducible first|exact HB.out|apply qa|apply qn|apply qd|refine qs ?_ GE290.out|refine qs ?_ GE291.out|refine qs ?_ GE292.out|refine qs ?_ GE302.out|refine qs ?_ GE303.out)|exact HB.out))) hk)));(case aO=>exact (by (with_reducible repeat (first|apply Kd.R_alloc|apply Kd.R_drewN|apply Kd.R_drew));exact HO_5.out));(case aS=>exact (below_size (by repeat (first|(with_reducible first|exact HB.out|apply qa|apply qn|apply qd|refine qs ?_ GE290.out|refine qs ?_ GE291.out|refine qs ?_ GE292.out|refine qs ?_ GE302.out|refine qs ?_ GE303.out)|exact HB.out))));(case aL=>have:=LMc103.out;omega);intro v311 w115 ho hb hg hat;rw [← Ny310.out] at ho;have n0_:=Aside0.mk (Kd.V_afterv (ok:=(fun k_=>((P0_1_ k_∨P1_1_ k_)∨w.heap.size≤k_)∧k_≠gb290∧k_≠gb291∧k_≠gb292∧k_≠gb302∧k_≠gb303)) (by (with_reducible repeat (first|apply Kd.V_alloc|apply Kd.V_drewN|apply Kd.V_drew));exact Kd.V_mono HO_291001.out (fun _ hk=>⟨⟨hk.1,⟨hk.2.2.1,⟨hk.2.2.2.1,⟨hk.2.2.2.2.1,⟨hk.2.2.2.2.2.1,hk.2.2.2.2.2.2⟩⟩⟩⟩⟩,hk.2.1⟩)) hg hat);have n1_:=Aside0.mk (Kd.V_afterv (ok:=(fun k_=>((P0_1_ k_∨P1_1_ k_)∨w.heap.size≤k_)∧k_≠gb290∧k_≠gb291∧k_≠gb292∧k_≠gb302∧k_≠gb303)) (by (with_reducible repeat (first|apply Kd.V_alloc|apply Kd.V_drewN|apply Kd.V_drew));exact Kd.V_mono HO_292001.out (fun _ hk=>⟨⟨hk.1,⟨hk.2.2.1,⟨hk.2.2.2.1,⟨hk.2.2.2.2.1,⟨hk.2.2.2.2.2.1,hk.2.2.2.2.2.2⟩⟩⟩⟩⟩,hk.2.1⟩)) hg hat);have n2_:=Aside0.mk (Kd.V_afterv (ok:=(fun k_=>((P0_1_ k_∨P1_1_ k_)∨w.heap.size≤k_)∧k_≠gb290∧k_≠gb291∧k_≠gb292∧k_≠gb302∧k_≠gb303)) (by (with_reducible repeat (first|apply Kd.V_alloc|apply Kd.V_drewN|apply Kd.V_drew));exact Kd.V_mono HO_303001.out (fun _ hk=>⟨⟨hk.1,⟨hk.2.2.1,⟨hk.2.2.2.1,⟨hk.2.2.2.2.1,⟨hk.2.2.2.2.2.1,hk.2.2.2.2.2.2⟩⟩⟩⟩⟩,hk.2.1⟩)) hg hat);have n3_:=Aside0.mk (Kd.V_afterv (ok:=(fun k_=>((P0_1_ k_∨P1_1_ k_)∨w.heap.size≤k_)∧k_≠gb290∧k_≠gb291∧k_≠gb292∧k_≠gb302∧k_≠gb303)) (by (with_reducible repeat (first|apply Kd.V_alloc|apply Kd.V_drewN|apply Kd.V_drew));exact Kd.V_mono HO_304001.out (fun _ hk=>⟨⟨hk.1,⟨hk.2.2.1,⟨hk.2.2.2.1,⟨hk.2.2.2.2.1,⟨hk.2.2.2.2.2.1,hk.2.2.2.2.2.2⟩⟩⟩⟩⟩,hk.2.1⟩)) hg hat);have n4_:=Aside0.mk (blk_grown (g:=gb290) (o := .cells #[.bool a0_0,.slice A0_1 l0_1.length c0_1] 71 (0,0)) (by exact lb BK290.out) hg (Kd.R_ne HO_5.out BK290.out (by decide)));have n5_:=Aside0.mk (blk_grown (g:=gb291) (o := .cells #[.bool a1_0,.slice A1_1 l1_1.length c1_1] 71 (0,0)) (by exact lb BK291.out) hg (Kd.R_ne HO_5.out BK291.out (by decide)));have n6_:=Aside0.mk (blk_grown (g:=gb292) (o := .cells #[.bool false,.slice none 0 0] 71 (0,0)) (by exact lb BK292.out) hg (Kd.R_ne HO_5.out BK292.out (by decide)));have n7_:=Aside0.mk (blk_grown (g:=gb302) (o := .cells #[.bool x303000_47,.slice (some ad305) x303001_47.length co109] 71 (0,0)) (by exact lb BK302.out) hg (Kd.R_ne HO_5.out BK302.out (by decide)));have n8_:=Aside0.mk (blk_grown (g:=gb303) (o := .cells #[.bool x304000_47,.slice Ao114 x304001_47.length co114] 71 (0,0)) (by exact lb BK303.out) hg (Kd.R_ne HO_5.out BK303.out (by decide)));have n9_:=Aside0.mk (hb);have n10_:=Aside0.mk (ho);clear HO_291001;clear HO_292001;clear HO_303001;clear HO_304001;clear BK290;clear BK291;clear BK292;clear BK302;clear BK303;clear HB;clear HO_5;have HO_291001:=n0_;have HO_292001:=n1_;have HO_303001:=n2_;have HO_304001:=n3_;have BK290:=n4_;have BK291:=n5_;have BK292:=n6_;have BK302:=n7_;have BK303:=n8_;have HB:=n9_;have HO312:=n10_;clear n0_ n1_ n2_ n3_ n4_ n5_ n6_ n7_ n8_ n9_ n10_;clear ho hb hg hat)))
      go_roundg k2
      case measure=>have:=HJ47.out;have:=HK2.out;omega
      case rel=>exact ⟨(y310),(0),(wrap64 (x11_2+1)),(by first|rfl|(simp;done)|(simp [*];done)),(by first|rfl|(simp;done)|(simp [*];done)),H',⟨by have:=HJ47.out;have:=HK2.out;omega⟩,⟨by (with_reducible repeat (first|apply Kd.R_alloc|apply Kd.R_drewN|apply Kd.R_drew));exact HO312.out⟩,⟨by (with_reducible repeat (first|apply Kd.V_alloc|apply Kd.V_drewN|apply Kd.V_drew));exact Kd.V_mono HO_291001.out (fun _ hk=>⟨hk.1.1,⟨hk.2,⟨hk.1.2.1,⟨hk.1.2.2.1,⟨hk.1.2.2.2.1,⟨hk.1.2.2.2.2.1,hk.1.2.2.2.2.2⟩⟩⟩⟩⟩⟩)⟩,⟨by (with_reducible repeat (first|apply Kd.V_alloc|apply Kd.V_drewN|apply Kd.V_drew));exact Kd.V_mono HO_292001.out (fun _ hk=>⟨hk.1.1,⟨hk.2,⟨hk.1.2.1,⟨hk.1.2.2.1,⟨hk.1.2.2.2.1,⟨hk.1.2.2.2.2.1,hk.1.2.2.2.2.2⟩⟩⟩⟩⟩⟩)⟩,⟨by (with_reducible repeat (first|apply Kd.V_alloc|apply Kd.V_drewN|apply Kd.V_drew));exact Kd.V_mono HO_303001.out (fun _ hk=>⟨hk.1.1,⟨hk.2,⟨hk.1.2.1,⟨hk.1.2.2.1,⟨hk.1.2.2.2.1,⟨hk.1.2.2.2.2.1,hk.1.2.2.2.2.2⟩⟩⟩⟩⟩⟩)⟩,⟨by (with_reducible repeat (first|apply Kd.V_alloc|apply Kd.V_drewN|apply Kd.V_drew));exact Kd.V_mono HO_304001.out (fun _ hk=>⟨hk.1.1,⟨hk.2,⟨hk.1.2.1,⟨hk.1.2.2.1,⟨hk.1.2.2.2.1,⟨hk.1.2.2.2.2.1,hk.1.2.2.2.2.2⟩⟩⟩⟩⟩⟩)⟩,⟨by (with_reducible repeat (first|refine cn ?_ _|refine cd ?_|refine ca ?_ _));exact BK290.out⟩,⟨by (with_reducible repeat (first|refine cn ?_ _|refine cd ?_|refine ca ?_ _));exact BK291.out⟩,⟨by (with_reducible repeat (first|refine cn ?_ _|refine cd ?_|refine ca ?_ _));exact BK292.out⟩,⟨by (with_reducible repeat (first|refine cn ?_ _|refine cd ?_|refine ca ?_ _));exact BK302.out⟩,⟨by (with_reducible repeat (first|refine cn ?_ _|refine cd ?_|refine ca ?_ _));exact BK303.out⟩,⟨by repeat (first|(with_reducible first|exact HB.out|apply qa|apply qn|apply qd|refine qs ?_ GE290.out|refine qs ?_ GE291.out|refine qs ?_ GE292.out|refine qs ?_ GE302.out|refine qs ?_ GE303.out)|exact HB.out)⟩⟩
     rw [if_pos c89] at H
     have c89b0:decide ((wrap64 ((wrap64 ((rd x303001_47 x11_2) - t306)) - x6_2)) < 0)=true:=decide_eq_true c89
     clear c89
     by_cases c90:x5_2.length < 17592186044416
     rotate_left
     ·rw [if_neg c90] at H
      exact absurd H (by simp)
     rw [if_pos c90] at H
     have LMc90:=Aside0.mk c90
     clear c90
     obtain ⟨y307,hy307⟩:∃ y_:List Int,y_=(x5_2++[wrap64 ((wrap64 ((wrap64 ((rd x303001_47 x11_2) - t306)) - x6_2))+65536)]):=⟨_,rfl⟩
     replace H:(parquetref01_Num_Plus.l1 k2 y307 1 (wrap64 (x11_2+1)) x303000_47 x303001_47 x304000_47 x304001_47)=some (r1,r2):=by first|(rw [hy307];with_reducible exact H)|(have H2_:=(Option.bind_some _ _).symm.trans H;rw [hy307];with_reducible exact H2_)|(have H2_:=(Option.bind_some _ _).symm.trans H;with_reducible exact H2_)|with_reducible exact H|(rw [hy307];exact H)|exact H
     have Ny307:=Aside0.mk hy307
     clear hy307
     have H':=Aside0.mk H
     clear H
     have hnb91:=NB302_290.out
     have hnc91:=NB290_302.out
     have hnb92:=NB302_291.out
     have hnc92:=NB291_302.out
     have hnb93:=NB302_292.out
     have hnc93:=NB292_302.out
     have hnb94:=NB302_303.out
     have hnc94:=NB303_302.out
     obtain ⟨hcz95_0,hcz95_1⟩:=cl2 BK302.out
     obtain ⟨hfz95_0,hfz95_1⟩:=fr2 BK302.out
     obtain ⟨Ao96,co96,eo96⟩:=Kd.V_slice HO_303001.out
     subst eo96
     have p305:0≤(x11_2:Int):=of_decide_eq_true (by first|(with_reducible assumption)|assumption)
     have q305:x11_2 < (x303001_47.length:Int):=of_decide_eq_true (by first|(with_reducible assumption)|assumption)
     obtain ⟨ad305,e305,hx305_0⟩:=Kd.at_int (Kd.V_reads' HO_303001.out).2.2 x11_2 p305 q305
     cases e305
     replace p305:=eq_true p305
     replace q305:=eq_true q305
     have hnb97:=NB303_290.out
     have hnc97:=NB290_303.out
     have hnb98:=NB303_291.out
     have hnc98:=NB291_303.out
     have hnb99:=NB303_292.out
     have hnc99:=NB292_303.out
     obtain ⟨hcz100_0,hcz100_1⟩:=cl2 BK303.out
     obtain ⟨hfz100_0,hfz100_1⟩:=fr2 BK303.out
     obtain ⟨Ao101,co101,eo101⟩:=Kd.V_slice HO_304001.out
     subst eo101
     go_wp2_with (fail)
     repeat (go_quiet (first|(go_at_call 83;(with_reducible refine (parquetref01_digit.calls _ _ x304001_47 x11_2 t306 _ ?side1 ?side2 A88.out).mono ?_);(case side1=>repeat (first|exact (Kd.V_reads' HO_304001.out).2.2|(with_reducible refine Kd.C_alloc ?_ _)|(with_reducible refine Kd.C_drewN ?_ _)|(with_reducible refine Kd.C_drew ?_)));(case side2=>exact (Kd.V_reads' HO_304001.out).2.1);rintro e w' ⟨rfl,⟨nd,rfl⟩⟩;(try first|exact ⟨rfl,_,World.drewN_drewN _ _ _⟩|exact ⟨rfl,_,Eq.trans (World.drewN_drewN _ _ _) (congrArg (World.drewN _) (Nat.add_assoc _ _ _))⟩)));try go_wp2_with (first|((with_reducible refine gate_builtin (b := .append) (xs:=#[.tmp 91,.tmp 93]) rfl ?_);(try (refine gate_guard (by rfl) ?_;dsimp only));at_builtin;refine Kd.R_append (Kd.int .i64) (w0:=w) w.heap.size rfl (.tmp 91) (.tmp 93) 34 3 (.int .i64 0) 8 rfl Tryz.underlying34 info3 rfl (by decide) (by omega) u5 x5_2 (wrap64 ((wrap64 ((wrap64 ((rd x303001_47 x11_2) - t306)) - x6_2))+65536)) [.int .i64 (wrap64 ((wrap64 ((wrap64 ((rd x303001_47 x11_2) - t306)) - x6_2))+65536))] (fun k_=>(w.heap.size≤k_)) (fun _=>False) rfl rfl ?aP (fun _ hk=>hk.elim) ?aF ?aO ?aB ?aS ?aL ?_;(case aP=>exact rfl);(case aB=>exact (by repeat (first|(with_reducible first|exact HB.out|apply qa|apply qn|apply qd|refine qs ?_ GE290.out|refine qs ?_ GE291.out|refine qs ?_ GE292.out|refine qs ?_ GE302.out|refine qs ?_ GE303.out)|exact HB.out)));(case aF=>exact (fun k_ hk=>(Nat.le_trans (below_size (by repeat (first|(with_reducible first|exact HB.out|apply qa|apply qn|apply qd|refine qs ?_ GE290.out|refine qs ?_ GE291.out|refine qs ?_ GE292.out|refine qs ?_ GE302.out|refine qs ?_ GE303.out)|exact HB.out))) hk)));(case aO=>exact (by (with_reducible repeat (first|apply Kd.R_alloc|apply Kd.R_drewN|apply Kd.R_drew));exact HO_5.out));(case aS=>exact (below_size (by repeat (first|(with_reducible first|exact HB.out|apply qa|apply qn|apply qd|refine qs ?_ GE290.out|refine qs ?_ GE291.out|refine qs ?_ GE292.out|refine qs ?_ GE302.out|refine qs ?_ GE303.out)|exact HB.out))));(case aL=>have:=LMc90.out;omega);intro v308 w102 ho hb hg hat;rw [← Ny307.out] at ho;have n0_:=Aside0.mk (Kd.V_afterv (ok:=(fun k_=>((P0_1_ k_∨P1_1_ k_)∨w.heap.size≤k_)∧k_≠gb290∧k_≠gb291∧k_≠gb292∧k_≠gb302∧k_≠gb303)) (by (with_reducible repeat (first|apply Kd.V_alloc|apply Kd.V_drewN|apply Kd.V_drew));exact Kd.V_mono HO_291001.out (fun _ hk=>⟨⟨hk.1,⟨hk.2.2.1,⟨hk.2.2.2.1,⟨hk.2.2.2.2.1,⟨hk.2.2.2.2.2.1,hk.2.2.2.2.2.2⟩⟩⟩⟩⟩,hk.2.1⟩)) hg hat);have n1_:=Aside0.mk (Kd.V_afterv (ok:=(fun k_=>((P0_1_ k_∨P1_1_ k_)∨w.heap.size≤k_)∧k_≠gb290∧k_≠gb291∧k_≠gb292∧k_≠gb302∧k_≠gb303)) (by (with_reducible repeat (first|apply Kd.V_alloc|apply Kd.V_drewN|apply Kd.V_drew));exact Kd.V_mono HO_292001.out (fun _ hk=>⟨⟨hk.1,⟨hk.2.2.1,⟨hk.2.2.2.1,⟨hk.2.2.2.2.1,⟨hk.2.2.2.2.2.1,hk.2.2.2.2.2.2⟩⟩⟩⟩⟩,hk.2.1⟩)) hg hat);have n2_:=Aside0.mk (Kd.V_afterv (ok:=(fun k_=>((P0_1_ k_∨P1_1_ k_)∨w.heap.size≤k_)∧k_≠gb290∧k_≠gb291∧k_≠gb292∧k_≠gb302∧k_≠gb303)) (by (with_reducible repeat (first|apply Kd.V_alloc|apply Kd.V_drewN|apply Kd.V_drew));exact Kd.V_mono HO_303001.out (fun _ hk=>⟨⟨hk.1,⟨hk.2.2.1,⟨hk.2.2.2.1,⟨hk.2.2.2.2.1,⟨hk.2.2.2.2.2.1,hk.2.2.2.2.2.2⟩⟩⟩⟩⟩,hk.2.1⟩)) hg hat);have n3_:=Aside0.mk (Kd.V_afterv (ok:=(fun k_=>((P0_1_ k_∨P1_1_ k_)∨w.heap.size≤k_)∧k_≠gb290∧k_≠gb291∧k_≠gb292∧k_≠gb302∧k_≠gb303)) (by (with_reducible repeat (first|apply Kd.V_alloc|apply Kd.V_drewN|apply Kd.V_drew));exact Kd.V_mono HO_304001.out (fun _ hk=>⟨⟨hk.1,⟨hk.2.2.1,⟨hk.2.2.2.1,⟨hk.2.2.2.2.1,⟨hk.2.2.2.2.2.1,hk.2.2.2.2.2.2⟩⟩⟩⟩⟩,hk.2.1⟩)) hg hat);have n4_:=Aside0.mk (blk_grown (g:=gb290) (o := .cells #[.bool a0_0,.slice A0_1 l0_1.length c0_1] 71 (0,0)) (by exact lb BK290.out) hg (Kd.R_ne HO_5.out BK290.out (by decide)));have n5_:=Aside0.mk (blk_grown (g:=gb291) (o := .cells #[.bool a1_0,.slice A1_1 l1_1.length c1_1] 71 (0,0)) (by exact lb BK291.out) hg (Kd.R_ne HO_5.out BK291.out (by decide)));have n6_:=Aside0.mk (blk_grown (g:=gb292) (o := .cells #[.bool false,.slice none 0 0] 71 (0,0)) (by exact lb BK292.out) hg (Kd.R_ne HO_5.out BK292.out (by decide)));have n7_:=Aside0.mk (blk_grown (g:=gb302) (o := .cells #[.bool x303000_47,.slice (some ad305) x303001_47.length co96] 71 (0,0)) (by exact lb BK302.out) hg (Kd.R_ne HO_5.out BK302.out (by decide)));have n8_:=Aside0.mk (blk_grown (g:=gb303) (o := .cells #[.bool x304000_47,.slice Ao101 x304001_47.length co101] 71 (0,0)) (by exact lb BK303.out) hg (Kd.R_ne HO_5.out BK303.out (by decide)));have n9_:=Aside0.mk (hb);have n10_:=Aside0.mk (ho);clear HO_291001;clear HO_292001;clear HO_303001;clear HO_304001;clear BK290;clear BK291;clear BK292;clear BK302;clear BK303;clear HB;clear HO_5;have HO_291001:=n0_;have HO_292001:=n1_;have HO_303001:=n2_;have HO_304001:=n3_;have BK290:=n4_;have BK291:=n5_;have BK292:=n6_;have BK302:=n7_;have BK303:=n8_;have HB:=n9_;have HO309:=n10_;clear n0_ n1_ n2_ n3_ n4_ n5_ n6_ n7_ n8_ n9_ n10_;clear ho hb hg hat)))
     go_roundg k2
     case measure=>have:=HJ47.out;have:=HK2.out;omega
     case rel=>exact ⟨(y307),(1),(wrap64 (x11_2+1)),(by first|rfl|(simp;done)|(simp [*];done)),(by first|rfl|(simp;done)|(simp [*];done)),H',⟨by have:=HJ47.out;have:=HK2.out;omega⟩,⟨by (with_reducible repeat (first|apply Kd.R_alloc|apply Kd.R_drewN|apply Kd.R_drew));exact HO309.out⟩,⟨by (with_reducible repeat (first|apply Kd.V_alloc|apply Kd.V_drewN|apply Kd.V_drew));exact Kd.V_mono HO_291001.out (fun _ hk=>⟨hk.1.1,⟨hk.2,⟨hk.1.2.1,⟨hk.1.2.2.1,⟨hk.1.2.2.2.1,⟨hk.1.2.2.2.2.1,hk.1.2.2.2.2.2⟩⟩⟩⟩⟩⟩)⟩,⟨by (with_reducible repeat (first|apply Kd.V_alloc|apply Kd.V_drewN|apply Kd.V_drew));exact Kd.V_mono HO_292001.out (fun _ hk=>⟨hk.1.1,⟨hk.2,⟨hk.1.2.1,⟨hk.1.2.2.1,⟨hk.1.2.2.2.1,⟨hk.1.2.2.2.2.1,hk.1.2.2.2.2.2⟩⟩⟩⟩⟩⟩)⟩,⟨by (with_reducible repeat (first|apply Kd.V_alloc|apply Kd.V_drewN|apply Kd.V_drew));exact Kd.V_mono HO_303001.out (fun _ hk=>⟨hk.1.1,⟨hk.2,⟨hk.1.2.1,⟨hk.1.2.2.1,⟨hk.1.2.2.2.1,⟨hk.1.2.2.2.2.1,hk.1.2.2.2.2.2⟩⟩⟩⟩⟩⟩)⟩,⟨by (with_reducible repeat (first|apply Kd.V_alloc|apply Kd.V_drewN|apply Kd.V_drew));exact Kd.V_mono HO_304001.out (fun _ hk=>⟨hk.1.1,⟨hk.2,⟨hk.1.2.1,⟨hk.1.2.2.1,⟨hk.1.2.2.2.1,⟨hk.1.2.2.2.2.1,hk.1.2.2.2.2.2⟩⟩⟩⟩⟩⟩)⟩,⟨by (with_reducible repeat (first|refine cn ?_ _|refine cd ?_|refine ca ?_ _));exact BK290.out⟩,⟨by (with_reducible repeat (first|refine cn ?_ _|refine cd ?_|refine ca ?_ _));exact BK291.out⟩,⟨by (with_reducible repeat (first|refine cn ?_ _|refine cd ?_|refine ca ?_ _));exact BK292.out⟩,⟨by (with_reducible repeat (first|refine cn ?_ _|refine cd ?_|refine ca ?_ _));exact BK302.out⟩,⟨by (with_reducible repeat (first|refine cn ?_ _|refine cd ?_|refine ca ?_ _));exact BK303.out⟩,⟨by repeat (first|(with_reducible first|exact HB.out|apply qa|apply qn|apply qd|refine qs ?_ GE290.out|refine qs ?_ GE291.out|refine qs ?_ GE292.out|refine qs ?_ GE302.out|refine qs ?_ GE303.out)|exact HB.out)⟩⟩
end Go.Proofs.YtkgagdjogedoiaaGreat.MT
namespace Go.Proofs.YtkgagdjogedoiaaGreat.MT
open Go.RowKit Go.Proofs.YtkgagdjogedoiaaGreatW.PrintWords Go.Proofs.YtkgagdjogedoiaaGreatW.PrintLast Go.Proofs.YtkgagdjogedoiaaGreatW.PrintMore
attribute [local go_sem] max2_int min2_int max_two min_two max_three min_three max_four min_four   -- for this text's walks alone
set_option linter.unusedVariables false
set_option linter.unusedSimpArgs false
end Go.Proofs.YtkgagdjogedoiaaGreat.MT
namespace Go.Proofs.YtkgagdjogedoiaaGreat.MT
open Go.RowKit Go.Proofs.YtkgagdjogedoiaaGreatW.PrintWords Go.Proofs.YtkgagdjogedoiaaGreatW.PrintLast Go.Proofs.YtkgagdjogedoiaaGreatW.PrintMore
attribute [local go_sem] max2_int min2_int max_two min_two max_three min_three max_four min_four   -- for this text's walks alone
set_option linter.unusedVariables false
set_option linter.unusedSimpArgs false
/-! ### parquetref01_Num_Times: function 29 -/
mutual
def parquetref01_Num_Times.l0:Nat→List Int→Int→Bool→List Int→Bool→List Int→Option (Bool × List Int)
 | 0,_,_,_,_,_,_=>none
 | k+1,x5,x6,x473000,x473001,x474000,x474001=>if x6 < (x473001.length:Int) then (parquetref01_Num_Times.l1 k x5 x6 0 0 x473000 x473001 x474000 x474001) else ((parquetref01_trim.f k (!(x473000==x474000)) x5).bind fun bt478=>(some (bt478.1,bt478.2)))
def parquetref01_Num_Times.l1:Nat→List Int→Int→Int→Int→Bool→List Int→Bool→List Int→Option (Bool × List Int)
 | 0,_,_,_,_,_,_,_,_=>none
 | k+1,x5,x6,x7,x8,x473000,x473001,x474000,x474001=>if x8 < (x474001.length:Int) then (if 0≤(wrap64 (x6+x8)) then (if (wrap64 (x6+x8)) < (x5.length:Int) then (if 0≤x6 then (if x6 < (x473001.length:Int) then ((parquetref01_digit.f x474001 x8).bind fun t484=>(parquetref01_Num_Times.l1 k (x5.set ((wrap64 (x6+x8)):Int).toNat (Int.tmod (wrap64 ((wrap64 ((rd x5 (wrap64 (x6+x8)))+(wrap64 ((rd x473001 x6) * t484))))+x7)) 65536)) x6 (wrap64 (Int.tdiv (wrap64 ((wrap64 ((rd x5 (wrap64 (x6+x8)))+(wrap64 ((rd x473001 x6) * t484))))+x7)) 65536)) (wrap64 (x8+1)) x473000 x473001 x474000 x474001)) else (none)) else (none)) else (none)) else (none)) else (if x7 > 0 then (if 0≤(wrap64 (x6+x8)) then (if (wrap64 (x6+x8)) < (x5.length:Int) then (if 0≤x6 then (if x6 < (x473001.length:Int) then ((parquetref01_digit.f x474001 x8).bind fun t488=>(parquetref01_Num_Times.l1 k (x5.set ((wrap64 (x6+x8)):Int).toNat (Int.tmod (wrap64 ((wrap64 ((rd x5 (wrap64 (x6+x8)))+(wrap64 ((rd x473001 x6) * t488))))+x7)) 65536)) x6 (wrap64 (Int.tdiv (wrap64 ((wrap64 ((rd x5 (wrap64 (x6+x8)))+(wrap64 ((rd x473001 x6) * t488))))+x7)) 65536)) (wrap64 (x8+1)) x473000 x473001 x474000 x474001)) else (none)) else (none)) else (none)) else (none)) else (parquetref01_Num_Times.l0 k x5 (wrap64 (x6+1)) x473000 x473001 x474000 x474001))
end
def parquetref01_Num_Times.f (k:Nat) (a0_0:Bool) (l0_1:List Int) (a1_0:Bool) (l1_1:List Int):Option (Bool × List Int):=if 0≤(wrap64 ((wrap64 ((l0_1.length:Int)+(l1_1.length:Int)))+1)) then (if (wrap64 ((wrap64 ((l0_1.length:Int)+(l1_1.length:Int)))+1):Int).toNat≤35184372088832 then (parquetref01_Num_Times.l0 k (List.replicate (wrap64 ((wrap64 ((l0_1.length:Int)+(l1_1.length:Int)))+1):Int).toNat 0) 0 a0_0 l0_1 a1_0 l1_1) else (none)) else (none)
theorem parquetref01_Num_Times.mono_l:∀ k,(∀ y0 y1 y2 y3 y4 y5,LeO (parquetref01_Num_Times.l0 k y0 y1 y2 y3 y4 y5) (parquetref01_Num_Times.l0 (k+1) y0 y1 y2 y3 y4 y5))∧(∀ y0 y1 y2 y3 y4 y5 y6 y7,LeO (parquetref01_Num_Times.l1 k y0 y1 y2 y3 y4 y5 y6 y7) (parquetref01_Num_Times.l1 (k+1) y0 y1 y2 y3 y4 y5 y6 y7))
 | 0=>⟨fun _ _ _ _ _ _ r h=>by simp [parquetref01_Num_Times.l0] at h,fun _ _ _ _ _ _ _ _ r h=>by simp [parquetref01_Num_Times.l1] at h⟩
 | k+1=>by
  obtain ⟨ih0,ih1⟩:=parquetref01_Num_Times.mono_l k
  refine ⟨?_,?_⟩
  ·intro y0 y1 y2 y3 y4 y5
   unfold parquetref01_Num_Times.l0
   repeat' first
   | (with_reducible exact ih0 _ _ _ _ _ _)
   | (with_reducible exact ih1 _ _ _ _ _ _ _ _)
   | (with_reducible exact parquetref01_trim.mono _ _ _)
   | (with_reducible exact LeO.refl _)
   | (with_reducible exact LeO.none _)
   | (with_reducible refine LeO.ite ?_ ?_)
   | (with_reducible refine LeO.bind ?_ (fun _=>?_))
   | exact ih0 _ _ _ _ _ _
   | exact ih1 _ _ _ _ _ _ _ _
   | exact parquetref01_trim.mono _ _ _
   | exact LeO.none _
   | refine LeO.ite ?_ ?_
   | refine LeO.bind ?_ (fun _=>?_)
  ·intro y0 y1 y2 y3 y4 y5 y6 y7
   unfold parquetref01_Num_Times.l1
   repeat' first
   | (with_reducible exact ih0 _ _ _ _ _ _)
   | (with_reducible exact ih1 _ _ _ _ _ _ _ _)
   | (with_reducible exact parquetref01_trim.mono _ _ _)
   | (with_reducible exact LeO.refl _)
   | (with_reducible exact LeO.none _)
   | (with_reducible refine LeO.ite ?_ ?_)
   | (with_reducible refine LeO.bind ?_ (fun _=>?_))
   | exact ih0 _ _ _ _ _ _
   | exact ih1 _ _ _ _ _ _ _ _
   | exact parquetref01_trim.mono _ _ _
   | exact LeO.none _
   | refine LeO.ite ?_ ?_
   | refine LeO.bind ?_ (fun _=>?_)
theorem parquetref01_Num_Times.mono:∀ a0 a1 a2 a3 k,LeO (parquetref01_Num_Times.f k a0 a1 a2 a3) (parquetref01_Num_Times.f (k+1) a0 a1 a2 a3):=by
 intro a0 a1 a2 a3 k
 obtain ⟨ih0,ih1⟩:=parquetref01_Num_Times.mono_l k
 unfold parquetref01_Num_Times.f
 repeat' first
   | (with_reducible exact ih0 _ _ _ _ _ _)
   | (with_reducible exact ih1 _ _ _ _ _ _ _ _)
   | (with_reducible exact parquetref01_trim.mono _ _ _)
   | (with_reducible exact LeO.refl _)
   | (with_reducible exact LeO.none _)
   | (with_reducible refine LeO.ite ?_ ?_)
   | (with_reducible refine LeO.bind ?_ (fun _=>?_))
   | exact ih0 _ _ _ _ _ _
   | exact ih1 _ _ _ _ _ _ _ _
   | exact parquetref01_trim.mono _ _ _
   | exact LeO.none _
   | refine LeO.ite ?_ ?_
   | refine LeO.bind ?_ (fun _=>?_)
set_option maxHeartbeats 8000000 in
set_option maxRecDepth 100000 in
theorem parquetref01_Num_Times.calls (k:Nat) (a0_0:Bool) (A0_1:Option Addr) (c0_1:Nat) (l0_1:List Int) (a1_0:Bool) (A1_1:Option Addr) (c1_1:Nat) (l1_1:List Int) (r1:Bool) (r2:List Int) (w:World) (hr0_1:Kd.C (Kd.int .i64) w A0_1 l0_1.length l0_1) (hc0_1:l0_1.length≤c0_1) (hr1_1:Kd.C (Kd.int .i64) w A1_1 l1_1.length l1_1) (hc1_1:l1_1.length≤c1_1) (h:parquetref01_Num_Times.f k a0_0 l0_1 a1_0 l1_1=some (r1,r2)) :
  Calls Tryz.prog 71 #[.agg #[.bool a0_0,.slice A0_1 l0_1.length c0_1],.agg #[.bool a1_0,.slice A1_1 l1_1.length c1_1]] w fun e w'=>∃ v1_:Value,e = .returned (.agg #[.bool r1,v1_])∧Kd.V (Kd.int .i64) 3 w' w.heap.size (fun k_=>(w.heap.size≤k_)) v1_ r2∧Below w.heap.size w w':=by
 have hu38:=Tryz.underlying71
 have HR0_1:=Aside0.mk hr0_1
 have HC0_1:=Aside0.mk hc0_1
 clear hr0_1 hc0_1
 have HR1_1:=Aside0.mk hr1_1
 have HC1_1:=Aside0.mk hc1_1
 clear hr1_1 hc1_1
 have HB:=Aside0.mk (Below.refl w.heap.size w)
 have H:(if 0≤(wrap64 ((wrap64 ((l0_1.length:Int)+(l1_1.length:Int)))+1)) then (if (wrap64 ((wrap64 ((l0_1.length:Int)+(l1_1.length:Int)))+1):Int).toNat≤35184372088832 then (parquetref01_Num_Times.l0 k (List.replicate (wrap64 ((wrap64 ((l0_1.length:Int)+(l1_1.length:Int)))+1):Int).toNat 0) 0 a0_0 l0_1 a1_0 l1_1) else (none)) else (none))=some (r1,r2):=h
 clear h
 obtain ⟨ji3,hji3⟩:∃ j_:Int,(wrap64 ((wrap64 ((l0_1.length:Int)+(l1_1.length:Int)))+1))=j_:=⟨_,rfl⟩
 replace H:(if 0≤(ji3) then (if (ji3:Int).toNat≤35184372088832 then (parquetref01_Num_Times.l0 k (List.replicate (ji3:Int).toNat 0) 0 a0_0 l0_1 a1_0 l1_1) else (none)) else (none))=some (r1,r2):=by first|(rw [hji3] at H;exact H)|(simp only [hji3] at H ⊢;exact H)
 have hji3w:(IntKind.i64.wrap ((wrap64 ((l0_1.length:Int)+(l1_1.length:Int)))+1))=ji3:=(i64_w _).trans hji3
 by_cases c4:0≤(ji3)
 rotate_left
 ·rw [if_neg c4] at H
  exact absurd H (by simp)
 rw [if_pos c4] at H
 have c4b0:=eq_true c4
 have c4b1:decide (0≤(ji3))=true:=decide_eq_true c4
 clear c4
 by_cases c5:(ji3:Int).toNat≤35184372088832
 rotate_left
 ·rw [if_neg c5] at H
  exact absurd H (by simp)
 rw [if_pos c5] at H
 have c5b0:=eq_true c5
 have c5b1:decide ((ji3:Int).toNat≤35184372088832)=true:=decide_eq_true c5
 clear c5
 obtain ⟨y475,hy475⟩:∃ y_:List Int,y_=(List.replicate (ji3:Int).toNat 0):=⟨_,rfl⟩
 replace H:(parquetref01_Num_Times.l0 k y475 0 a0_0 l0_1 a1_0 l1_1)=some (r1,r2):=by first|(rw [hy475];with_reducible exact H)|(have H2_:=(Option.bind_some _ _).symm.trans H;rw [hy475];with_reducible exact H2_)|(have H2_:=(Option.bind_some _ _).symm.trans H;with_reducible exact H2_)|with_reducible exact H|(rw [hy475];exact H)|exact H
 have Ny475:=Aside0.mk hy475
 clear hy475
 have H':=Aside0.mk H
 clear H
 go_enter Tryz.func71,Tryz.ntmps71
 go_wp2_with (first|((with_reducible refine gate_dst (N:=2) rfl ?_);refine box_event ?hg (N:=2) ?hd (cs:=#[.bool a0_0,.slice A0_1 l0_1.length c0_1]) (t:=71) ?hr ?_;(case hd=>rfl);(case hg=>rfl);(case hr=>first|(go_simp;done)|(go_simp;rfl));intro gb472 hg w6 hbox hb;have n0_:=Aside0.mk (below_step (by repeat (first|(with_reducible first|exact HB.out|apply qa|apply qn|apply qd)|exact HB.out)) hb);have n1_:=Aside0.mk (hbox);have n2_:=bgw HB hg;have n3_:=bgw HB hg;clear HB;have HB:=n0_;have BK472:=n1_;have GW472:=n2_;have GE472:=n3_;clear n0_ n1_ n2_ n3_;clear hb hbox hg)|((with_reducible refine gate_dst (N:=3) rfl ?_);refine box_event ?hg (N:=3) ?hd (cs:=#[.bool a1_0,.slice A1_1 l1_1.length c1_1]) (t:=71) ?hr ?_;(case hd=>rfl);(case hg=>rfl);(case hr=>first|(go_simp;done)|(go_simp;rfl));intro gb473 hg w7 hbox hb;have n0_:=bb BK472 hb;have n1_:=Aside0.mk (below_step (by repeat (first|(with_reducible first|exact HB.out|apply qa|apply qn|apply qd|refine qs ?_ GE472.out)|exact HB.out)) hb);have n2_:=Aside0.mk (hbox);have n3_:=bgw HB hg;have n4_:=bgw HB hg;have n5_:=bnl BK472 hg;have n6_:=bng BK472 hg;clear BK472;clear HB;have BK472:=n0_;have HB:=n1_;have BK473:=n2_;have GW473:=n3_;have GE473:=n4_;have NB472_473:=n5_;have NB473_472:=n6_;clear n0_ n1_ n2_ n3_ n4_ n5_ n6_;clear hb hbox hg)|((with_reducible refine gate_dst (N:=4) rfl ?_);refine box_event ?hg (N:=4) ?hd (cs:=#[.bool false,.slice none 0 0]) (t:=71) ?hr ?_;(case hd=>rfl);(case hg=>rfl);(case hr=>first|(go_simp;done)|(go_simp;rfl));intro gb474 hg w8 hbox hb;have n0_:=bb BK472 hb;have n1_:=bb BK473 hb;have n2_:=Aside0.mk (below_step (by repeat (first|(with_reducible first|exact HB.out|apply qa|apply qn|apply qd|refine qs ?_ GE472.out|refine qs ?_ GE473.out)|exact HB.out)) hb);have n3_:=Aside0.mk (hbox);have n4_:=bgw HB hg;have n5_:=bgw HB hg;have n6_:=bnl BK472 hg;have n7_:=bng BK472 hg;have n8_:=bnl BK473 hg;have n9_:=bng BK473 hg;clear BK472;clear BK473;clear HB;have BK472:=n0_;have BK473:=n1_;have HB:=n2_;have BK474:=n3_;have GW474:=n4_;have GE474:=n5_;have NB472_474:=n6_;have NB474_472:=n7_;have NB473_474:=n8_;have NB474_473:=n9_;clear n0_ n1_ n2_ n3_ n4_ n5_ n6_ n7_ n8_ n9_;clear hb hbox hg;have hnb9:=NB472_473.out;have hnc9:=NB473_472.out;have hnb10:=NB472_474.out;have hnc10:=NB474_472.out;obtain ⟨hcz11_0,hcz11_1⟩:=cl2 BK472.out;obtain ⟨hfz11_0,hfz11_1⟩:=fr2 BK472.out;have hnb12:=NB473_474.out;have hnc12:=NB474_473.out;obtain ⟨hcz13_0,hcz13_1⟩:=cl2 BK473.out;obtain ⟨hfz13_0,hfz13_1⟩:=fr2 BK473.out)|((with_reducible refine gate_dst (N:=18) rfl ?_);refine Kd.R_make (Kd.int .i64) _ 3 rfl (N:=18) rfl 34 _ _ rfl ji3 rfl rfl Tryz.underlying34 (.int .i64 0) 8 info3 rfl (by decide) (by omega) 0 (ok:=fun _=>True) (okp:=fun _=>True) rfl (fun _ hk=>hk) trivial (of_decide_eq_true (by first|(with_reducible assumption)|assumption)) (Nat.le_trans (Nat.mul_le_mul_right _ (of_decide_eq_true (by first|(with_reducible assumption)|assumption):ji3.toNat≤35184372088832)) (by omega)) (Below.refl _ _) (Nat.le_refl _) ?_;intro v476 w14 ho15 hb hg_ hnew_;clear hg_ hnew_;(first|rw [← Ny475.out] at ho15|(simp only [Int.reduceToNat] at ho15;rw [← Ny475.out] at ho15));have n0_:=Aside0.mk (Kd.R_lower (Kd.R_newM (M:=fun k_=>(w.heap.size≤k_)) ho15 (below_size (by repeat (first|(with_reducible first|exact HB.out|apply qa|apply qn|apply qd|refine qs ?_ GE472.out|refine qs ?_ GE473.out|refine qs ?_ GE474.out)|exact HB.out))) (fun k_ h_=>h_)) (below_size (by repeat (first|(with_reducible first|exact HB.out|apply qa|apply qn|apply qd|refine qs ?_ GE472.out|refine qs ?_ GE473.out|refine qs ?_ GE474.out)|exact HB.out))));have n1_:=bb BK472 hb;have n2_:=bb BK473 hb;have n3_:=bb BK474 hb;have n4_:=Aside0.mk (below_step (by repeat (first|(with_reducible first|exact HB.out|apply qa|apply qn|apply qd|refine qs ?_ GE472.out|refine qs ?_ GE473.out|refine qs ?_ GE474.out)|exact HB.out)) hb);clear BK472;clear BK473;clear BK474;clear HB;have HO477:=n0_;have BK472:=n1_;have BK473:=n2_;have BK474:=n3_;have HB:=n4_;clear n0_ n1_ n2_ n3_ n4_;clear hb ho15))
 repeat (go_quiet (fail);try go_wp2_with (fail))
 go_loopg [6] k (fun kq v6 w'=>∃ (x5_1:List Int) (x6_1:Int),v6 = .int .i64 x6_1∧Aside0 (parquetref01_Num_Times.l0 kq x5_1 x6_1 a0_0 l0_1 a1_0 l1_1=some (r1,r2))∧Aside0 (kq≤k)∧Aside0 (Kd.R (Kd.int .i64) 3 w' w.heap.size (fun k_=>(w.heap.size≤k_)) v476 x5_1)∧Aside0 (w'.heap[gb472]?=some (.cells #[.bool a0_0,(.slice A0_1 l0_1.length c0_1)] 71 (0,0)))∧Aside0 (w'.heap[gb473]?=some (.cells #[.bool a1_0,(.slice A1_1 l1_1.length c1_1)] 71 (0,0)))∧Aside0 (w'.heap[gb474]?=some (.cells #[.bool false,(.slice none 0 0)] 71 (0,0)))∧Aside0 (Below w.heap.size w w'))
 case atStart=>exact ⟨(y475),(0),(by first|rfl|(simp;done)|(simp [*];done)),H',⟨Nat.le_refl _⟩,⟨by (with_reducible repeat (first|apply Kd.R_alloc|apply Kd.R_drewN|apply Kd.R_drew));exact Kd.R_mono HO477.out (fun _ hk=>hk.1)⟩,⟨by (with_reducible repeat (first|refine cn ?_ _|refine cd ?_|refine ca ?_ _));exact BK472.out⟩,⟨by (with_reducible repeat (first|refine cn ?_ _|refine cd ?_|refine ca ?_ _));exact BK473.out⟩,⟨by (with_reducible repeat (first|refine cn ?_ _|refine cd ?_|refine ca ?_ _));exact BK474.out⟩,⟨by repeat (first|(with_reducible first|exact HB.out|apply qa|apply qn|apply qd|refine qs ?_ GE472.out|refine qs ?_ GE473.out|refine qs ?_ GE474.out)|exact HB.out)⟩⟩
 case round =>
  clear H'
  try clear c1
  try clear c2
  try clear p2
  try clear c4
  try clear c4b0
  try clear c4b1
  try clear c5
  try clear c5b0
  try clear c5b1
  try clear p6
  try clear c9
  try clear c10
  try clear c12
  try clear hcz11_0
  try clear hcz11_1
  try clear hcz13_0
  try clear hcz13_1
  try clear hfz11_0
  try clear hfz11_1
  try clear hfz13_0
  try clear hfz13_1
  obtain ⟨x5_1,x6_1,rfl,HA,HK1,HO_5,BK472,BK473,BK474,HB⟩:=hrel
  cases gk with
  | zero=>exact absurd HA.out (by simp [parquetref01_Num_Times.l0])
  | succ k1 =>
   have H:=HA.out
   clear HA
   simp only [parquetref01_Num_Times.l0] at H
   by_cases c16:x6_1 < (l0_1.length:Int)
   rotate_left
   ·rw [if_neg c16] at H
    have c16b0:decide (x6_1 < (l0_1.length:Int))=false:=decide_eq_false c16
    clear c16
    replace H:=Option.bind_eq_some_iff.mp H
    obtain ⟨⟨t478,t479⟩,A550,H⟩:=H
    replace H:(some (t478,t479))=some (r1,r2):=H
    have A55:=Aside0.mk A550
    clear A550
    simp only [Option.some.injEq,Prod.mk.injEq] at H
    obtain ⟨rfl,rfl⟩:=H
    have hnb56:=NB472_473.out
    have hnc56:=NB473_472.out
    have hnb57:=NB472_474.out
    have hnc57:=NB474_472.out
    obtain ⟨hcz58_0,hcz58_1⟩:=cl2 BK472.out
    obtain ⟨hfz58_0,hfz58_1⟩:=fr2 BK472.out
    have hnb59:=NB473_474.out
    have hnc59:=NB474_473.out
    obtain ⟨hcz60_0,hcz60_1⟩:=cl2 BK473.out
    obtain ⟨hfz60_0,hfz60_1⟩:=fr2 BK473.out
    obtain ⟨Ao61,co61,eo61⟩:=Kd.R_slice HO_5.out
    subst eo61
    go_wp2_with (first|(go_at_call 84;(with_reducible refine (parquetref01_trim.calls k1 (!(a0_0==a1_0)) (fun k_=>some k_=(.slice Ao61 x5_1.length co61:Value).ownBlock) _ _ x5_1 t478 t479 _ ?side1 A55.out).mono ?_);(case side1=>exact Kd.R_V (Kd.R_tight rfl (Kd.R_types (Kd.R_types (Kd.R_types (HO_5.out) BK472.out (by decide)) BK473.out (by decide)) BK474.out (by decide))));rintro e w62 ⟨v480,rfl,ho0,hb⟩;have n0_:=Aside0.mk (Kd.R_below (by (with_reducible repeat (first|apply Kd.R_alloc|apply Kd.R_drewN|apply Kd.R_drew));exact HO_5.out) hb);have n1_:=Aside0.mk (Kd.V_lower (Kd.V_mono (ok':=fun k_=>(w.heap.size≤k_)∧k_≠gb472∧k_≠gb473∧k_≠gb474) ho0 (fun k_ hk_=>⟨Or.elim hk_ (fun hs_=>((Kd.R_types (Kd.R_types (Kd.R_types (HO_5.out) BK472.out (by decide)) BK473.out (by decide)) BK474.out (by decide)).1 k_ hs_.symm).1.1.1) (fun hn_=>(Nat.le_trans (below_size (by repeat (first|(with_reducible first|exact HB.out|apply qa|apply qn|apply qd|refine qs ?_ GE472.out|refine qs ?_ GE473.out|refine qs ?_ GE474.out)|exact HB.out))) hn_)),Or.elim hk_ (fun hs_=>((Kd.R_types (Kd.R_types (Kd.R_types (HO_5.out) BK472.out (by decide)) BK473.out (by decide)) BK474.out (by decide)).1 k_ hs_.symm).1.1.2) (fun hn_=>(Kd.freshB (g:=gb472) (o := .cells #[.bool a0_0,.slice A0_1 l0_1.length c0_1] 71 (0,0)) (by exact lb BK472.out) k_ hn_)),Or.elim hk_ (fun hs_=>((Kd.R_types (Kd.R_types (Kd.R_types (HO_5.out) BK472.out (by decide)) BK473.out (by decide)) BK474.out (by decide)).1 k_ hs_.symm).1.2) (fun hn_=>(Kd.freshB (g:=gb473) (o := .cells #[.bool a1_0,.slice A1_1 l1_1.length c1_1] 71 (0,0)) (by exact lb BK473.out) k_ hn_)),Or.elim hk_ (fun hs_=>((Kd.R_types (Kd.R_types (Kd.R_types (HO_5.out) BK472.out (by decide)) BK473.out (by decide)) BK474.out (by decide)).1 k_ hs_.symm).2) (fun hn_=>(Kd.freshB (g:=gb474) (o := .cells #[.bool false,.slice none 0 0] 71 (0,0)) (by exact lb BK474.out) k_ hn_))⟩)) (below_size (by repeat (first|(with_reducible first|exact HB.out|apply qa|apply qn|apply qd|refine qs ?_ GE472.out|refine qs ?_ GE473.out|refine qs ?_ GE474.out)|exact HB.out))));have n2_:=bb BK472 hb;have n3_:=bb BK473 hb;have n4_:=bb BK474 hb;have n5_:=Aside0.mk (below_step (by repeat (first|(with_reducible first|exact HB.out|apply qa|apply qn|apply qd|refine qs ?_ GE472.out|refine qs ?_ GE473.out|refine qs ?_ GE474.out)|exact HB.out)) hb);clear HO_5;clear BK472;clear BK473;clear BK474;clear HB;have HO_5:=n0_;have HO481:=n1_;have BK472:=n2_;have BK473:=n3_;have BK474:=n4_;have HB:=n5_;clear n0_ n1_ n2_ n3_ n4_ n5_;(try clear hb);(try clear hb2);(try clear hk);(try clear hi);(try clear ho0);obtain ⟨hcz63_0,hcz63_1⟩:=cl2 BK474.out;obtain ⟨hfz63_0,hfz63_1⟩:=fr2 BK474.out;obtain ⟨Ao64,co64,eo64⟩:=Kd.V_slice HO481.out;subst eo64))
    repeat (go_quiet (fail);try go_wp2_with (fail))
    refine bodyPost_ret (results_cell_row rfl _ _ gb474 71 #[.bool t478,.slice Ao64 t479.length co64] (0,0) _ rfl (by (with_reducible repeat (first|refine cn ?_ _|refine cd ?_|refine ca ?_ _));refine blk_put (cs:=#[.bool t478,.slice none 0 0]) ?_ 1 _ rfl;(with_reducible repeat (first|refine cn ?_ _|refine cd ?_|refine ca ?_ _));refine blk_put (cs:=#[.bool false,.slice none 0 0]) ?_ 0 _ rfl;(with_reducible repeat (first|refine cn ?_ _|refine cd ?_|refine ca ?_ _));exact BK474.out) Tryz.underlying71 rfl (by kernel_rfl)) rfl ?_
    exact ⟨_,by first|rfl|(simp [errW_none,errW_some]<;>rfl)|(simp only [← hji3];first|rfl|(simp [errW_none,errW_some]<;>rfl))|(simp [*,errW_none,errW_some]<;>rfl),by (with_reducible repeat (first|apply Kd.V_alloc|apply Kd.V_drewN|apply Kd.V_drew));exact Kd.V_mono (Kd.V_far (p:=⟨gb474,1,none⟩) (Kd.V_far (p:=⟨gb474,0,none⟩) (Kd.V_mono HO481.out (fun k_ hk=>(⟨hk,hk.2.2.2⟩:_∧k_≠gb474))) (fun _ hk=>hk.2) (.bool t478)) (fun _ hk=>hk.2) (.slice Ao64 t479.length co64)) (fun _ hk=>hk.1.1),by repeat (first|(with_reducible first|exact HB.out|apply qa|apply qn|apply qd|refine qs ?_ GE472.out|refine qs ?_ GE473.out|refine qs ?_ GE474.out)|exact HB.out)⟩
   rw [if_pos c16] at H
   have c16b0:decide (x6_1 < (l0_1.length:Int))=true:=decide_eq_true c16
   clear c16
   have H':=Aside0.mk H
   clear H
   have hnb17:=NB472_473.out
   have hnc17:=NB473_472.out
   have hnb18:=NB472_474.out
   have hnc18:=NB474_472.out
   obtain ⟨hcz19_0,hcz19_1⟩:=cl2 BK472.out
   obtain ⟨hfz19_0,hfz19_1⟩:=fr2 BK472.out
   go_wp2
   repeat (go_quiet (fail);try go_wp2)
   go_loopg [7,8] k1 (fun kq v7 v8 w'=>∃ (x5_2:List Int) (x7_2:Int) (x8_2:Int),v7 = .int .i64 x7_2∧v8 = .int .i64 x8_2∧Aside0 (parquetref01_Num_Times.l1 kq x5_2 x6_1 x7_2 x8_2 a0_0 l0_1 a1_0 l1_1=some (r1,r2))∧Aside0 (kq≤k1)∧Aside0 (Kd.R (Kd.int .i64) 3 w' w.heap.size (fun k_=>(w.heap.size≤k_)) v476 x5_2)∧Aside0 (w'.heap[gb472]?=some (.cells #[.bool a0_0,(.slice A0_1 l0_1.length c0_1)] 71 (0,0)))∧Aside0 (w'.heap[gb473]?=some (.cells #[.bool a1_0,(.slice A1_1 l1_1.length c1_1)] 71 (0,0)))∧Aside0 (w'.heap[gb474]?=some (.cells #[.bool false,(.slice none 0 0)] 71 (0,0)))∧Aside0 (Below w.heap.size w w'))
   case atStart=>exact ⟨(x5_1),(0),(0),(by first|rfl|(simp;done)|(simp [*];done)),(by first|rfl|(simp;done)|(simp [*];done)),H',⟨Nat.le_refl _⟩,⟨by (with_reducible repeat (first|apply Kd.R_alloc|apply Kd.R_drewN|apply Kd.R_drew));exact HO_5.out⟩,⟨by (with_reducible repeat (first|refine cn ?_ _|refine cd ?_|refine ca ?_ _));exact BK472.out⟩,⟨by (with_reducible repeat (first|refine cn ?_ _|refine cd ?_|refine ca ?_ _));exact BK473.out⟩,⟨by (with_reducible repeat (first|refine cn ?_ _|refine cd ?_|refine ca ?_ _));exact BK474.out⟩,⟨by repeat (first|(with_reducible first|exact HB.out|apply qa|apply qn|apply qd|refine qs ?_ GE472.out|refine qs ?_ GE473.out|refine qs ?_ GE474.out)|exact HB.out)⟩⟩
   case round =>
    clear H'
    try clear c1
    try clear c2
    try clear p2
    try clear c4
    try clear c4b0
    try clear c4b1
    try clear c5
    try clear c5b0
    try clear c5b1
    try clear p6
    try clear c9
    try clear c10
    try clear c12
    try clear c16
    try clear c16b0
    try clear c17
    try clear c18
    try clear hcz11_0
    try clear hcz11_1
    try clear hcz13_0
    try clear hcz13_1
    try clear hcz19_0
    try clear hcz19_1
    try clear hfz11_0
    try clear hfz11_1
    try clear hfz13_0
    try clear hfz13_1
    try clear hfz19_0
    try clear hfz19_1
    try clear p2
    try clear p6
    obtain ⟨x5_2,x7_2,x8_2,rfl,rfl,HA,HK2,HO_5,BK472,BK473,BK474,HB⟩:=hrel
    cases gk with
    | zero=>exact absurd HA.out (by simp [parquetref01_Num_Times.l1])
    | succ k2 =>
     have H:=HA.out
     clear HA
     simp only [parquetref01_Num_Times.l1] at H
     by_cases c20:x8_2 < (l1_1.length:Int)
     ·rw [if_pos c20] at H
      have c20b0:decide (x8_2 < (l1_1.length:Int))=true:=decide_eq_true c20
      clear c20
      obtain ⟨ji21,hji21⟩:∃ j_:Int,(wrap64 (x6_1+x8_2))=j_:=⟨_,rfl⟩
      replace H:(if 0≤(ji21) then (if (ji21) < (x5_2.length:Int) then (if 0≤x6_1 then (if x6_1 < (l0_1.length:Int) then ((parquetref01_digit.f l1_1 x8_2).bind fun t484=>(parquetref01_Num_Times.l1 k2 (x5_2.set ((ji21):Int).toNat (Int.tmod (wrap64 ((wrap64 ((rd x5_2 (ji21))+(wrap64 ((rd l0_1 x6_1) * t484))))+x7_2)) 65536)) x6_1 (wrap64 (Int.tdiv (wrap64 ((wrap64 ((rd x5_2 (ji21))+(wrap64 ((rd l0_1 x6_1) * t484))))+x7_2)) 65536)) (wrap64 (x8_2+1)) a0_0 l0_1 a1_0 l1_1)) else (none)) else (none)) else (none)) else (none))=some (r1,r2):=by first|(rw [hji21] at H;exact H)|(simp only [hji21] at H ⊢;exact H)
      have hji21w:(IntKind.i64.wrap (x6_1+x8_2))=ji21:=(i64_w _).trans hji21
      by_cases c22:0≤(ji21)
      rotate_left
      ·rw [if_neg c22] at H
       exact absurd H (by simp)
      rw [if_pos c22] at H
      have c22b0:decide (0≤(ji21))=true:=decide_eq_true c22
      clear c22
      by_cases c23:(ji21) < (x5_2.length:Int)
      rotate_left
      ·rw [if_neg c23] at H
       exact absurd H (by simp)
      rw [if_pos c23] at H
      have c23b0:decide ((ji21) < (x5_2.length:Int))=true:=decide_eq_true c23
      clear c23
      by_cases c24:0≤x6_1
      rotate_left
      ·rw [if_neg c24] at H
       exact absurd H (by simp)
      rw [if_pos c24] at H
      have c24b0:decide (0≤x6_1)=true:=decide_eq_true c24
      clear c24
      by_cases c25:x6_1 < (l0_1.length:Int)
      rotate_left
      ·rw [if_neg c25] at H
       exact absurd H (by simp)
      rw [if_pos c25] at H
      have c25b0:decide (x6_1 < (l0_1.length:Int))=true:=decide_eq_true c25
      clear c25
      replace H:=Option.bind_eq_some_iff.mp H
      obtain ⟨t484,A260,H⟩:=H
      replace H:(parquetref01_Num_Times.l1 k2 (x5_2.set ((ji21):Int).toNat (Int.tmod (wrap64 ((wrap64 ((rd x5_2 (ji21))+(wrap64 ((rd l0_1 x6_1) * t484))))+x7_2)) 65536)) x6_1 (wrap64 (Int.tdiv (wrap64 ((wrap64 ((rd x5_2 (ji21))+(wrap64 ((rd l0_1 x6_1) * t484))))+x7_2)) 65536)) (wrap64 (x8_2+1)) a0_0 l0_1 a1_0 l1_1)=some (r1,r2):=H
      have A26:=Aside0.mk A260
      clear A260
      obtain ⟨y485,hy485⟩:∃ y_:List Int,y_=(x5_2.set ((ji21):Int).toNat (Int.tmod (wrap64 ((wrap64 ((rd x5_2 (ji21))+(wrap64 ((rd l0_1 x6_1) * t484))))+x7_2)) 65536)):=⟨_,rfl⟩
      replace H:(parquetref01_Num_Times.l1 k2 y485 x6_1 (wrap64 (Int.tdiv (wrap64 ((wrap64 ((rd x5_2 (ji21))+(wrap64 ((rd l0_1 x6_1) * t484))))+x7_2)) 65536)) (wrap64 (x8_2+1)) a0_0 l0_1 a1_0 l1_1)=some (r1,r2):=by first|(rw [hy485];with_reducible exact H)|(have H2_:=(Option.bind_some _ _).symm.trans H;rw [hy485];with_reducible exact H2_)|(have H2_:=(Option.bind_some _ _).symm.trans H;with_reducible exact H2_)|with_reducible exact H|(rw [hy485];exact H)|exact H
      have Ny485:=Aside0.mk hy485
      clear hy485
      have H':=Aside0.mk H
      clear H
      have hnb28:=NB473_472.out
      have hnc28:=NB472_473.out
      have hnb29:=NB473_474.out
      have hnc29:=NB474_473.out
      obtain ⟨hcz30_0,hcz30_1⟩:=cl2 BK473.out
      obtain ⟨hfz30_0,hfz30_1⟩:=fr2 BK473.out
      obtain ⟨Ao31,co31,eo31⟩:=Kd.R_slice HO_5.out
      subst eo31
      have p482:0≤((ji21):Int):=of_decide_eq_true (by first|(with_reducible assumption)|assumption)
      have q482:(ji21) < (x5_2.length:Int):=of_decide_eq_true (by first|(with_reducible assumption)|assumption)
      obtain ⟨ad482,e482,hx482_0⟩:=Kd.at_int (Kd.R_reads' HO_5.out).2.2 (ji21) p482 q482
      cases e482
      replace p482:=eq_true p482
      replace q482:=eq_true q482
      have hnb32:=NB472_474.out
      have hnc32:=NB474_472.out
      obtain ⟨hcz33_0,hcz33_1⟩:=cl2 BK472.out
      obtain ⟨hfz33_0,hfz33_1⟩:=fr2 BK472.out
      have p483:0≤(x6_1:Int):=of_decide_eq_true (by first|(with_reducible assumption)|assumption)
      have q483:x6_1 < (l0_1.length:Int):=of_decide_eq_true (by first|(with_reducible assumption)|assumption)
      obtain ⟨ad483,e483,hx483_0⟩:=Kd.at_int HR0_1.out x6_1 p483 q483
      cases e483
      replace hx483_0:=(HB.out.cell (World.block_lt_of_cell? w _ hx483_0)).trans hx483_0
      replace p483:=eq_true p483
      replace q483:=eq_true q483
      go_wp2_with (fail)
      repeat (go_quiet (first|(go_at_call 83;(with_reducible refine (parquetref01_digit.calls _ _ l1_1 x8_2 t484 _ ?side1 ?side2 A26.out).mono ?_);(case side1=>repeat (first|exact (Kd.C_below HR1_1.out HB.out)|(with_reducible refine Kd.C_alloc ?_ _)|(with_reducible refine Kd.C_drewN ?_ _)|(with_reducible refine Kd.C_drew ?_)));(case side2=>exact HC1_1.out);rintro e w' ⟨rfl,⟨nd,rfl⟩⟩;(try first|exact ⟨rfl,_,World.drewN_drewN _ _ _⟩|exact ⟨rfl,_,Eq.trans (World.drewN_drewN _ _ _) (congrArg (World.drewN _) (Nat.add_assoc _ _ _))⟩);have p27:0≤((ji21):Int):=of_decide_eq_true (by first|(with_reducible assumption)|assumption);have q27:((ji21):Int) < ((x5_2.length:Int):Int):=of_decide_eq_true (by first|(with_reducible assumption)|assumption);obtain ⟨go27,co27,eo27,gb27,gl27,cl27,HG27⟩:=Kd.R_form HO_5.out (by omega);(first|cases eo27|(injection eo27 with ea_ en_ ec_;(first|subst ea_|(injection ea_ with ea_;subst ea_));subst ec_;clear en_));have GB27:=Aside0.mk gb27;have GG27:=Aside0.mk HG27;clear gb27 gl27 HG27;(first|simp only [add_plain] at hx482_0|skip);obtain ⟨hx27_0,hf27_0⟩:=Kd.R_celln 0 HO_5.out ((ji21):Int) p27 q27;replace p27:=eq_true p27;replace q27:=eq_true q27;obtain ⟨hy34_,hz34_⟩:=Kd.R_celln 0 HO_5.out ((ji21):Int) (of_decide_eq_true (by first|(with_reducible assumption)|assumption)) (of_decide_eq_true (by first|(with_reducible assumption)|assumption));have HP34:=Kd.R_putg HO_5.out ((ji21):Int) (Int.tmod (wrap64 ((wrap64 ((rd x5_2 (ji21))+(wrap64 ((rd l0_1 x6_1) * t484))))+x7_2)) 65536)));try go_wp2_with (first|((with_reducible refine gate_store (t:=3) (p:=62) rfl ?_);(try (rw [drewN_self wr];generalize hq_:World.drewN wr _=wr;have n0_:=Aside0.mk (Kd.R_at hq_ HO_5.out);have n1_:=Aside0.mk (blk_at hq_ BK472.out);have n2_:=Aside0.mk (blk_at hq_ BK473.out);have n3_:=Aside0.mk (blk_at hq_ BK474.out);have n4_:=Aside0.mk (below_at hq_ HB.out);clear hq_ HO_5 BK472 BK473 BK474 HB;have HO_5:=n0_;have BK472:=n1_;have BK473:=n2_;have BK474:=n3_;have HB:=n4_;clear n0_ n1_ n2_ n3_ n4_;(try (obtain ⟨hy34_,hz34_⟩:=Kd.R_celln 0 HO_5.out ((ji21):Int) (of_decide_eq_true (by first|(with_reducible assumption)|assumption)) (of_decide_eq_true (by first|(with_reducible assumption)|assumption))));(try (have HP34:=Kd.R_putg HO_5.out ((ji21):Int) (Int.tmod (wrap64 ((wrap64 ((rd x5_2 (ji21))+(wrap64 ((rd l0_1 x6_1) * t484))))+x7_2)) 65536)))));refine store_event (t:=3) (p:=62) (v:=?vo_w35) (w1:=(wr.setCell ⟨go27,((ji21):Int).toNat,none⟩ (.int .i64 (Int.tmod (wrap64 ((wrap64 ((rd x5_2 (ji21))+(wrap64 ((rd l0_1 x6_1) * t484))))+x7_2)) 65536)))) ?hg ?ho ?hn ?hr ?_;(case ho=>rfl);(case hg=>rfl);(case hn=>rfl);(case hr=>first|(go_simp;done)|(go_simp;rfl));intro w35 hw;have hg:wr.grownBy w35 (some go27):=(by rw [hw];exact HP34.2);have hp_:Kd.R (Kd.int .i64) 3 w35 w.heap.size (fun k_=>(w.heap.size≤k_)) (.slice (some ⟨go27,0,none⟩) x5_2.length co31) y485:=(by rw [hw,Ny485.out];exact HP34.1);clear HP34;have n0_:=Aside0.mk (hp_);have n1_:=Aside0.mk (blk_grown (g:=gb472) (o := .cells #[.bool a0_0,.slice (some ad483) l0_1.length c0_1] 71 (0,0)) (by exact lb BK472.out) hg (Kd.R_ne HO_5.out BK472.out (by decide)));have n2_:=Aside0.mk (blk_grown (g:=gb473) (o := .cells #[.bool a1_0,.slice A1_1 l1_1.length c1_1] 71 (0,0)) (by exact lb BK473.out) hg (Kd.R_ne HO_5.out BK473.out (by decide)));have n3_:=Aside0.mk (blk_grown (g:=gb474) (o := .cells #[.bool false,.slice none 0 0] 71 (0,0)) (by exact lb BK474.out) hg (Kd.R_ne HO_5.out BK474.out (by decide)));have n4_:=Aside0.mk ((by rw [hw];exact below_set (HB.out) GB27.out:Below w.heap.size w w35));clear HO_5;clear BK472;clear BK473;clear BK474;clear HB;have HO_5:=n0_;have BK472:=n1_;have BK473:=n2_;have BK474:=n3_;have HB:=n4_;clear n0_ n1_ n2_ n3_ n4_;clear hg hw hp_)))
      go_roundg k2
      case measure=>have:=HK1.out;have:=HK2.out;omega
      case rel=>exact ⟨(y485),(wrap64 (Int.tdiv (wrap64 ((wrap64 ((rd x5_2 (ji21))+(wrap64 ((rd l0_1 x6_1) * t484))))+x7_2)) 65536)),(wrap64 (x8_2+1)),(by first|rfl|(simp;done)|(simp only [← hji21]<;>(first|rfl|simp))|(simp [*];done)),(by first|rfl|(simp;done)|(simp [*];done)),H',⟨by have:=HK1.out;have:=HK2.out;omega⟩,⟨by (with_reducible repeat (first|apply Kd.R_alloc|apply Kd.R_drewN|apply Kd.R_drew));exact HO_5.out⟩,⟨by (with_reducible repeat (first|refine cn ?_ _|refine cd ?_|refine ca ?_ _));exact BK472.out⟩,⟨by (with_reducible repeat (first|refine cn ?_ _|refine cd ?_|refine ca ?_ _));exact BK473.out⟩,⟨by (with_reducible repeat (first|refine cn ?_ _|refine cd ?_|refine ca ?_ _));exact BK474.out⟩,⟨by repeat (first|(with_reducible first|exact HB.out|apply qa|apply qn|apply qd|refine qs ?_ GE472.out|refine qs ?_ GE473.out|refine qs ?_ GE474.out)|exact HB.out)⟩⟩
     rw [if_neg c20] at H
     have c20b0:decide (x8_2 < (l1_1.length:Int))=false:=decide_eq_false c20
     clear c20
     by_cases c36:x7_2 > 0
     rotate_left
     ·rw [if_neg c36] at H
      have c36b0:decide (0 < x7_2)=false:=decide_eq_false c36
      clear c36
      have H':=Aside0.mk H
      clear H
      have hnb52:=NB473_472.out
      have hnc52:=NB472_473.out
      have hnb53:=NB473_474.out
      have hnc53:=NB474_473.out
      obtain ⟨hcz54_0,hcz54_1⟩:=cl2 BK473.out
      obtain ⟨hfz54_0,hfz54_1⟩:=fr2 BK473.out
      go_wp2
      repeat (go_quiet (fail);try go_wp2)
      go_roundg k2
      case measure=>have:=HK1.out;have:=HK2.out;omega
      case rel=>exact ⟨(x5_2),(wrap64 (x6_1+1)),(by first|rfl|(simp;done)|(simp [*];done)),H',⟨by have:=HK1.out;have:=HK2.out;omega⟩,⟨by (with_reducible repeat (first|apply Kd.R_alloc|apply Kd.R_drewN|apply Kd.R_drew));exact HO_5.out⟩,⟨by (with_reducible repeat (first|refine cn ?_ _|refine cd ?_|refine ca ?_ _));exact BK472.out⟩,⟨by (with_reducible repeat (first|refine cn ?_ _|refine cd ?_|refine ca ?_ _));exact BK473.out⟩,⟨by (with_reducible repeat (first|refine cn ?_ _|refine cd ?_|refine ca ?_ _));exact BK474.out⟩,⟨by repeat (first|(with_reducible first|exact HB.out|apply qa|apply qn|apply qd|refine qs ?_ GE472.out|refine qs ?_ GE473.out|refine qs ?_ GE474.out)|exact HB.out)⟩⟩
     rw [if_pos c36] at H
     have c36b0:decide (0 < x7_2)=true:=decide_eq_true c36
     clear c36
     obtain ⟨ji37,hji37⟩:∃ j_:Int,(wrap64 (x6_1+x8_2))=j_:=⟨_,rfl⟩
     replace H:(if 0≤(ji37) then (if (ji37) < (x5_2.length:Int) then (if 0≤x6_1 then (if x6_1 < (l0_1.length:Int) then ((parquetref01_digit.f l1_1 x8_2).bind fun t488=>(parquetref01_Num_Times.l1 k2 (x5_2.set ((ji37):Int).toNat (Int.tmod (wrap64 ((wrap64 ((rd x5_2 (ji37))+(wrap64 ((rd l0_1 x6_1) * t488))))+x7_2)) 65536)) x6_1 (wrap64 (Int.tdiv (wrap64 ((wrap64 ((rd x5_2 (ji37))+(wrap64 ((rd l0_1 x6_1) * t488))))+x7_2)) 65536)) (wrap64 (x8_2+1)) a0_0 l0_1 a1_0 l1_1)) else (none)) else (none)) else (none)) else (none))=some (r1,r2):=by first|(rw [hji37] at H;exact H)|(simp only [hji37] at H ⊢;exact H)
     have hji37w:(IntKind.i64.wrap (x6_1+x8_2))=ji37:=(i64_w _).trans hji37
     by_cases c38:0≤(ji37)
     rotate_left
     ·rw [if_neg c38] at H
      exact absurd H (by simp)
     rw [if_pos c38] at H
     have c38b0:decide (0≤(ji37))=true:=decide_eq_true c38
     clear c38
     by_cases c39:(ji37) < (x5_2.length:Int)
     rotate_left
     ·rw [if_neg c39] at H
      exact absurd H (by simp)
     rw [if_pos c39] at H
     have c39b0:decide ((ji37) < (x5_2.length:Int))=true:=decide_eq_true c39
     clear c39
     by_cases c40:0≤x6_1
     rotate_left
     ·rw [if_neg c40] at H
      exact absurd H (by simp)
     rw [if_pos c40] at H
     have c40b0:decide (0≤x6_1)=true:=decide_eq_true c40
     clear c40
     by_cases c41:x6_1 < (l0_1.length:Int)
     rotate_left
     ·rw [if_neg c41] at H
      exact absurd H (by simp)
     rw [if_pos c41] at H
     have c41b0:decide (x6_1 < (l0_1.length:Int))=true:=decide_eq_true c41
     clear c41
     replace H:=Option.bind_eq_some_iff.mp H
     obtain ⟨t488,A420,H⟩:=H
     replace H:(parquetref01_Num_Times.l1 k2 (x5_2.set ((ji37):Int).toNat (Int.tmod (wrap64 ((wrap64 ((rd x5_2 (ji37))+(wrap64 ((rd l0_1 x6_1) * t488))))+x7_2)) 65536)) x6_1 (wrap64 (Int.tdiv (wrap64 ((wrap64 ((rd x5_2 (ji37))+(wrap64 ((rd l0_1 x6_1) * t488))))+x7_2)) 65536)) (wrap64 (x8_2+1)) a0_0 l0_1 a1_0 l1_1)=some (r1,r2):=H
     have A42:=Aside0.mk A420
     clear A420
     obtain ⟨y489,hy489⟩:∃ y_:List Int,y_=(x5_2.set ((ji37):Int).toNat (Int.tmod (wrap64 ((wrap64 ((rd x5_2 (ji37))+(wrap64 ((rd l0_1 x6_1) * t488))))+x7_2)) 65536)):=⟨_,rfl⟩
     replace H:(parquetref01_Num_Times.l1 k2 y489 x6_1 (wrap64 (Int.tdiv (wrap64 ((wrap64 ((rd x5_2 (ji37))+(wrap64 ((rd l0_1 x6_1) * t488))))+x7_2)) 65536)) (wrap64 (x8_2+1)) a0_0 l0_1 a1_0 l1_1)=some (r1,r2):=by first|(rw [hy489];with_reducible exact H)|(have H2_:=(Option.bind_some _ _).symm.trans H;rw [hy489];with_reducible exact H2_)|(have H2_:=(Option.bind_some _ _).symm.trans H;with_reducible exact H2_)|with_reducible exact H|(rw [hy489];exact H)|exact H
     have Ny489:=Aside0.mk hy489
     clear hy489
     have H':=Aside0.mk H
     clear H
     have hnb44:=NB473_472.out
     have hnc44:=NB472_473.out
     have hnb45:=NB473_474.out
     have hnc45:=NB474_473.out
     obtain ⟨hcz46_0,hcz46_1⟩:=cl2 BK473.out
     obtain ⟨hfz46_0,hfz46_1⟩:=fr2 BK473.out
     obtain ⟨Ao47,co47,eo47⟩:=Kd.R_slice HO_5.out
     subst eo47
     have p486:0≤((ji37):Int):=of_decide_eq_true (by first|(with_reducible assumption)|assumption)
     have q486:(ji37) < (x5_2.length:Int):=of_decide_eq_true (by first|(with_reducible assumption)|assumption)
     obtain ⟨ad486,e486,hx486_0⟩:=Kd.at_int (Kd.R_reads' HO_5.out).2.2 (ji37) p486 q486
     cases e486
     replace p486:=eq_true p486
     replace q486:=eq_true q486
     have hnb48:=NB472_474.out
     have hnc48:=NB474_472.out
     obtain ⟨hcz49_0,hcz49_1⟩:=cl2 BK472.out
     obtain ⟨hfz49_0,hfz49_1⟩:=fr2 BK472.out
     have p487:0≤(x6_1:Int):=of_decide_eq_true (by first|(with_reducible assumption)|assumption)
     have q487:x6_1 < (l0_1.length:Int):=of_decide_eq_true (by first|(with_reducible assumption)|assumption)
     obtain ⟨ad487,e487,hx487_0⟩:=Kd.at_int HR0_1.out x6_1 p487 q487
     cases e487
     replace hx487_0:=(HB.out.cell (World.block_lt_of_cell? w _ hx487_0)).trans hx487_0
     replace p487:=eq_true p487
     replace q487:=eq_true q487
     go_wp2_with (fail)
     repeat (go_quiet (first|(go_at_call 83;(with_reducible refine (parquetref01_digit.calls _ _ l1_1 x8_2 t488 _ ?side1 ?side2 A42.out).mono ?_);(case side1=>repeat (first|exact (Kd.C_below HR1_1.out HB.out)|(with_reducible refine Kd.C_alloc ?_ _)|(with_reducible refine Kd.C_drewN ?_ _)|(with_reducible refine Kd.C_drew ?_)));(case side2=>exact HC1_1.out);rintro e w' ⟨rfl,⟨nd,rfl⟩⟩;(try first|exact ⟨rfl,_,World.drewN_drewN _ _ _⟩|exact ⟨rfl,_,Eq.trans (World.drewN_drewN _ _ _) (congrArg (World.drewN _) (Nat.add_assoc _ _ _))⟩);have p43:0≤((ji37):Int):=of_decide_eq_true (by first|(with_reducible assumption)|assumption);have q43:((ji37):Int) < ((x5_2.length:Int):Int):=of_decide_eq_true (by first|(with_reducible assumption)|assumption);obtain ⟨go43,co43,eo43,gb43,gl43,cl43,HG43⟩:=Kd.R_form HO_5.out (by omega);(first|cases eo43|(injection eo43 with ea_ en_ ec_;(first|subst ea_|(injection ea_ with ea_;subst ea_));subst ec_;clear en_));have GB43:=Aside0.mk gb43;have GG43:=Aside0.mk HG43;clear gb43 gl43 HG43;(first|simp only [add_plain] at hx486_0|skip);obtain ⟨hx43_0,hf43_0⟩:=Kd.R_celln 0 HO_5.out ((ji37):Int) p43 q43;replace p43:=eq_true p43;replace q43:=eq_true q43;obtain ⟨hy50_,hz50_⟩:=Kd.R_celln 0 HO_5.out ((ji37):Int) (of_decide_eq_true (by first|(with_reducible assumption)|assumption)) (of_decide_eq_true (by first|(with_reducible assumption)|assumption));have HP50:=Kd.R_putg HO_5.out ((ji37):Int) (Int.tmod (wrap64 ((wrap64 ((rd x5_2 (ji37))+(wrap64 ((rd l0_1 x6_1) * t488))))+x7_2)) 65536)));try go_wp2_with (first|((with_reducible refine gate_store (t:=3) (p:=62) rfl ?_);(try (rw [drewN_self wr];generalize hq_:World.drewN wr _=wr;have n0_:=Aside0.mk (Kd.R_at hq_ HO_5.out);have n1_:=Aside0.mk (blk_at hq_ BK472.out);have n2_:=Aside0.mk (blk_at hq_ BK473.out);have n3_:=Aside0.mk (blk_at hq_ BK474.out);have n4_:=Aside0.mk (below_at hq_ HB.out);clear hq_ HO_5 BK472 BK473 BK474 HB;have HO_5:=n0_;have BK472:=n1_;have BK473:=n2_;have BK474:=n3_;have HB:=n4_;clear n0_ n1_ n2_ n3_ n4_;(try (obtain ⟨hy50_,hz50_⟩:=Kd.R_celln 0 HO_5.out ((ji37):Int) (of_decide_eq_true (by first|(with_reducible assumption)|assumption)) (of_decide_eq_true (by first|(with_reducible assumption)|assumption))));(try (have HP50:=Kd.R_putg HO_5.out ((ji37):Int) (Int.tmod (wrap64 ((wrap64 ((rd x5_2 (ji37))+(wrap64 ((rd l0_1 x6_1) * t488))))+x7_2)) 65536)))));refine store_event (t:=3) (p:=62) (v:=?vo_w51) (w1:=(wr.setCell ⟨go43,((ji37):Int).toNat,none⟩ (.int .i64 (Int.tmod (wrap64 ((wrap64 ((rd x5_2 (ji37))+(wrap64 ((rd l0_1 x6_1) * t488))))+x7_2)) 65536)))) ?hg ?ho ?hn ?hr ?_;(case ho=>rfl);(case hg=>rfl);(case hn=>rfl);(case hr=>first|(go_simp;done)|(go_simp;rfl));intro w51 hw;have hg:wr.grownBy w51 (some go43):=(by rw [hw];exact HP50.2);have hp_:Kd.R (Kd.int .i64) 3 w51 w.heap.size (fun k_=>(w.heap.size≤k_)) (.slice (some ⟨go43,0,none⟩) x5_2.length co47) y489:=(by rw [hw,Ny489.out];exact HP50.1);clear HP50;have n0_:=Aside0.mk (hp_);have n1_:=Aside0.mk (blk_grown (g:=gb472) (o := .cells #[.bool a0_0,.slice (some ad487) l0_1.length c0_1] 71 (0,0)) (by exact lb BK472.out) hg (Kd.R_ne HO_5.out BK472.out (by decide)));have n2_:=Aside0.mk (blk_grown (g:=gb473) (o := .cells #[.bool a1_0,.slice A1_1 l1_1.length c1_1] 71 (0,0)) (by exact lb BK473.out) hg (Kd.R_ne HO_5.out BK473.out (by decide)));have n3_:=Aside0.mk (blk_grown (g:=gb474) (o := .cells #[.bool false,.slice none 0 0] 71 (0,0)) (by exact lb BK474.out) hg (Kd.R_ne HO_5.out BK474.out (by decide)));have n4_:=Aside0.mk ((by rw [hw];exact below_set (HB.out) GB43.out:Below w.heap.size w w51));clear HO_5;clear BK472;clear BK473;clear BK474;clear HB;have HO_5:=n0_;have BK472:=n1_;have BK473:=n2_;have BK474:=n3_;have HB:=n4_;clear n0_ n1_ n2_ n3_ n4_;clear hg hw hp_)))
     go_roundg k2
     case measure=>have:=HK1.out;have:=HK2.out;omega
     case rel=>exact ⟨(y489),(wrap64 (Int.tdiv (wrap64 ((wrap64 ((rd x5_2 (ji37))+(wrap64 ((rd l0_1 x6_1) * t488))))+x7_2)) 65536)),(wrap64 (x8_2+1)),(by first|rfl|(simp;done)|(simp only [← hji37]<;>(first|rfl|simp))|(simp [*];done)),(by first|rfl|(simp;done)|(simp [*];done)),H',⟨by have:=HK1.out;have:=HK2.out;omega⟩,⟨by (with_reducible repeat (first|apply Kd.R_alloc|apply Kd.R_drewN|apply Kd.R_drew));exact HO_5.out⟩,⟨by (with_reducible repeat (first|refine cn ?_ _|refine cd ?_|refine ca ?_ _));exact BK472.out⟩,⟨by (with_reducible repeat (first|refine cn ?_ _|refine cd ?_|refine ca ?_ _));exact BK473.out⟩,⟨by (with_reducible repeat (first|refine cn ?_ _|refine cd ?_|refine ca ?_ _));exact BK474.out⟩,⟨by repeat (first|(with_reducible first|exact HB.out|apply qa|apply qn|apply qd|refine qs ?_ GE472.out|refine qs ?_ GE473.out|refine qs ?_ GE474.out)|exact HB.out)⟩⟩
end Go.Proofs.YtkgagdjogedoiaaGreat.MT

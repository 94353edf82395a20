/- A function of the given program told as a Lean function, its contract proved; no condition. -/
import Derived.Test.YtmpbbodafenonaaMT0
import Derived.Test.YtmpbbodafenonaaMT11
import Derived.Test.YtmpbbodafenonaaMT16
import Derived.Test.YtmpbbodafenonaaMT27
namespace Go.Proofs.Ytmpbbodafenonaa.MT
open Go.RowKit Go.Proofs.YtmpbbodafenonaaW.PrintWords Go.Proofs.YtmpbbodafenonaaW.PrintLast Go.Proofs.YtmpbbodafenonaaW.PrintMore
attribute [local go_sem] max2_int min2_int max_two min_two max_three min_three max_four min_four   -- for this text's walks alone
set_option linter.unusedVariables false
set_option linter.unusedSimpArgs false
/-! ### parquetref01_Add: function 36 -/
def parquetref01_Add.l0 : Nat → List (S27) → Int → Bool → List Int → Option (Bool × Int × Int × Int × Int × Int)
 | 0, _, _, _, _ => none
 | k + 1, x0, x5, x577000, x577001 => if x5 < (x0.length : Int) then (if 0 ≤ x5 then ((parquetref01_Of.f k ((rd_T27 x0 x5).f0) ((rd_T27 x0 x5).f1.f0) ((rd_T27 x0 x5).f1.f1) ((rd_T27 x0 x5).f1.f2) ((rd_T27 x0 x5).f1.f3)).bind fun bt584 => ((parquetref01_Num_Plus.f k x577000 x577001 bt584.1 bt584.2).bind fun bt588 => ((parquetref01_Num_Wide.f bt588.1 bt588.2).bind fun bt592 => (if bt592.2.2.2.2.2 = true then (parquetref01_Add.l0 k x0 (wrap64 (x5 + 1)) bt588.1 bt588.2) else (some (false, 0, 0, 0, 0, 10)))))) else (none)) else ((parquetref01_told.f x577000 x577001).bind fun bt577 => (some (bt577.1, bt577.2.1, bt577.2.2.1, bt577.2.2.2.1, bt577.2.2.2.2.1, bt577.2.2.2.2.2)))
def parquetref01_Add.f (k : Nat) (l0 : List (S27)) : Option (Bool × Int × Int × Int × Int × Int) := parquetref01_Add.l0 k l0 0 false ([] : List Int)
theorem parquetref01_Add.mono_l : ∀ k, (∀ y0 y1 y2 y3, LeO (parquetref01_Add.l0 k y0 y1 y2 y3) (parquetref01_Add.l0 (k + 1) y0 y1 y2 y3))
 | 0 => fun _ _ _ _ r h => by simp [parquetref01_Add.l0] at h
 | k + 1 => by
  have ih0 := parquetref01_Add.mono_l k
  ·intro y0 y1 y2 y3
   unfold parquetref01_Add.l0
   repeat' first
   | (with_reducible exact ih0 _ _ _ _)
   | (with_reducible exact parquetref01_Num_Plus.mono _ _ _ _ _)
   | (with_reducible exact parquetref01_Of.mono _ _ _ _ _ _)
   | (with_reducible exact LeO.refl _)
   | (with_reducible exact LeO.none _)
   | (with_reducible refine LeO.ite ?_ ?_)
   | (with_reducible refine LeO.bind ?_ (fun _ => ?_))
   | exact ih0 _ _ _ _
   | exact parquetref01_Num_Plus.mono _ _ _ _ _
   | exact parquetref01_Of.mono _ _ _ _ _ _
   | exact LeO.none _
   | refine LeO.ite ?_ ?_
   | refine LeO.bind ?_ (fun _ => ?_)
theorem parquetref01_Add.mono : ∀ a0 k, LeO (parquetref01_Add.f k a0) (parquetref01_Add.f (k + 1) a0) := by
 intro a0 k
 have ih0 := parquetref01_Add.mono_l k
 unfold parquetref01_Add.f
 repeat' first
   | (with_reducible exact ih0 _ _ _ _)
   | (with_reducible exact parquetref01_Num_Plus.mono _ _ _ _ _)
   | (with_reducible exact parquetref01_Of.mono _ _ _ _ _ _)
   | (with_reducible exact LeO.refl _)
   | (with_reducible exact LeO.none _)
   | (with_reducible refine LeO.ite ?_ ?_)
   | (with_reducible refine LeO.bind ?_ (fun _ => ?_))
   | exact ih0 _ _ _ _
   | exact parquetref01_Num_Plus.mono _ _ _ _ _
   | exact parquetref01_Of.mono _ _ _ _ _ _
   | exact LeO.none _
   | refine LeO.ite ?_ ?_
   | refine LeO.bind ?_ (fun _ => ?_)
def parquetref01_Add.T5 : Bool × List (List Nat × List Nat) := (true, [([], []), ([], []), ([], []), ([1, 2], [1, 2]), ([3], [3]), ([4], [4]), ([0, 5, 5], [0, 5]), ([6, 6, 0, 1, 2, 3, 4, 5, 6], [6])])
def parquetref01_Add.B5 : List Nat := [0, 0, 0, 6, 14, 30, 63, 127]
theorem parquetref01_Add.tab5 : rtab .any (opsOf Try.f36 5) = parquetref01_Add.T5 := by kernel_rfl
theorem parquetref01_Add.bits5 : waitsOk parquetref01_Add.T5.2 parquetref01_Add.B5 = true := by kernel_rfl
set_option maxHeartbeats 8000000 in
set_option maxRecDepth 100000 in
theorem parquetref01_Add.calls (k : Nat) (A0 : Option Addr) (c0 : Nat) (l0 : List (S27)) (r1 : Bool) (r2 : Int) (r3 : Int) (r4 : Int) (r5 : Int) (r6 : Int) (w : World) (hr0 : Kd.C k27 w A0 l0.length l0) (hc0 : l0.length ≤ c0) (h : parquetref01_Add.f k l0 = some (r1, r2, r3, r4, r5, r6)) :
  Calls Try.prog 36 #[.slice A0 l0.length c0] w fun e w' => e = .returned (.tuple #[.agg #[.bool r1, .int .u64 r2, .int .u64 r3, .int .u64 r4, .int .u64 r5], .int .i64 r6]) ∧ Below w.heap.size w w' := by
 have hu27 := Try.underlying27
 have hu38 := Try.underlying38
 have HR0 := Aside0.mk hr0
 have HC0 := Aside0.mk hc0
 clear hr0 hc0
 have HB := Aside0.mk (Below.refl w.heap.size w)
 have H : (parquetref01_Add.l0 k l0 0 false ([] : List Int)) = some (r1, r2, r3, r4, r5, r6) := h
 clear h
 have H' := Aside0.mk H
 clear H
 go_enter Try.func36, Try.ntmps36
 go_wp2_with (first | ((with_reducible refine gate_dst (N := 2) rfl ?_); refine box_event ?hg (N := 2) ?hd (cs := #[.bool false, .int .u64 0, .int .u64 0, .int .u64 0, .int .u64 0]) (t := 27) ?hr ?_; (case hd => rfl); (case hg => rfl); (case hr => first | (go_simp; done) | (go_simp; rfl)); intro gb575 hg w2 hbox hb; have n0_ := Aside0.mk (below_step (by repeat (first | (with_reducible first | exact HB.out | apply qa | apply qn | apply qd) | exact HB.out)) hb); have n1_ := Aside0.mk (hbox); have n2_ := bgw HB hg; have n3_ := bgw HB hg; clear HB; have HB := n0_; have BK575 := n1_; have GW575 := n2_; have GE575 := n3_; clear n0_ n1_ n2_ n3_; clear hb hbox hg) | ((with_reducible refine gate_dst (N := 4) rfl ?_); refine box_event ?hg (N := 4) ?hd (cs := #[.bool false, .slice none 0 0]) (t := 38) ?hr ?_; (case hd => rfl); (case hg => rfl); (case hr => first | (go_simp; done) | (go_simp; rfl)); intro gb576 hg w3 hbox hb; have n0_ := bb BK575 hb; have n1_ := Aside0.mk (below_step (by repeat (first | (with_reducible first | exact HB.out | apply qa | apply qn | apply qd | refine qs ?_ GE575.out) | exact HB.out)) hb); have n2_ := Aside0.mk (hbox); have n3_ := bgw HB hg; have n4_ := bgw HB hg; have n5_ := bnl BK575 hg; have n6_ := bng BK575 hg; clear BK575; clear HB; have BK575 := n0_; have HB := n1_; have BK576 := n2_; have GW576 := n3_; have GE576 := n4_; have NB575_576 := n5_; have NB576_575 := n6_; clear n0_ n1_ n2_ n3_ n4_ n5_ n6_; clear hb hbox hg; have hnb4 := NB576_575.out; have hnc4 := NB575_576.out; obtain ⟨hcz5_0, hcz5_1⟩ := cl2 BK576.out; obtain ⟨hfz5_0, hfz5_1⟩ := fr2 BK576.out))
 go_loopg [5] k (fun kq v5 w' => ∃ (x5_1 : Int) (x576000_1 : Bool) (x576001_1 : Int) (x576002_1 : Int) (x576003_1 : Int) (x576004_1 : Int) (x577000_1 : Bool) (x577001_1 : List Int) (u577001 : Value), v5 = .int .i64 x5_1 ∧ Aside0 (parquetref01_Add.l0 kq l0 x5_1 x577000_1 x577001_1 = some (r1, r2, r3, r4, r5, r6)) ∧ Aside0 (kq ≤ k) ∧ Aside0 (Kd.V (Kd.int .i64) 3 w' w.heap.size (fun k_ => k_ ≠ gb575 ∧ k_ ≠ gb576) u577001 x577001_1) ∧ Aside0 (w'.heap[gb575]? = some (.cells #[.bool x576000_1, .int .u64 x576001_1, .int .u64 x576002_1, .int .u64 x576003_1, .int .u64 x576004_1] 27 (0, 0))) ∧ Aside0 (w'.heap[gb576]? = some (.cells #[.bool x577000_1, u577001] 38 (0, 0))) ∧ Aside0 (Below w.heap.size w w'))
 case atStart => exact ⟨(0), (false), (0), (0), (0), (0), (false), (([] : List Int)), (.slice none 0 0), (by first | rfl | (simp; done) | (simp [*]; done)), H', ⟨Nat.le_refl _⟩, ⟨by first | exact Kd.V_nil _ _ _ _ _ | exact Kd.R_V (Kd.R_nil _ _ _ 0 _)⟩, ⟨by (with_reducible repeat (first | refine cn ?_ _ | refine cd ?_ | refine ca ?_ _)); refine blk_far ?_ NB575_576.out _; (with_reducible repeat (first | refine cn ?_ _ | refine cd ?_ | refine ca ?_ _)); refine blk_far ?_ NB575_576.out _; (with_reducible repeat (first | refine cn ?_ _ | refine cd ?_ | refine ca ?_ _)); exact BK575.out⟩, ⟨by (with_reducible repeat (first | refine cn ?_ _ | refine cd ?_ | refine ca ?_ _)); refine blk_put (cs := #[.bool false, .slice none 0 0]) ?_ 1 _ rfl; (with_reducible repeat (first | refine cn ?_ _ | refine cd ?_ | refine ca ?_ _)); refine blk_put (cs := #[.bool false, .slice none 0 0]) ?_ 0 _ rfl; (with_reducible repeat (first | refine cn ?_ _ | refine cd ?_ | refine ca ?_ _)); exact BK576.out⟩, ⟨by repeat (first | (with_reducible first | exact HB.out | apply qa | apply qn | apply qd | refine qs ?_ GE575.out | refine qs ?_ GE576.out) | exact HB.out)⟩⟩
 case round =>
  clear H'
  try clear p2
  try clear c3
  try clear c4
  try clear hcz5_0
  try clear hcz5_1
  try clear hfz5_0
  try clear hfz5_1
  obtain ⟨x5_1, x576000_1, x576001_1, x576002_1, x576003_1, x576004_1, x577000_1, x577001_1, u577001, rfl, HA, HK1, HO_577001, BK575, BK576, HB⟩ := hrel
  cases gk with
  | zero => exact absurd HA.out (by simp [parquetref01_Add.l0])
  | succ k1 =>
   have H := HA.out
   clear HA
   simp only [parquetref01_Add.l0] at H
   by_cases c6 : x5_1 < (l0.length : Int)
   ·rw [if_pos c6] at H
    have c6b0 : decide (x5_1 < (l0.length : Int)) = true := decide_eq_true c6
    clear c6
    by_cases c7 : 0 ≤ x5_1
    ·rw [if_pos c7] at H
     have c7b0 : decide (0 ≤ x5_1) = true := decide_eq_true c7
     clear c7
     replace H := Option.bind_eq_some_iff.mp H
     obtain ⟨⟨t584, t585⟩, A80, H⟩ := H
     replace H : ((parquetref01_Num_Plus.f k1 x577000_1 x577001_1 t584 t585).bind fun bt588 => ((parquetref01_Num_Wide.f bt588.1 bt588.2).bind fun bt592 => (if bt592.2.2.2.2.2 = true then (parquetref01_Add.l0 k1 l0 (wrap64 (x5_1 + 1)) bt588.1 bt588.2) else (some (false, 0, 0, 0, 0, 10))))) = some (r1, r2, r3, r4, r5, r6) := H
     have A8 := Aside0.mk A80
     clear A80
     replace H := Option.bind_eq_some_iff.mp H
     obtain ⟨⟨t588, t589⟩, A90, H⟩ := H
     replace H : ((parquetref01_Num_Wide.f t588 t589).bind fun bt592 => (if bt592.2.2.2.2.2 = true then (parquetref01_Add.l0 k1 l0 (wrap64 (x5_1 + 1)) t588 t589) else (some (false, 0, 0, 0, 0, 10)))) = some (r1, r2, r3, r4, r5, r6) := H
     have A9 := Aside0.mk A90
     clear A90
     replace H := Option.bind_eq_some_iff.mp H
     obtain ⟨⟨t592, t593, t594, t595, t596, t597⟩, A100, H⟩ := H
     replace H : (if t597 = true then (parquetref01_Add.l0 k1 l0 (wrap64 (x5_1 + 1)) t588 t589) else (some (false, 0, 0, 0, 0, 10))) = some (r1, r2, r3, r4, r5, r6) := H
     have A10 := Aside0.mk A100
     clear A100
     by_cases c11 : t597 = true
     ·subst c11
      have H1 : (parquetref01_Add.l0 k1 l0 (wrap64 (x5_1 + 1)) t588 t589) = some (r1, r2, r3, r4, r5, r6) := by rw [if_pos rfl] at H; exact H
      clear H
      have H := H1
      clear H1
      have H' := Aside0.mk H
      clear H
      try go_wp2
      have n0_ := Aside0.mk (Kd.V_drew HO_577001.out)
      have n1_ := Aside0.mk (blk_drew BK575.out)
      have n2_ := Aside0.mk (blk_drew BK576.out)
      have n3_ := Aside0.mk (below_drew1 HB.out)
      clear HO_577001
      clear BK575
      clear BK576
      clear HB
      have HO_577001 := n0_
      have BK575 := n1_
      have BK576 := n2_
      have HB := n3_
      clear n0_ n1_ n2_ n3_
      have p583 : 0 ≤ (x5_1 : Int) := of_decide_eq_true (by first | (with_reducible assumption) | assumption)
      have q583 : x5_1 < (l0.length : Int) := of_decide_eq_true (by first | (with_reducible assumption) | assumption)
      obtain ⟨ad583, e583, hx583_0, hx583_1, hx583_2, hx583_3, hx583_4⟩ := at_T27 HR0.out x5_1 p583 q583
      have hw583_4 := hx583_4
      have hw583_3 := hx583_3
      have hw583_2 := hx583_2
      have hw583_1 := hx583_1
      have hw583_0 := hx583_0
      cases e583
      replace hx583_0 := (HB.out.cell (World.block_lt_of_cell? w _ hx583_0)).trans hx583_0
      replace hx583_1 := (HB.out.cell (World.block_lt_of_cell? w _ hx583_1)).trans hx583_1
      replace hx583_2 := (HB.out.cell (World.block_lt_of_cell? w _ hx583_2)).trans hx583_2
      replace hx583_3 := (HB.out.cell (World.block_lt_of_cell? w _ hx583_3)).trans hx583_3
      replace hx583_4 := (HB.out.cell (World.block_lt_of_cell? w _ hx583_4)).trans hx583_4
      replace p583 := eq_true p583
      replace q583 := eq_true q583
      refine start_ (n := 8) (S := fun w' => w'.cell? ⟨gb576, 0, none⟩ = some (.bool x577000_1) ∧ w'.cell? ⟨gb576, 1, none⟩ = some (u577001) ∧ w'.cell? (ad583.add ((x5_1).toNat * 5)) = some (.bool ((rd_T27 l0 x5_1).f0)) ∧ w'.cell? ⟨(ad583.add ((x5_1).toNat * 5)).block, (ad583.add ((x5_1).toNat * 5)).off + 1, none⟩ = some (.int .u64 ((rd_T27 l0 x5_1).f1.f0)) ∧ w'.cell? ⟨(ad583.add ((x5_1).toNat * 5)).block, (ad583.add ((x5_1).toNat * 5)).off + 2, none⟩ = some (.int .u64 ((rd_T27 l0 x5_1).f1.f1)) ∧ w'.cell? ⟨(ad583.add ((x5_1).toNat * 5)).block, (ad583.add ((x5_1).toNat * 5)).off + 3, none⟩ = some (.int .u64 ((rd_T27 l0 x5_1).f1.f2)) ∧ w'.cell? ⟨(ad583.add ((x5_1).toNat * 5)).block, (ad583.add ((x5_1).toNat * 5)).off + 4, none⟩ = some (.int .u64 ((rd_T27 l0 x5_1).f1.f3))) (ds := [7]) #[Ff, Ff, Ff, Ff, Ff, Ff, Ff, Ff] (by kernel_rfl) rfl rfl ⟨(blk_cell BK576.out 0).trans rfl, (blk_cell BK576.out 1).trans rfl, ((HB.out.cell (World.block_lt_of_cell? w _ hw583_0)).trans hw583_0), ((HB.out.cell (World.block_lt_of_cell? w _ hw583_1)).trans hw583_1), ((HB.out.cell (World.block_lt_of_cell? w _ hw583_2)).trans hw583_2), ((HB.out.cell (World.block_lt_of_cell? w _ hw583_3)).trans hw583_3), ((HB.out.cell (World.block_lt_of_cell? w _ hw583_4)).trans hw583_4)⟩ (fun hHeld => ?_); refine with_tabW parquetref01_Add.tab5 parquetref01_Add.bits5 (fun HT_ HW_ => ?_)
      generalize wr.drew = w12 at HO_577001 BK575 BK576 HB hx583_0 hx583_1 hx583_2 hx583_3 hx583_4 hHeld ⊢
      refine pure_ (i := 1) (N := some 16) (v := ?_) (a' := ?_) #[Ff, Tt, Ff, Ff, Ff, Ff, Ff, Ff] rfl rfl (any_of HT_.out (by kernel_rfl)) (fun _ _ _ h => h) (Or.inl ⟨by rfl, ?_⟩) ?_ ?_
      rotate_left
      ·intro w'
       go_simp
       with_reducible rfl
      rotate_left
      ·simp only [Act.put, List.setIfInBounds_toArray, List.set_cons_zero, List.set_cons_succ, i64_w, i32_w]
       rfl
      refine pure_ (i := 2) (N := some 17) (v := ?_) (a' := ?_) #[Ff, Tt, Tt, Ff, Ff, Ff, Ff, Ff] rfl rfl (any_of HT_.out (by kernel_rfl)) (fun _ _ _ h => h) (Or.inl ⟨by rfl, ?_⟩) ?_ ?_
      rotate_left
      ·intro w'
       go_simp
       with_reducible rfl
      rotate_left
      ·simp only [Act.put, List.setIfInBounds_toArray, List.set_cons_zero, List.set_cons_succ, i64_w, i32_w]
       rfl
      refine pure_ (i := 3) (N := some 18) (v := ?_) (a' := ?_) #[Ff, Tt, Tt, Tt, Ff, Ff, Ff, Ff] rfl rfl (any_of HT_.out (by kernel_rfl)) (fun _ _ _ h => h) (Or.inl ⟨by rfl, ?_⟩) ?_ ?_
      rotate_left
      ·intro w'
       go_simp
       with_reducible rfl
      rotate_left
      ·simp only [Act.put, List.setIfInBounds_toArray, List.set_cons_zero, List.set_cons_succ, i64_w, i32_w]
       rfl
      refine take_ (i := 0) (N := some 15) (v := ?_) (a' := ?_) #[Tt, Tt, Tt, Tt, Ff, Ff, Ff, Ff] rfl rfl (take_ofW HT_.out HW_.out (by kernel_rfl)) (fun _ _ _ h => h) (Or.inl ⟨by rfl, ?_⟩) hHeld ?_ ?_
      rotate_left
      ·rintro w' ⟨s0, s1, s2, s3, s4, s5, s6⟩
       go_simp
       with_reducible rfl
      rotate_left
      ·simp only [Act.put, List.setIfInBounds_toArray, List.set_cons_zero, List.set_cons_succ, i64_w, i32_w]
       rfl
      refine take_ (i := 4) (N := some 19) (v := ?_) (a' := ?_) #[Tt, Tt, Tt, Tt, Tt, Ff, Ff, Ff] rfl rfl (take_ofW HT_.out HW_.out (by kernel_rfl)) (fun _ _ _ h => h) (Or.inl ⟨by rfl, ?_⟩) hHeld ?_ ?_
      rotate_left
      ·rintro w' ⟨s0, s1, s2, s3, s4, s5, s6⟩
       go_simp
       with_reducible rfl
      rotate_left
      ·simp only [Act.put, List.setIfInBounds_toArray, List.set_cons_zero, List.set_cons_succ, i64_w, i32_w]
       rfl
      refine one_ (i := 5) (N := some 20) #[Tt, Tt, Tt, Tt, Tt, Tt, Ff, Ff] rfl rfl (one_of HT_.out (by kernel_rfl)) (by decide) (fun K hK => ?_)
      refine goes_ Try.func24 (by kernel_rfl) rfl #[.agg #[.bool ((rd_T27 l0 x5_1).f0), .int .u64 ((rd_T27 l0 x5_1).f1.f0), .int .u64 ((rd_T27 l0 x5_1).f1.f1), .int .u64 ((rd_T27 l0 x5_1).f1.f2), .int .u64 ((rd_T27 l0 x5_1).f1.f3)]] (by rfl) rfl rfl (by (try simp only [List.map_toArray, List.map_cons, List.map_nil]); first | done | rfl | (simp only [List.length_drop, List.length_take]; rfl)) ?_
      with_reducible refine (parquetref01_Of.calls k1 ((rd_T27 l0 x5_1).f0) ((rd_T27 l0 x5_1).f1.f0) ((rd_T27 l0 x5_1).f1.f1) ((rd_T27 l0 x5_1).f1.f2) ((rd_T27 l0 x5_1).f1.f3) t584 t585 _ A8.out).mono ?_
      rintro e w13 ⟨v586, rfl, ho0, hb⟩
      refine ⟨_, rfl, ?_⟩
      have n0_ := Aside0.mk (Kd.V_below (by (with_reducible repeat (first | apply Kd.V_alloc | apply Kd.V_drewN | apply Kd.V_drew)); exact HO_577001.out) hb)
      have n1_ := Aside0.mk (Kd.V_lower (Kd.V_mono (ok' := fun k_ => k_ ≠ gb575 ∧ k_ ≠ gb576) ho0 (fun k_ hk_ => ⟨(Kd.freshB (g := gb575) (o := .cells #[.bool x576000_1, .int .u64 x576001_1, .int .u64 x576002_1, .int .u64 x576003_1, .int .u64 x576004_1] 27 (0, 0)) (by exact lb BK575.out) k_ hk_), (Kd.freshB (g := gb576) (o := .cells #[.bool x577000_1, u577001] 38 (0, 0)) (by exact lb BK576.out) k_ hk_)⟩)) (below_size (by repeat (first | (with_reducible first | exact HB.out | apply qa | apply qn | apply qd | refine qs ?_ GE575.out | refine qs ?_ GE576.out) | exact HB.out))))
      have n2_ := bb BK575 hb
      have n3_ := bb BK576 hb
      have n4_ := Aside0.mk (below_step (by repeat (first | (with_reducible first | exact HB.out | apply qa | apply qn | apply qd | refine qs ?_ GE575.out | refine qs ?_ GE576.out) | exact HB.out)) hb)
      clear HO_577001
      clear BK575
      clear BK576
      clear HB
      have HO_577001 := n0_
      have HO587 := n1_
      have BK575 := n2_
      have BK576 := n3_
      have HB := n4_
      clear n0_ n1_ n2_ n3_ n4_
      (try clear hb)
      (try clear hb2)
      (try clear hk)
      (try clear hi)
      (try clear ho0)
      obtain ⟨Ao14, co14, eo14⟩ := Kd.V_slice HO_577001.out
      (first | subst eo14 | (injection eo14 with f1_ f2_ f3_; have f4_ := f1_.symm; have f5_ := f3_.symm; clear f1_ f2_ f3_; subst f4_; subst f5_))
      obtain ⟨Ao15, co15, eo15⟩ := Kd.V_slice HO587.out
      (first | subst eo15 | (injection eo15 with f1_ f2_ f3_; have f4_ := f1_.symm; have f5_ := f3_.symm; clear f1_ f2_ f3_; subst f4_; subst f5_))
      refine hK.out _ _ ⟨(blk_cell BK576.out 0).trans rfl, (blk_cell BK576.out 1).trans rfl, ((HB.out.cell (World.block_lt_of_cell? w _ hw583_0)).trans hw583_0), ((HB.out.cell (World.block_lt_of_cell? w _ hw583_1)).trans hw583_1), ((HB.out.cell (World.block_lt_of_cell? w _ hw583_2)).trans hw583_2), ((HB.out.cell (World.block_lt_of_cell? w _ hw583_3)).trans hw583_3), ((HB.out.cell (World.block_lt_of_cell? w _ hw583_4)).trans hw583_4)⟩ (fun hHeld => ?_)
      clear hK K
      refine norm_ (a' := ?_) ?_ ?_
      rotate_left
      ·show Act.put _ (some 20) _ = _
       simp only [Act.put, List.setIfInBounds_toArray, List.set_cons_zero, List.set_cons_succ, i64_w, i32_w]
       rfl
      refine one_ (i := 6) (N := some 21) #[Tt, Tt, Tt, Tt, Tt, Tt, Tt, Ff] rfl rfl (one_of HT_.out (by kernel_rfl)) (by decide) (fun K hK => ?_)
      refine goes_ Try.func30 (by kernel_rfl) rfl #[.agg #[.bool x577000_1, .slice Ao14 x577001_1.length co14], .agg #[.bool t584, .slice Ao15 t585.length co15]] (by rfl) rfl rfl (by (try simp only [List.map_toArray, List.map_cons, List.map_nil]); first | done | rfl | (simp only [List.length_drop, List.length_take]; rfl)) ?_
      with_reducible refine (parquetref01_Num_Plus.calls k1 x577000_1 (fun k_ => (k_ ≠ gb575 ∧ k_ ≠ gb576)) _ _ x577001_1 t584 (fun k_ => (k_ ≠ gb575 ∧ k_ ≠ gb576)) _ _ t585 t588 t589 _ ?side1 ?side2 A9.out).mono ?_
      (case side1 => exact HO_577001.out)
      (case side2 => exact HO587.out)
      rintro e w16 ⟨v590, rfl, ho0, hb⟩
      refine ⟨_, rfl, ?_⟩
      have n0_ := Aside0.mk (Kd.V_below (by (with_reducible repeat (first | apply Kd.V_alloc | apply Kd.V_drewN | apply Kd.V_drew)); exact HO_577001.out) hb)
      have n1_ := Aside0.mk (Kd.V_below (by (with_reducible repeat (first | apply Kd.V_alloc | apply Kd.V_drewN | apply Kd.V_drew)); exact HO587.out) hb)
      have n2_ := Aside0.mk (Kd.V_lower (Kd.V_mono (ok' := fun k_ => k_ ≠ gb575 ∧ k_ ≠ gb576) ho0 (fun k_ hk_ => ⟨Or.elim hk_ (fun hs_ => Or.elim hs_ (fun hs_ => hs_.1) (fun hs_ => hs_.1)) (fun hn_ => (Kd.freshB (g := gb575) (o := .cells #[.bool x576000_1, .int .u64 x576001_1, .int .u64 x576002_1, .int .u64 x576003_1, .int .u64 x576004_1] 27 (0, 0)) (by exact lb BK575.out) k_ hn_)), Or.elim hk_ (fun hs_ => Or.elim hs_ (fun hs_ => hs_.2) (fun hs_ => hs_.2)) (fun hn_ => (Kd.freshB (g := gb576) (o := .cells #[.bool x577000_1, .slice Ao14 x577001_1.length co14] 38 (0, 0)) (by exact lb BK576.out) k_ hn_))⟩)) (below_size (by repeat (first | (with_reducible first | exact HB.out | apply qa | apply qn | apply qd | refine qs ?_ GE575.out | refine qs ?_ GE576.out) | exact HB.out))))
      have n3_ := bb BK575 hb
      have n4_ := bb BK576 hb
      have n5_ := Aside0.mk (below_step (by repeat (first | (with_reducible first | exact HB.out | apply qa | apply qn | apply qd | refine qs ?_ GE575.out | refine qs ?_ GE576.out) | exact HB.out)) hb)
      clear HO_577001
      clear HO587
      clear BK575
      clear BK576
      clear HB
      have HO_577001 := n0_
      have HO587 := n1_
      have HO591 := n2_
      have BK575 := n3_
      have BK576 := n4_
      have HB := n5_
      clear n0_ n1_ n2_ n3_ n4_ n5_
      (try clear hb)
      (try clear hb2)
      (try clear hk)
      (try clear hi)
      (try clear ho0)
      obtain ⟨Ao18, co18, eo18⟩ := Kd.V_slice HO591.out
      (first | subst eo18 | (injection eo18 with f1_ f2_ f3_; have f4_ := f1_.symm; have f5_ := f3_.symm; clear f1_ f2_ f3_; subst f4_; subst f5_))
      refine hK.out _ _ ⟨(blk_cell BK576.out 0).trans rfl, (blk_cell BK576.out 1).trans rfl, ((HB.out.cell (World.block_lt_of_cell? w _ hw583_0)).trans hw583_0), ((HB.out.cell (World.block_lt_of_cell? w _ hw583_1)).trans hw583_1), ((HB.out.cell (World.block_lt_of_cell? w _ hw583_2)).trans hw583_2), ((HB.out.cell (World.block_lt_of_cell? w _ hw583_3)).trans hw583_3), ((HB.out.cell (World.block_lt_of_cell? w _ hw583_4)).trans hw583_4)⟩ (fun hHeld => ?_)
      clear hK K
      refine norm_ (a' := ?_) ?_ ?_
      rotate_left
      ·show Act.put _ (some 21) _ = _
       simp only [Act.put, List.setIfInBounds_toArray, List.set_cons_zero, List.set_cons_succ, i64_w, i32_w]
       rfl
      refine last_ (i := 7) (N := none) #[Tt, Tt, Tt, Tt, Tt, Tt, Tt, Tt] rfl rfl (one_of HT_.out (by kernel_rfl)) (by decide) (fun K hK => ?_)
      have hs17 : w16.cell? ⟨gb576, 0, none⟩ = some (.bool x577000_1) := (blk_cell BK576.out 0).trans rfl
      have hfs17 := blk_frozen BK576.out 0
      have hns17_0 := NB575_576.out
      have hms17_0 := NB576_575.out
      have hs19 : w16.cell? ⟨gb576, 1, none⟩ = some (.slice Ao14 x577001_1.length co14) := (blk_cell BK576.out 1).trans rfl
      have hfs19 := blk_frozen BK576.out 1
      have hns19_0 := NB575_576.out
      have hms19_0 := NB576_575.out
      refine skip_ (w1 := ?_) (by rfl) rfl ?_ ?_
      rotate_left
      ·go_simp
       rfl
      refine hK.out _ _ ?_
      clear hK K
      refine done_ (done_of HT_.out (by kernel_rfl)) ?_
      have hnb20 := NB576_575.out
      have hnc20 := NB575_576.out
      obtain ⟨hcz21_0, hcz21_1⟩ := cl2 BK576.out
      obtain ⟨hfz21_0, hfz21_1⟩ := fr2 BK576.out
      try go_wp2_with (first | ((with_reducible refine gate_callee (f := 34) rfl ?_); refine goesL_ (some 24) rfl rfl Try.func34 (by kernel_rfl) rfl #[.agg #[.bool t588, .slice Ao18 t589.length co18]] rfl (by (try simp only [List.map_toArray, List.map_cons, List.map_nil]); first | done | rfl | (simp only [List.length_drop, List.length_take]; rfl)) ?_; (with_reducible refine (parquetref01_Num_Wide.calls t588 _ _ t589 t592 t593 t594 t595 t596 true _ ?side1 ?side2 A10.out).mono ?_); (case side1 => refine (Kd.V_reads' (e := 3) (base := w.heap.size) (ok := fun k_ => (k_ ≠ gb575 ∧ k_ ≠ gb576)) (n := t589.length) (c := co18) ?_).2.2; exact (by (with_reducible repeat (first | apply Kd.V_alloc | apply Kd.V_drewN | apply Kd.V_drew)); exact (Kd.V_mono (Kd.V_far (p := ⟨gb576, 1, none⟩) (Kd.V_far (p := ⟨gb576, 0, none⟩) (Kd.V_mono HO591.out (fun k_ hk => (⟨hk, hk.2⟩ : _ ∧ k_ ≠ gb576))) (fun _ hk => hk.2) (.bool t588)) (fun _ hk => hk.2) (.slice Ao18 t589.length co18)) (fun _ h_ => h_.1)))); (case side2 => exact (Kd.V_reads' HO591.out).2.1); rintro e w22 ⟨rfl, hb⟩; refine ⟨_, rfl, ?_⟩; have n0_ := Aside0.mk (Kd.V_below (by (with_reducible repeat (first | apply Kd.V_alloc | apply Kd.V_drewN | apply Kd.V_drew)); exact (Kd.V_mono (Kd.V_far (p := ⟨gb576, 1, none⟩) (Kd.V_far (p := ⟨gb576, 0, none⟩) (Kd.V_mono HO_577001.out (fun k_ hk => (⟨hk, hk.2⟩ : _ ∧ k_ ≠ gb576))) (fun _ hk => hk.2) (.bool t588)) (fun _ hk => hk.2) (.slice Ao18 t589.length co18)) (fun _ h_ => h_.1))) hb); have n1_ := Aside0.mk (Kd.V_below (by (with_reducible repeat (first | apply Kd.V_alloc | apply Kd.V_drewN | apply Kd.V_drew)); exact (Kd.V_mono (Kd.V_far (p := ⟨gb576, 1, none⟩) (Kd.V_far (p := ⟨gb576, 0, none⟩) (Kd.V_mono HO587.out (fun k_ hk => (⟨hk, hk.2⟩ : _ ∧ k_ ≠ gb576))) (fun _ hk => hk.2) (.bool t588)) (fun _ hk => hk.2) (.slice Ao18 t589.length co18)) (fun _ h_ => h_.1))) hb); have n2_ := Aside0.mk (Kd.V_below (by (with_reducible repeat (first | apply Kd.V_alloc | apply Kd.V_drewN | apply Kd.V_drew)); exact (Kd.V_mono (Kd.V_far (p := ⟨gb576, 1, none⟩) (Kd.V_far (p := ⟨gb576, 0, none⟩) (Kd.V_mono HO591.out (fun k_ hk => (⟨hk, hk.2⟩ : _ ∧ k_ ≠ gb576))) (fun _ hk => hk.2) (.bool t588)) (fun _ hk => hk.2) (.slice Ao18 t589.length co18)) (fun _ h_ => h_.1))) hb); have n3_ := Aside0.mk (blk_below (g := gb575) (o := .cells #[.bool x576000_1, .int .u64 x576001_1, .int .u64 x576002_1, .int .u64 x576003_1, .int .u64 x576004_1] 27 (0, 0)) (by repeat (with_reducible first | exact lb BK575.out | refine blk_far ?_ NB575_576.out _ | refine cn ?_ _ | refine cd ?_ | refine ca ?_ _)) hb); have n4_ := Aside0.mk (blk_below (g := gb576) (o := .cells #[.bool t588, .slice Ao18 t589.length co18] 38 (0, 0)) (by (with_reducible repeat (first | refine cn ?_ _ | refine cd ?_ | refine ca ?_ _)); refine blk_put (cs := #[.bool t588, .slice Ao14 x577001_1.length co14]) ?_ 1 _ rfl; (with_reducible repeat (first | refine cn ?_ _ | refine cd ?_ | refine ca ?_ _)); refine blk_put (cs := #[.bool x577000_1, .slice Ao14 x577001_1.length co14]) ?_ 0 _ rfl; (with_reducible repeat (first | refine cn ?_ _ | refine cd ?_ | refine ca ?_ _)); exact BK576.out) hb); have n5_ := Aside0.mk (below_step (by repeat (first | (with_reducible first | exact HB.out | apply qa | apply qn | apply qd | refine qs ?_ GE575.out | refine qs ?_ GE576.out) | exact HB.out)) hb); clear HO_577001; clear HO587; clear HO591; clear BK575; clear BK576; clear HB; have HO_577001 := n0_; have HO587 := n1_; have HO591 := n2_; have BK575 := n3_; have BK576 := n4_; have HB := n5_; clear n0_ n1_ n2_ n3_ n4_ n5_; (try clear hb); (try clear hb2); (try clear hk); (try clear hi)) | ((with_reducible refine gate_dst (N := 6) rfl ?_); refine box_event ?hg (N := 6) ?hd (cs := #[.bool false, .int .u64 0, .int .u64 0, .int .u64 0, .int .u64 0]) (t := 27) ?hr ?_; (case hd => rfl); (case hg => rfl); (case hr => first | (go_simp; done) | (go_simp; rfl)); intro gb598 hg w23 hbox hb; have n0_ := Aside0.mk (Kd.V_below (Kd.V_elderB (by (with_reducible repeat (first | apply Kd.V_alloc | apply Kd.V_drewN | apply Kd.V_drew)); exact HO_577001.out) gb598 (Nat.le_of_eq hg.symm)) hb); have n1_ := Aside0.mk (Kd.V_below (Kd.V_elderB (by (with_reducible repeat (first | apply Kd.V_alloc | apply Kd.V_drewN | apply Kd.V_drew)); exact HO587.out) gb598 (Nat.le_of_eq hg.symm)) hb); have n2_ := Aside0.mk (Kd.V_below (Kd.V_elderB (by (with_reducible repeat (first | apply Kd.V_alloc | apply Kd.V_drewN | apply Kd.V_drew)); exact HO591.out) gb598 (Nat.le_of_eq hg.symm)) hb); have n3_ := bb BK575 hb; have n4_ := bb BK576 hb; have n5_ := Aside0.mk (below_step (by repeat (first | (with_reducible first | exact HB.out | apply qa | apply qn | apply qd | refine qs ?_ GE575.out | refine qs ?_ GE576.out) | exact HB.out)) hb); have n6_ := Aside0.mk (hbox); have n7_ := bgw HB hg; have n8_ := bgw HB hg; have n9_ := bnl BK575 hg; have n10_ := bng BK575 hg; have n11_ := bnl BK576 hg; have n12_ := bng BK576 hg; clear HO_577001; clear HO587; clear HO591; clear BK575; clear BK576; clear HB; have HO_577001 := n0_; have HO587 := n1_; have HO591 := n2_; have BK575 := n3_; have BK576 := n4_; have HB := n5_; have BK598 := n6_; have GW598 := n7_; have GE598 := n8_; have NB575_598 := n9_; have NB598_575 := n10_; have NB576_598 := n11_; have NB598_576 := n12_; clear n0_ n1_ n2_ n3_ n4_ n5_ n6_ n7_ n8_ n9_ n10_ n11_ n12_; clear hb hbox hg; have hnb24 := NB598_575.out; have hnc24 := NB575_598.out; have hnb25 := NB598_576.out; have hnc25 := NB576_598.out; obtain ⟨hcz26_0, hcz26_1, hcz26_2, hcz26_3, hcz26_4⟩ := cl5 BK598.out; obtain ⟨hfz26_0, hfz26_1, hfz26_2, hfz26_3, hfz26_4⟩ := fr5 BK598.out))
      go_roundg k1
      case measure => have := HK1.out; omega
      case rel => exact ⟨(wrap64 (x5_1 + 1)), (x576000_1), (x576001_1), (x576002_1), (x576003_1), (x576004_1), (t588), (t589), (.slice Ao18 t589.length co18), (by first | rfl | (simp; done) | (simp [*]; done)), H', ⟨by have := HK1.out; omega⟩, ⟨by (with_reducible repeat (first | apply Kd.V_alloc | apply Kd.V_drewN | apply Kd.V_drew)); exact Kd.V_mono (Kd.V_far (p := ⟨gb598, 4, none⟩) (Kd.V_far (p := ⟨gb598, 3, none⟩) (Kd.V_far (p := ⟨gb598, 2, none⟩) (Kd.V_far (p := ⟨gb598, 1, none⟩) (Kd.V_far (p := ⟨gb598, 0, none⟩) (Kd.V_mono HO591.out (fun k_ hk => (⟨hk, hk.2⟩ : _ ∧ k_ ≠ gb598))) (fun _ hk => hk.2) (.bool t592)) (fun _ hk => hk.2) (.int .u64 t593)) (fun _ hk => hk.2) (.int .u64 t594)) (fun _ hk => hk.2) (.int .u64 t595)) (fun _ hk => hk.2) (.int .u64 t596)) (fun _ hk => ⟨hk.1.1.1, hk.1.1.2⟩)⟩, ⟨by (with_reducible repeat (first | refine cn ?_ _ | refine cd ?_ | refine ca ?_ _)); refine blk_far ?_ NB575_598.out _; (with_reducible repeat (first | refine cn ?_ _ | refine cd ?_ | refine ca ?_ _)); refine blk_far ?_ NB575_598.out _; (with_reducible repeat (first | refine cn ?_ _ | refine cd ?_ | refine ca ?_ _)); refine blk_far ?_ NB575_598.out _; (with_reducible repeat (first | refine cn ?_ _ | refine cd ?_ | refine ca ?_ _)); refine blk_far ?_ NB575_598.out _; (with_reducible repeat (first | refine cn ?_ _ | refine cd ?_ | refine ca ?_ _)); refine blk_far ?_ NB575_598.out _; (with_reducible repeat (first | refine cn ?_ _ | refine cd ?_ | refine ca ?_ _)); exact BK575.out⟩, ⟨by (with_reducible repeat (first | refine cn ?_ _ | refine cd ?_ | refine ca ?_ _)); refine blk_far ?_ NB576_598.out _; (with_reducible repeat (first | refine cn ?_ _ | refine cd ?_ | refine ca ?_ _)); refine blk_far ?_ NB576_598.out _; (with_reducible repeat (first | refine cn ?_ _ | refine cd ?_ | refine ca ?_ _)); refine blk_far ?_ NB576_598.out _; (with_reducible repeat (first | refine cn ?_ _ | refine cd ?_ | refine ca ?_ _)); refine blk_far ?_ NB576_598.out _; (with_reducible repeat (first | refine cn ?_ _ | refine cd ?_ | refine ca ?_ _)); refine blk_far ?_ NB576_598.out _; (with_reducible repeat (first | refine cn ?_ _ | refine cd ?_ | refine ca ?_ _)); exact BK576.out⟩, ⟨by repeat (first | (with_reducible first | exact HB.out | apply qa | apply qn | apply qd | refine qs ?_ GE575.out | refine qs ?_ GE576.out | refine qs ?_ GE598.out) | exact HB.out)⟩⟩
     ·replace c11 := Bool.eq_false_iff.mpr c11
      subst c11
      have H1 : (some (false, 0, 0, 0, 0, 10)) = some (r1, r2, r3, r4, r5, r6) := by rw [if_neg (show ¬ (false = true) by decide)] at H; exact H
      clear H
      have H := H1
      clear H1
      simp only [Option.some.injEq, Prod.mk.injEq] at H
      obtain ⟨rfl, rfl, rfl, rfl, rfl, rfl⟩ := H
      try go_wp2
      have n0_ := Aside0.mk (Kd.V_drew HO_577001.out)
      have n1_ := Aside0.mk (blk_drew BK575.out)
      have n2_ := Aside0.mk (blk_drew BK576.out)
      have n3_ := Aside0.mk (below_drew1 HB.out)
      clear HO_577001
      clear BK575
      clear BK576
      clear HB
      have HO_577001 := n0_
      have BK575 := n1_
      have BK576 := n2_
      have HB := n3_
      clear n0_ n1_ n2_ n3_
      have p583 : 0 ≤ (x5_1 : Int) := of_decide_eq_true (by first | (with_reducible assumption) | assumption)
      have q583 : x5_1 < (l0.length : Int) := of_decide_eq_true (by first | (with_reducible assumption) | assumption)
      obtain ⟨ad583, e583, hx583_0, hx583_1, hx583_2, hx583_3, hx583_4⟩ := at_T27 HR0.out x5_1 p583 q583
      have hw583_4 := hx583_4
      have hw583_3 := hx583_3
      have hw583_2 := hx583_2
      have hw583_1 := hx583_1
      have hw583_0 := hx583_0
      cases e583
      replace hx583_0 := (HB.out.cell (World.block_lt_of_cell? w _ hx583_0)).trans hx583_0
      replace hx583_1 := (HB.out.cell (World.block_lt_of_cell? w _ hx583_1)).trans hx583_1
      replace hx583_2 := (HB.out.cell (World.block_lt_of_cell? w _ hx583_2)).trans hx583_2
      replace hx583_3 := (HB.out.cell (World.block_lt_of_cell? w _ hx583_3)).trans hx583_3
      replace hx583_4 := (HB.out.cell (World.block_lt_of_cell? w _ hx583_4)).trans hx583_4
      replace p583 := eq_true p583
      replace q583 := eq_true q583
      refine start_ (n := 8) (S := fun w' => w'.cell? ⟨gb576, 0, none⟩ = some (.bool x577000_1) ∧ w'.cell? ⟨gb576, 1, none⟩ = some (u577001) ∧ w'.cell? (ad583.add ((x5_1).toNat * 5)) = some (.bool ((rd_T27 l0 x5_1).f0)) ∧ w'.cell? ⟨(ad583.add ((x5_1).toNat * 5)).block, (ad583.add ((x5_1).toNat * 5)).off + 1, none⟩ = some (.int .u64 ((rd_T27 l0 x5_1).f1.f0)) ∧ w'.cell? ⟨(ad583.add ((x5_1).toNat * 5)).block, (ad583.add ((x5_1).toNat * 5)).off + 2, none⟩ = some (.int .u64 ((rd_T27 l0 x5_1).f1.f1)) ∧ w'.cell? ⟨(ad583.add ((x5_1).toNat * 5)).block, (ad583.add ((x5_1).toNat * 5)).off + 3, none⟩ = some (.int .u64 ((rd_T27 l0 x5_1).f1.f2)) ∧ w'.cell? ⟨(ad583.add ((x5_1).toNat * 5)).block, (ad583.add ((x5_1).toNat * 5)).off + 4, none⟩ = some (.int .u64 ((rd_T27 l0 x5_1).f1.f3))) (ds := [7]) #[Ff, Ff, Ff, Ff, Ff, Ff, Ff, Ff] (by kernel_rfl) rfl rfl ⟨(blk_cell BK576.out 0).trans rfl, (blk_cell BK576.out 1).trans rfl, ((HB.out.cell (World.block_lt_of_cell? w _ hw583_0)).trans hw583_0), ((HB.out.cell (World.block_lt_of_cell? w _ hw583_1)).trans hw583_1), ((HB.out.cell (World.block_lt_of_cell? w _ hw583_2)).trans hw583_2), ((HB.out.cell (World.block_lt_of_cell? w _ hw583_3)).trans hw583_3), ((HB.out.cell (World.block_lt_of_cell? w _ hw583_4)).trans hw583_4)⟩ (fun hHeld => ?_); refine with_tabW parquetref01_Add.tab5 parquetref01_Add.bits5 (fun HT_ HW_ => ?_)
      generalize wr.drew = w27 at HO_577001 BK575 BK576 HB hx583_0 hx583_1 hx583_2 hx583_3 hx583_4 hHeld ⊢
      refine pure_ (i := 1) (N := some 16) (v := ?_) (a' := ?_) #[Ff, Tt, Ff, Ff, Ff, Ff, Ff, Ff] rfl rfl (any_of HT_.out (by kernel_rfl)) (fun _ _ _ h => h) (Or.inl ⟨by rfl, ?_⟩) ?_ ?_
      rotate_left
      ·intro w'
       go_simp
       with_reducible rfl
      rotate_left
      ·simp only [Act.put, List.setIfInBounds_toArray, List.set_cons_zero, List.set_cons_succ, i64_w, i32_w]
       rfl
      refine pure_ (i := 2) (N := some 17) (v := ?_) (a' := ?_) #[Ff, Tt, Tt, Ff, Ff, Ff, Ff, Ff] rfl rfl (any_of HT_.out (by kernel_rfl)) (fun _ _ _ h => h) (Or.inl ⟨by rfl, ?_⟩) ?_ ?_
      rotate_left
      ·intro w'
       go_simp
       with_reducible rfl
      rotate_left
      ·simp only [Act.put, List.setIfInBounds_toArray, List.set_cons_zero, List.set_cons_succ, i64_w, i32_w]
       rfl
      refine pure_ (i := 3) (N := some 18) (v := ?_) (a' := ?_) #[Ff, Tt, Tt, Tt, Ff, Ff, Ff, Ff] rfl rfl (any_of HT_.out (by kernel_rfl)) (fun _ _ _ h => h) (Or.inl ⟨by rfl, ?_⟩) ?_ ?_
      rotate_left
      ·intro w'
       go_simp
       with_reducible rfl
      rotate_left
      ·simp only [Act.put, List.setIfInBounds_toArray, List.set_cons_zero, List.set_cons_succ, i64_w, i32_w]
       rfl
      refine take_ (i := 0) (N := some 15) (v := ?_) (a' := ?_) #[Tt, Tt, Tt, Tt, Ff, Ff, Ff, Ff] rfl rfl (take_ofW HT_.out HW_.out (by kernel_rfl)) (fun _ _ _ h => h) (Or.inl ⟨by rfl, ?_⟩) hHeld ?_ ?_
      rotate_left
      ·rintro w' ⟨s0, s1, s2, s3, s4, s5, s6⟩
       go_simp
       with_reducible rfl
      rotate_left
      ·simp only [Act.put, List.setIfInBounds_toArray, List.set_cons_zero, List.set_cons_succ, i64_w, i32_w]
       rfl
      refine take_ (i := 4) (N := some 19) (v := ?_) (a' := ?_) #[Tt, Tt, Tt, Tt, Tt, Ff, Ff, Ff] rfl rfl (take_ofW HT_.out HW_.out (by kernel_rfl)) (fun _ _ _ h => h) (Or.inl ⟨by rfl, ?_⟩) hHeld ?_ ?_
      rotate_left
      ·rintro w' ⟨s0, s1, s2, s3, s4, s5, s6⟩
       go_simp
       with_reducible rfl
      rotate_left
      ·simp only [Act.put, List.setIfInBounds_toArray, List.set_cons_zero, List.set_cons_succ, i64_w, i32_w]
       rfl
      refine one_ (i := 5) (N := some 20) #[Tt, Tt, Tt, Tt, Tt, Tt, Ff, Ff] rfl rfl (one_of HT_.out (by kernel_rfl)) (by decide) (fun K hK => ?_)
      refine goes_ Try.func24 (by kernel_rfl) rfl #[.agg #[.bool ((rd_T27 l0 x5_1).f0), .int .u64 ((rd_T27 l0 x5_1).f1.f0), .int .u64 ((rd_T27 l0 x5_1).f1.f1), .int .u64 ((rd_T27 l0 x5_1).f1.f2), .int .u64 ((rd_T27 l0 x5_1).f1.f3)]] (by rfl) rfl rfl (by (try simp only [List.map_toArray, List.map_cons, List.map_nil]); first | done | rfl | (simp only [List.length_drop, List.length_take]; rfl)) ?_
      with_reducible refine (parquetref01_Of.calls k1 ((rd_T27 l0 x5_1).f0) ((rd_T27 l0 x5_1).f1.f0) ((rd_T27 l0 x5_1).f1.f1) ((rd_T27 l0 x5_1).f1.f2) ((rd_T27 l0 x5_1).f1.f3) t584 t585 _ A8.out).mono ?_
      rintro e w28 ⟨v586, rfl, ho0, hb⟩
      refine ⟨_, rfl, ?_⟩
      have n0_ := Aside0.mk (Kd.V_below (by (with_reducible repeat (first | apply Kd.V_alloc | apply Kd.V_drewN | apply Kd.V_drew)); exact HO_577001.out) hb)
      have n1_ := Aside0.mk (Kd.V_lower (Kd.V_mono (ok' := fun k_ => k_ ≠ gb575 ∧ k_ ≠ gb576) ho0 (fun k_ hk_ => ⟨(Kd.freshB (g := gb575) (o := .cells #[.bool x576000_1, .int .u64 x576001_1, .int .u64 x576002_1, .int .u64 x576003_1, .int .u64 x576004_1] 27 (0, 0)) (by exact lb BK575.out) k_ hk_), (Kd.freshB (g := gb576) (o := .cells #[.bool x577000_1, u577001] 38 (0, 0)) (by exact lb BK576.out) k_ hk_)⟩)) (below_size (by repeat (first | (with_reducible first | exact HB.out | apply qa | apply qn | apply qd | refine qs ?_ GE575.out | refine qs ?_ GE576.out) | exact HB.out))))
      have n2_ := bb BK575 hb
      have n3_ := bb BK576 hb
      have n4_ := Aside0.mk (below_step (by repeat (first | (with_reducible first | exact HB.out | apply qa | apply qn | apply qd | refine qs ?_ GE575.out | refine qs ?_ GE576.out) | exact HB.out)) hb)
      clear HO_577001
      clear BK575
      clear BK576
      clear HB
      have HO_577001 := n0_
      have HO587 := n1_
      have BK575 := n2_
      have BK576 := n3_
      have HB := n4_
      clear n0_ n1_ n2_ n3_ n4_
      (try clear hb)
      (try clear hb2)
      (try clear hk)
      (try clear hi)
      (try clear ho0)
      obtain ⟨Ao29, co29, eo29⟩ := Kd.V_slice HO_577001.out
      (first | subst eo29 | (injection eo29 with f1_ f2_ f3_; have f4_ := f1_.symm; have f5_ := f3_.symm; clear f1_ f2_ f3_; subst f4_; subst f5_))
      obtain ⟨Ao30, co30, eo30⟩ := Kd.V_slice HO587.out
      (first | subst eo30 | (injection eo30 with f1_ f2_ f3_; have f4_ := f1_.symm; have f5_ := f3_.symm; clear f1_ f2_ f3_; subst f4_; subst f5_))
      refine hK.out _ _ ⟨(blk_cell BK576.out 0).trans rfl, (blk_cell BK576.out 1).trans rfl, ((HB.out.cell (World.block_lt_of_cell? w _ hw583_0)).trans hw583_0), ((HB.out.cell (World.block_lt_of_cell? w _ hw583_1)).trans hw583_1), ((HB.out.cell (World.block_lt_of_cell? w _ hw583_2)).trans hw583_2), ((HB.out.cell (World.block_lt_of_cell? w _ hw583_3)).trans hw583_3), ((HB.out.cell (World.block_lt_of_cell? w _ hw583_4)).trans hw583_4)⟩ (fun hHeld => ?_)
      clear hK K
      refine norm_ (a' := ?_) ?_ ?_
      rotate_left
      ·show Act.put _ (some 20) _ = _
       simp only [Act.put, List.setIfInBounds_toArray, List.set_cons_zero, List.set_cons_succ, i64_w, i32_w]
       rfl
      refine one_ (i := 6) (N := some 21) #[Tt, Tt, Tt, Tt, Tt, Tt, Tt, Ff] rfl rfl (one_of HT_.out (by kernel_rfl)) (by decide) (fun K hK => ?_)
      refine goes_ Try.func30 (by kernel_rfl) rfl #[.agg #[.bool x577000_1, .slice Ao29 x577001_1.length co29], .agg #[.bool t584, .slice Ao30 t585.length co30]] (by rfl) rfl rfl (by (try simp only [List.map_toArray, List.map_cons, List.map_nil]); first | done | rfl | (simp only [List.length_drop, List.length_take]; rfl)) ?_
      with_reducible refine (parquetref01_Num_Plus.calls k1 x577000_1 (fun k_ => (k_ ≠ gb575 ∧ k_ ≠ gb576)) _ _ x577001_1 t584 (fun k_ => (k_ ≠ gb575 ∧ k_ ≠ gb576)) _ _ t585 t588 t589 _ ?side1 ?side2 A9.out).mono ?_
      (case side1 => exact HO_577001.out)
      (case side2 => exact HO587.out)
      rintro e w31 ⟨v590, rfl, ho0, hb⟩
      refine ⟨_, rfl, ?_⟩
      have n0_ := Aside0.mk (Kd.V_below (by (with_reducible repeat (first | apply Kd.V_alloc | apply Kd.V_drewN | apply Kd.V_drew)); exact HO_577001.out) hb)
      have n1_ := Aside0.mk (Kd.V_below (by (with_reducible repeat (first | apply Kd.V_alloc | apply Kd.V_drewN | apply Kd.V_drew)); exact HO587.out) hb)
      have n2_ := Aside0.mk (Kd.V_lower (Kd.V_mono (ok' := fun k_ => k_ ≠ gb575 ∧ k_ ≠ gb576) ho0 (fun k_ hk_ => ⟨Or.elim hk_ (fun hs_ => Or.elim hs_ (fun hs_ => hs_.1) (fun hs_ => hs_.1)) (fun hn_ => (Kd.freshB (g := gb575) (o := .cells #[.bool x576000_1, .int .u64 x576001_1, .int .u64 x576002_1, .int .u64 x576003_1, .int .u64 x576004_1] 27 (0, 0)) (by exact lb BK575.out) k_ hn_)), Or.elim hk_ (fun hs_ => Or.elim hs_ (fun hs_ => hs_.2) (fun hs_ => hs_.2)) (fun hn_ => (Kd.freshB (g := gb576) (o := .cells #[.bool x577000_1, .slice Ao29 x577001_1.length co29] 38 (0, 0)) (by exact lb BK576.out) k_ hn_))⟩)) (below_size (by repeat (first | (with_reducible first | exact HB.out | apply qa | apply qn | apply qd | refine qs ?_ GE575.out | refine qs ?_ GE576.out) | exact HB.out))))
      have n3_ := bb BK575 hb
      have n4_ := bb BK576 hb
      have n5_ := Aside0.mk (below_step (by repeat (first | (with_reducible first | exact HB.out | apply qa | apply qn | apply qd | refine qs ?_ GE575.out | refine qs ?_ GE576.out) | exact HB.out)) hb)
      clear HO_577001
      clear HO587
      clear BK575
      clear BK576
      clear HB
      have HO_577001 := n0_
      have HO587 := n1_
      have HO591 := n2_
      have BK575 := n3_
      have BK576 := n4_
      have HB := n5_
      clear n0_ n1_ n2_ n3_ n4_ n5_
      (try clear hb)
      (try clear hb2)
      (try clear hk)
      (try clear hi)
      (try clear ho0)
      obtain ⟨Ao33, co33, eo33⟩ := Kd.V_slice HO591.out
      (first | subst eo33 | (injection eo33 with f1_ f2_ f3_; have f4_ := f1_.symm; have f5_ := f3_.symm; clear f1_ f2_ f3_; subst f4_; subst f5_))
      refine hK.out _ _ ⟨(blk_cell BK576.out 0).trans rfl, (blk_cell BK576.out 1).trans rfl, ((HB.out.cell (World.block_lt_of_cell? w _ hw583_0)).trans hw583_0), ((HB.out.cell (World.block_lt_of_cell? w _ hw583_1)).trans hw583_1), ((HB.out.cell (World.block_lt_of_cell? w _ hw583_2)).trans hw583_2), ((HB.out.cell (World.block_lt_of_cell? w _ hw583_3)).trans hw583_3), ((HB.out.cell (World.block_lt_of_cell? w _ hw583_4)).trans hw583_4)⟩ (fun hHeld => ?_)
      clear hK K
      refine norm_ (a' := ?_) ?_ ?_
      rotate_left
      ·show Act.put _ (some 21) _ = _
       simp only [Act.put, List.setIfInBounds_toArray, List.set_cons_zero, List.set_cons_succ, i64_w, i32_w]
       rfl
      refine last_ (i := 7) (N := none) #[Tt, Tt, Tt, Tt, Tt, Tt, Tt, Tt] rfl rfl (one_of HT_.out (by kernel_rfl)) (by decide) (fun K hK => ?_)
      have hs32 : w31.cell? ⟨gb576, 0, none⟩ = some (.bool x577000_1) := (blk_cell BK576.out 0).trans rfl
      have hfs32 := blk_frozen BK576.out 0
      have hns32_0 := NB575_576.out
      have hms32_0 := NB576_575.out
      have hs34 : w31.cell? ⟨gb576, 1, none⟩ = some (.slice Ao29 x577001_1.length co29) := (blk_cell BK576.out 1).trans rfl
      have hfs34 := blk_frozen BK576.out 1
      have hns34_0 := NB575_576.out
      have hms34_0 := NB576_575.out
      refine skip_ (w1 := ?_) (by rfl) rfl ?_ ?_
      rotate_left
      ·go_simp
       rfl
      refine hK.out _ _ ?_
      clear hK K
      refine done_ (done_of HT_.out (by kernel_rfl)) ?_
      have hnb35 := NB576_575.out
      have hnc35 := NB575_576.out
      obtain ⟨hcz36_0, hcz36_1⟩ := cl2 BK576.out
      obtain ⟨hfz36_0, hfz36_1⟩ := fr2 BK576.out
      try go_wp2_with (first | ((with_reducible refine gate_callee (f := 34) rfl ?_); refine goesL_ (some 24) rfl rfl Try.func34 (by kernel_rfl) rfl #[.agg #[.bool t588, .slice Ao33 t589.length co33]] rfl (by (try simp only [List.map_toArray, List.map_cons, List.map_nil]); first | done | rfl | (simp only [List.length_drop, List.length_take]; rfl)) ?_; (with_reducible refine (parquetref01_Num_Wide.calls t588 _ _ t589 t592 t593 t594 t595 t596 false _ ?side1 ?side2 A10.out).mono ?_); (case side1 => refine (Kd.V_reads' (e := 3) (base := w.heap.size) (ok := fun k_ => (k_ ≠ gb575 ∧ k_ ≠ gb576)) (n := t589.length) (c := co33) ?_).2.2; exact (by (with_reducible repeat (first | apply Kd.V_alloc | apply Kd.V_drewN | apply Kd.V_drew)); exact (Kd.V_mono (Kd.V_far (p := ⟨gb576, 1, none⟩) (Kd.V_far (p := ⟨gb576, 0, none⟩) (Kd.V_mono HO591.out (fun k_ hk => (⟨hk, hk.2⟩ : _ ∧ k_ ≠ gb576))) (fun _ hk => hk.2) (.bool t588)) (fun _ hk => hk.2) (.slice Ao33 t589.length co33)) (fun _ h_ => h_.1)))); (case side2 => exact (Kd.V_reads' HO591.out).2.1); rintro e w37 ⟨rfl, hb⟩; refine ⟨_, rfl, ?_⟩; have n0_ := Aside0.mk (Kd.V_below (by (with_reducible repeat (first | apply Kd.V_alloc | apply Kd.V_drewN | apply Kd.V_drew)); exact (Kd.V_mono (Kd.V_far (p := ⟨gb576, 1, none⟩) (Kd.V_far (p := ⟨gb576, 0, none⟩) (Kd.V_mono HO_577001.out (fun k_ hk => (⟨hk, hk.2⟩ : _ ∧ k_ ≠ gb576))) (fun _ hk => hk.2) (.bool t588)) (fun _ hk => hk.2) (.slice Ao33 t589.length co33)) (fun _ h_ => h_.1))) hb); have n1_ := Aside0.mk (Kd.V_below (by (with_reducible repeat (first | apply Kd.V_alloc | apply Kd.V_drewN | apply Kd.V_drew)); exact (Kd.V_mono (Kd.V_far (p := ⟨gb576, 1, none⟩) (Kd.V_far (p := ⟨gb576, 0, none⟩) (Kd.V_mono HO587.out (fun k_ hk => (⟨hk, hk.2⟩ : _ ∧ k_ ≠ gb576))) (fun _ hk => hk.2) (.bool t588)) (fun _ hk => hk.2) (.slice Ao33 t589.length co33)) (fun _ h_ => h_.1))) hb); have n2_ := Aside0.mk (Kd.V_below (by (with_reducible repeat (first | apply Kd.V_alloc | apply Kd.V_drewN | apply Kd.V_drew)); exact (Kd.V_mono (Kd.V_far (p := ⟨gb576, 1, none⟩) (Kd.V_far (p := ⟨gb576, 0, none⟩) (Kd.V_mono HO591.out (fun k_ hk => (⟨hk, hk.2⟩ : _ ∧ k_ ≠ gb576))) (fun _ hk => hk.2) (.bool t588)) (fun _ hk => hk.2) (.slice Ao33 t589.length co33)) (fun _ h_ => h_.1))) hb); have n3_ := Aside0.mk (blk_below (g := gb575) (o := .cells #[.bool x576000_1, .int .u64 x576001_1, .int .u64 x576002_1, .int .u64 x576003_1, .int .u64 x576004_1] 27 (0, 0)) (by repeat (with_reducible first | exact lb BK575.out | refine blk_far ?_ NB575_576.out _ | refine cn ?_ _ | refine cd ?_ | refine ca ?_ _)) hb); have n4_ := Aside0.mk (blk_below (g := gb576) (o := .cells #[.bool t588, .slice Ao33 t589.length co33] 38 (0, 0)) (by (with_reducible repeat (first | refine cn ?_ _ | refine cd ?_ | refine ca ?_ _)); refine blk_put (cs := #[.bool t588, .slice Ao29 x577001_1.length co29]) ?_ 1 _ rfl; (with_reducible repeat (first | refine cn ?_ _ | refine cd ?_ | refine ca ?_ _)); refine blk_put (cs := #[.bool x577000_1, .slice Ao29 x577001_1.length co29]) ?_ 0 _ rfl; (with_reducible repeat (first | refine cn ?_ _ | refine cd ?_ | refine ca ?_ _)); exact BK576.out) hb); have n5_ := Aside0.mk (below_step (by repeat (first | (with_reducible first | exact HB.out | apply qa | apply qn | apply qd | refine qs ?_ GE575.out | refine qs ?_ GE576.out) | exact HB.out)) hb); clear HO_577001; clear HO587; clear HO591; clear BK575; clear BK576; clear HB; have HO_577001 := n0_; have HO587 := n1_; have HO591 := n2_; have BK575 := n3_; have BK576 := n4_; have HB := n5_; clear n0_ n1_ n2_ n3_ n4_ n5_; (try clear hb); (try clear hb2); (try clear hk); (try clear hi)) | ((with_reducible refine gate_dst (N := 6) rfl ?_); refine box_event ?hg (N := 6) ?hd (cs := #[.bool false, .int .u64 0, .int .u64 0, .int .u64 0, .int .u64 0]) (t := 27) ?hr ?_; (case hd => rfl); (case hg => rfl); (case hr => first | (go_simp; done) | (go_simp; rfl)); intro gb598 hg w38 hbox hb; have n0_ := Aside0.mk (Kd.V_below (Kd.V_elderB (by (with_reducible repeat (first | apply Kd.V_alloc | apply Kd.V_drewN | apply Kd.V_drew)); exact HO_577001.out) gb598 (Nat.le_of_eq hg.symm)) hb); have n1_ := Aside0.mk (Kd.V_below (Kd.V_elderB (by (with_reducible repeat (first | apply Kd.V_alloc | apply Kd.V_drewN | apply Kd.V_drew)); exact HO587.out) gb598 (Nat.le_of_eq hg.symm)) hb); have n2_ := Aside0.mk (Kd.V_below (Kd.V_elderB (by (with_reducible repeat (first | apply Kd.V_alloc | apply Kd.V_drewN | apply Kd.V_drew)); exact HO591.out) gb598 (Nat.le_of_eq hg.symm)) hb); have n3_ := bb BK575 hb; have n4_ := bb BK576 hb; have n5_ := Aside0.mk (below_step (by repeat (first | (with_reducible first | exact HB.out | apply qa | apply qn | apply qd | refine qs ?_ GE575.out | refine qs ?_ GE576.out) | exact HB.out)) hb); have n6_ := Aside0.mk (hbox); have n7_ := bgw HB hg; have n8_ := bgw HB hg; have n9_ := bnl BK575 hg; have n10_ := bng BK575 hg; have n11_ := bnl BK576 hg; have n12_ := bng BK576 hg; clear HO_577001; clear HO587; clear HO591; clear BK575; clear BK576; clear HB; have HO_577001 := n0_; have HO587 := n1_; have HO591 := n2_; have BK575 := n3_; have BK576 := n4_; have HB := n5_; have BK598 := n6_; have GW598 := n7_; have GE598 := n8_; have NB575_598 := n9_; have NB598_575 := n10_; have NB576_598 := n11_; have NB598_576 := n12_; clear n0_ n1_ n2_ n3_ n4_ n5_ n6_ n7_ n8_ n9_ n10_ n11_ n12_; clear hb hbox hg; have hnb39 := NB598_575.out; have hnc39 := NB575_598.out; have hnb40 := NB598_576.out; have hnc40 := NB576_598.out; obtain ⟨hcz41_0, hcz41_1, hcz41_2, hcz41_3, hcz41_4⟩ := cl5 BK598.out; obtain ⟨hfz41_0, hfz41_1, hfz41_2, hfz41_3, hfz41_4⟩ := fr5 BK598.out; obtain ⟨hcz42_0, hcz42_1, hcz42_2, hcz42_3, hcz42_4⟩ := cl5 BK575.out; obtain ⟨hfz42_0, hfz42_1, hfz42_2, hfz42_3, hfz42_4⟩ := fr5 BK575.out))
      refine bodyPost_ret (results_ct rfl _ _ gb575 27 #[.bool false, .int .u64 0, .int .u64 0, .int .u64 0, .int .u64 0] (0, 0) _ rfl (by (with_reducible repeat (first | refine cn ?_ _ | refine cd ?_ | refine ca ?_ _)); refine blk_put (cs := #[.bool false, .int .u64 0, .int .u64 0, .int .u64 0, .int .u64 x576004_1]) ?_ 4 _ rfl; (with_reducible repeat (first | refine cn ?_ _ | refine cd ?_ | refine ca ?_ _)); refine blk_put (cs := #[.bool false, .int .u64 0, .int .u64 0, .int .u64 x576003_1, .int .u64 x576004_1]) ?_ 3 _ rfl; (with_reducible repeat (first | refine cn ?_ _ | refine cd ?_ | refine ca ?_ _)); refine blk_put (cs := #[.bool false, .int .u64 0, .int .u64 x576002_1, .int .u64 x576003_1, .int .u64 x576004_1]) ?_ 2 _ rfl; (with_reducible repeat (first | refine cn ?_ _ | refine cd ?_ | refine ca ?_ _)); refine blk_put (cs := #[.bool false, .int .u64 x576001_1, .int .u64 x576002_1, .int .u64 x576003_1, .int .u64 x576004_1]) ?_ 1 _ rfl; (with_reducible repeat (first | refine cn ?_ _ | refine cd ?_ | refine ca ?_ _)); refine blk_put (cs := #[.bool x576000_1, .int .u64 x576001_1, .int .u64 x576002_1, .int .u64 x576003_1, .int .u64 x576004_1]) ?_ 0 _ rfl; (with_reducible repeat (first | refine cn ?_ _ | refine cd ?_ | refine ca ?_ _)); refine blk_far ?_ NB575_598.out _; (with_reducible repeat (first | refine cn ?_ _ | refine cd ?_ | refine ca ?_ _)); refine blk_far ?_ NB575_598.out _; (with_reducible repeat (first | refine cn ?_ _ | refine cd ?_ | refine ca ?_ _)); refine blk_far ?_ NB575_598.out _; (with_reducible repeat (first | refine cn ?_ _ | refine cd ?_ | refine ca ?_ _)); refine blk_far ?_ NB575_598.out _; (with_reducible repeat (first | refine cn ?_ _ | refine cd ?_ | refine ca ?_ _)); refine blk_far ?_ NB575_598.out _; (with_reducible repeat (first | refine cn ?_ _ | refine cd ?_ | refine ca ?_ _)); exact BK575.out) Try.underlying27 rfl (by kernel_rfl)) rfl ?_
      exact ⟨by first | rfl | (simp [errW_none, errW_some] <;> rfl) | (simp [*, errW_none, errW_some] <;> rfl), by repeat (first | (with_reducible first | exact HB.out | apply qa | apply qn | apply qd | refine qs ?_ GE575.out | refine qs ?_ GE576.out | refine qs ?_ GE598.out) | exact HB.out)⟩
    ·rw [if_neg c7] at H
     exact absurd H (by simp)
   ·rw [if_neg c6] at H
    have c6b0 : decide (x5_1 < (l0.length : Int)) = false := decide_eq_false c6
    clear c6
    replace H := Option.bind_eq_some_iff.mp H
    obtain ⟨⟨t577, t578, t579, t580, t581, t582⟩, A430, H⟩ := H
    replace H : (some (t577, t578, t579, t580, t581, t582)) = some (r1, r2, r3, r4, r5, r6) := H
    have A43 := Aside0.mk A430
    clear A430
    simp only [Option.some.injEq, Prod.mk.injEq] at H
    obtain ⟨rfl, rfl, rfl, rfl, rfl, rfl⟩ := H
    have hnb44 := NB576_575.out
    have hnc44 := NB575_576.out
    obtain ⟨hcz45_0, hcz45_1⟩ := cl2 BK576.out
    obtain ⟨hfz45_0, hfz45_1⟩ := fr2 BK576.out
    obtain ⟨Ao46, co46, eo46⟩ := Kd.V_slice HO_577001.out
    subst eo46
    go_wp2_with (first | ((with_reducible refine gate_callee (f := 68) rfl ?_); refine goesL_ (some 31) rfl rfl Try.func68 (by kernel_rfl) rfl #[.agg #[.bool x577000_1, .slice Ao46 x577001_1.length co46]] rfl (by (try simp only [List.map_toArray, List.map_cons, List.map_nil]); first | done | rfl | (simp only [List.length_drop, List.length_take]; rfl)) ?_; (with_reducible refine (parquetref01_told.calls x577000_1 _ _ x577001_1 t577 t578 t579 t580 t581 t582 _ ?side1 ?side2 A43.out).mono ?_); (case side1 => repeat (first | exact (Kd.V_reads' HO_577001.out).2.2 | (with_reducible refine Kd.C_alloc ?_ _) | (with_reducible refine Kd.C_drewN ?_ _) | (with_reducible refine Kd.C_drew ?_))); (case side2 => exact (Kd.V_reads' HO_577001.out).2.1); rintro e w47 ⟨rfl, hb⟩; refine ⟨_, rfl, ?_⟩; have n0_ := Aside0.mk (Kd.V_below (by (with_reducible repeat (first | apply Kd.V_alloc | apply Kd.V_drewN | apply Kd.V_drew)); exact HO_577001.out) hb); have n1_ := bb BK575 hb; have n2_ := bb BK576 hb; have n3_ := Aside0.mk (below_step (by repeat (first | (with_reducible first | exact HB.out | apply qa | apply qn | apply qd | refine qs ?_ GE575.out | refine qs ?_ GE576.out) | exact HB.out)) hb); clear HO_577001; clear BK575; clear BK576; clear HB; have HO_577001 := n0_; have BK575 := n1_; have BK576 := n2_; have HB := n3_; clear n0_ n1_ n2_ n3_; (try clear hb); (try clear hb2); (try clear hk); (try clear hi); obtain ⟨hcz48_0, hcz48_1, hcz48_2, hcz48_3, hcz48_4⟩ := cl5 BK575.out; obtain ⟨hfz48_0, hfz48_1, hfz48_2, hfz48_3, hfz48_4⟩ := fr5 BK575.out))
    refine bodyPost_ret (results_ct rfl _ _ gb575 27 #[.bool t577, .int .u64 t578, .int .u64 t579, .int .u64 t580, .int .u64 t581] (0, 0) _ rfl (by (with_reducible repeat (first | refine cn ?_ _ | refine cd ?_ | refine ca ?_ _)); exact bp5 (lb BK575.out)) Try.underlying27 rfl (by kernel_rfl)) rfl ?_
    exact ⟨by first | rfl | (simp [errW_none, errW_some] <;> rfl) | (simp [*, errW_none, errW_some] <;> rfl), by repeat (first | (with_reducible first | exact HB.out | apply qa | apply qn | apply qd | refine qs ?_ GE575.out | refine qs ?_ GE576.out) | exact HB.out)⟩
end Go.Proofs.Ytmpbbodafenonaa.MT

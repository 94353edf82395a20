/- The walk of options.Parse. -/
import Derived.Test.YtbiafpklgkkoaaaParL
set_option linter.unusedVariables false
set_option linter.unusedSimpArgs false
namespace Go.Proofs.Ytbiafpklgkkoaaa
open Go Go.Proofs Go.RowKit Go.Maps Go.Shelf Go.WideMaps Go.Proofs.YtbiafpklgkkoaaaW.PrintWords Go.Proofs.YtbiafpklgkkoaaaW.PrintLast Go.Proofs.YtbiafpklgkkoaaaW.PrintMore
set_option maxHeartbeats 8000000 in
set_option maxRecDepth 100000 in
theorem parse_any (A : Option Addr) (cap : Nat) (xs : List Int) (w : World) (hlen : xs.length ≤ 1048576) (hcap : xs.length ≤ cap) (hR : ReadsInt w .u8 A xs.length xs) :
    Calls Try.prog 10 #[.slice A xs.length cap] w fun e W' => e = .returned (parV (parseT xs.length (tks xs))) ∧ Below w.heap.size w W' := by
  have hmm := @run_makeMap Try.prog
  obtain ⟨i0, hi, hz0, hz1, hz2⟩ := info_parts infoSet
  have hr0 := OptB.new w 0 0 false
  have hbw : Below w.heap.size w (w.alloc (.cells #[.int .i64 0, .int .i64 0, .bool false] 25)) := (Below.refl _ _).alloc (Nat.le_refl _) _
  have hR1 := hR.below hbw
  go_enter Try.func10, Try.ntmps10
  go_wp2
  go_step3
  go_wp2_with fail
  refine (all_ok A cap xs _ hlen hcap hR1).mono ?_
  rintro e W1 ⟨tv, rfl, htv, hb1⟩
  obtain ⟨TA, tc, rfl, htc, hT⟩ := Kd.R_reads htv
  go_wp2
  go_step3
  go_wp2
  have hTl : (tks xs).length ≤ 1048576 := by
    have := toks_length xs
    simp [tks]
    omega
  have hTs : ∀ k : Nat, k < (tks xs).length → (rd_T37 (tks xs) (k : Int)).f1.size ≤ 1048576 := fun k hk => Nat.le_trans (tks_size xs k hk) hlen
  clear htv
  obtain ⟨T, hT0⟩ : ∃ T, T = tks xs := ⟨_, rfl⟩
  rw [← hT0] at hT htc hTl hTs ⊢
  have HQ := Lib.hid hT0.symm
  clear hT0
  have hO1 : OptB W1 w.heap.size 0 0 false := hr0.later hb1
  have hbW1 : Below w.heap.size w W1 := hbw.trans (hb1.mono hbw.size)
  have hHT := Aside0.mk hT
  have hbm : Below W1.heap.size W1 (W1.alloc (.map #[] 0)) := (Below.refl _ _).alloc (Nat.le_refl _) _
  have hPI0 : PInv W1 (W1.alloc (.map #[] 0)) (.slice none 0 0) [] false false := ⟨hbm, SeenM.new W1, SetsR.nil _ _⟩
  clear hT hr0 hb1 hbw hR1 hbm
  go_loopw [7, 8, 10] (fun v7 v8 v10 W => ∃ (k : Nat) (l : List Sett) (sr sb : Bool) (at_ : Int), v10 = .int .i64 k ∧ v7 = .int .i64 at_ ∧ PInv W1 W v8 l sr sb ∧ l.length ≤ k ∧ k ≤ T.length ∧
    ((k = 0 ∧ l = [] ∧ sr = false ∧ sb = false ∧ at_ = xs.length) ∨ (0 < k ∧ k < T.length ∧ 0 < l.length ∧ Aside0 (parseT xs.length T = pgo xs.length (T.drop k) sr sb (l.foldl Sett.app (1, 0, false)))))) (fun _ _ v10 _ => T.length - (intOf v10).toNat)
  case atStart => exact ⟨0, [], false, false, _, rfl, rfl, hPI0, Nat.le_refl _, Nat.zero_le _, .inl ⟨rfl, rfl, rfl, rfl, rfl⟩⟩
  case round =>
    obtain ⟨k, l, sr, sb, at_, rfl, rfl, hI, hlk, hkT, hh⟩ := hrel
    have hOr : OptB wr w.heap.size 0 0 false := (hI.hb.block _ hO1.lt).trans hO1
    obtain ⟨c0, c1, c2⟩ := hOr.cells
    obtain ⟨f0, f1, f2⟩ := hOr.fr
    rcases hh with ⟨rfl, rfl, rfl, rfl, rfl⟩ | ⟨hk0, hkl, hl0, hP⟩

    · by_cases hT0 : T.length = 0
      · have HT := Lib.hid (List.eq_nil_of_length_eq_zero hT0)
        go_wp2
        try dsimp only [Exit.noGoto]
        go_wp2
        have hF := ((OptB.set0 hOr 0).set1 0).set2 false
        obtain ⟨e0, e1, e2⟩ := hF.cells
        refine bodyPost_ret (v := .tuple #[.agg #[.int .i64 0, .int .i64 0, .bool false], .int .i64 (xs.length : Int), .int .i64 11]) (by simp [results, Try.results10, go_sem, e0, e1, e2]) rfl ⟨?_, ((Below.setCell (hI.below hbW1) (Nat.le_refl _) _).setCell (Nat.le_refl _) _).setCell (Nat.le_refl _) _⟩
        rw [HQ.out, HT.out]
        rfl
      · obtain ⟨ad, e, hx, hx'⟩ := at_T37 (Kd.C_below hHT.out hI.hb) ((0 : Nat) : Int) (by omega) (by omega)
        subst e
        have hts := hTs 0 (by omega)
        obtain ⟨t, ht⟩ : ∃ t, t = rd_T37 T ((0 : Nat) : Int) := ⟨_, rfl⟩
        rw [← ht] at hx hx' hts
        have HT := Lib.hid ht
        clear ht
        have hx0 : wr.cell? ad = some (.int .i64 t.f0) := hx
        have hx1 : wr.cell? ⟨ad.block, ad.off + 1, none⟩ = some (.string t.f1) := hx'
        have hT1 : (0 : Int) < (T.length : Int) := by omega
        have hT2 : ((0 : Int) == (T.length : Int)) = false := by simp; omega
        have HP0 : Hid (T = t :: T.drop 1) := Lib.hid (by
          rw [HT.out]
          cases T with
          | nil => exact absurd rfl hT0
          | cons a r => rfl)
        clear hx hx'
        go_wp2
        go_loopw [12, 13] (fun v12 v13 W => ∃ j : Nat, 1 ≤ j ∧ j ≤ 4 ∧ v13 = .int .i64 j ∧ v12 = .int .i64 (mUp t.f1 j) ∧ Below wr.heap.size wr W) (fun _ v13 _ => 4 - (intOf v13).toNat)
        case atStart => exact ⟨1, by omega, by omega, rfl, rfl, Below.refl _ _⟩
        case round =>
          obtain ⟨j, hj1, hj4, rfl, rfl, hbj⟩ := hrel
          by_cases hj : j ≤ 3
          · by_cases hs : t.f1 = wordS (j : Int)
            · have hb : (t.f1.toList == (wordS (j : Int)).toList) = true := by rw [hs]; exact beq_self_eq_true _
              have hm := mUp_step t.f1 j hj1 hj
              rw [if_pos hs] at hm
              have HM := Lib.hid hm
              clear hs hm
              go_wp2_with (go_at_call 22; refine (word_any (j : Int) _ (by omega) (by omega)).mono ?_; rintro e w2 ⟨rfl, hb2⟩)
              go_roundw
              case rel => exact ⟨j + 1, by omega, by omega, by go_num, by rw [HM.out], hbj.trans (hb2.mono hbj.size)⟩
              case measure => simp only [intOf]; omega
            · have hb : (t.f1.toList == (wordS (j : Int)).toList) = false := toList_ne hs
              have hm := mUp_step t.f1 j hj1 hj
              rw [if_neg hs] at hm
              have HM := Lib.hid hm
              clear hs hm
              go_wp2_with (go_at_call 22; refine (word_any (j : Int) _ (by omega) (by omega)).mono ?_; rintro e w2 ⟨rfl, hb2⟩)
              go_roundw
              case rel => exact ⟨j + 1, by omega, by omega, by go_num, by rw [HM.out], hbj.trans (hb2.mono hbj.size)⟩
              case measure => simp only [intOf]; omega
          · obtain rfl : j = 4 := by omega
            rw [mUp_end]
            have hOj := hOr.later hbj
            have hIj := hI.later hbj
            clear c0 c1 c2 f0 f1 f2 hx0 hx1 hj1 hj4 hj
            obtain ⟨c0, c1, c2⟩ := hOj.cells
            obtain ⟨f0, f1, f2⟩ := hOj.fr
            by_cases hm0 : modeS t.f1 = 0
            · rw [hm0]
              have HM0 := Lib.hid hm0
              clear hm0
              go_wp2
              try dsimp only [Exit.noGoto]
              go_wp2
              have hF := ((OptB.set0 hOj 0).set1 0).set2 false
              obtain ⟨e0, e1, e2⟩ := hF.cells
              refine bodyPost_ret (v := .tuple #[.agg #[.int .i64 0, .int .i64 0, .bool false], .int .i64 (t.f0), .int .i64 11]) (by simp [results, Try.results10, go_sem, e0, e1, e2]) rfl ⟨?_, ((Below.setCell (hIj.below hbW1) (Nat.le_refl _) _).setCell (Nat.le_refl _) _).setCell (Nat.le_refl _) _⟩
              rw [HQ.out, parse_zero HP0.out HM0.out]
              rfl
            · obtain ⟨hnr, hnb⟩ := mode_no hm0
              have hR1 := toList_ne' ref_list hnr
              have hB1 := toList_ne' bud_list hnb
              obtain ⟨mo, hmo⟩ : ∃ mo, mo = modeS t.f1 := ⟨_, rfl⟩
              rw [← hmo] at hm0 ⊢
              have HMo := Lib.hid hmo
              clear hmo
              have hmb : (mo == 0) = false := by simpa using hm0
              have HV : Hid (parseT xs.length T = pgo xs.length (T.drop 1) false false (([] ++ [Sett.mode mo]).foldl Sett.app (1, 0, false))) := Lib.hid (parse_first HP0.out HMo.out hm0)
              have hcs : ∀ u, (if u = t.f1 then false else seenF false false u) = seenF false false u := fun u => by simp [seenF]
              clear hm0
              by_cases hlast : T.length ≤ 0 + 1
              · have hq : ((0 : Int) == (T.length : Int) - 1) = true := by simp; omega
                go_wp2_with fail
                refine (mode_any mo _).mono ?_
                rintro e w2 ⟨rfl, hSet, hb2⟩
                have hI2 := PInv.later hIj hb2
                obtain ⟨cs, hrow, hIs⟩ := hI2.hs
                have hsz2 := hI2.hb.size
                have hmax : (([] : List Sett)).length + 1 ≤ maxLen := by unfold maxLen; omega
                go_wp2_with (first | (at_builtin; refine wpList_append_own _ rfl _ _ 37 rfl (W1.heap.size + 1) 52 i0 .nilFunc 1 8 Try.underlying37 hi hz0 hz1 hz2 rfl (by decide) _ _ _ rfl (hrow.alloc _) ⟨w2.heap.size, 0, none⟩ 1 1 [.func (.func 33) #[] #[.pointer (some ⟨wr.heap.size, 0, none⟩)]] rfl rfl (cell_one_new _ _ _) (by simp [Value.oneCell']) hmax (by omega) (by have := hI2.hb.size; simp; omega) ?_; intro v' w3 hown hgrow _; obtain ⟨hb3, hm3, hs3⟩ := PInv.mid (x := Sett.mode mo) hI2 hrow hIs ⟨_, rfl, hSet⟩ hown hgrow; clear hown hgrow hrow hIs hSet hmax; obtain ⟨D, hDo, hDs⟩ := hm3) | (at_mapUpdate; refine wpList_mapUpdate_own _ rfl _ _ _ 58 rfl 9 4 keyS Try.underlying58 (plainElem Try.prog 4) W1.heap.size (([] : List Sett)).length D rfl hDo (by unfold maxLen; omega) (.string t.f1) (.bool false) (.string t.f1.data.toList) rfl rfl (keyOf_string_mk Try.underlying9 (by unfold maxLen; omega)) (.lit (.bool false)) [] (plainElem_bool Try.underlying4 false) ?_; intro w4 hown4 hgrow4; have hI4 := PInv.put (x := Sett.mode mo) (sr' := false) (sb' := false) hb3 hDo hDs hs3 t.f1 (by omega) false hown4 hgrow4 hcs; clear hown4 hgrow4 hDo hDs hs3 hb3))
                obtain ⟨A4, c4, n4, rfl, HN, hcap4, hrw4⟩ := SetsR.rown hI4.hs (by simp only [List.length_append, List.length_cons, List.length_nil]; omega)
                obtain ⟨oa, ob, oc, ho⟩ : ∃ oa ob oc, (([] : List Sett) ++ [Sett.mode mo]).foldl Sett.app (1, 0, false) = (oa, ob, oc) := ⟨_, _, _, rfl⟩
                have HV2 : Hid (parseT xs.length T = pgo xs.length (T.drop (0 + 1)) false false (oa, ob, oc)) := Lib.hid (by rw [← ho]; exact HV.out)
                have HO := Lib.hid ho
                clear ho
                by_cases hck : chkS oa ob = 0
                · have HC := Lib.hid hck
                  clear hck
                  go_wp2_with (go_at_call 12; refine (make_n A4 (([] : List Sett) ++ [Sett.mode mo]) c4 n4 _ hrw4 hcap4 HN.out).mono ?_; rintro e w5 ⟨rfl, hb5⟩; rw [HO.out, makeV_good HC.out]; have y := OptB.later (show OptB w4 w.heap.size 0 0 false from (hI4.hb.block _ hO1.lt).trans hO1) hb5; obtain ⟨y0, y1, y2⟩ := y.cells; obtain ⟨z0, z1, z2⟩ := y.fr; have hlt5 := y.lt)
                  try dsimp only [Exit.noGoto]
                  go_wp2
                  have hb6 : Below w.heap.size w w5 := (hI4.below hbW1).trans (hb5.mono (hI4.below hbW1).size)
                  have hF0 := ((OptB.set0 y oa).set1 ob).set2 oc
                  have hF := hF0.later ((Below.refl _ _).alloc (Nat.le_refl _) (.cells #[.int .i64 oa, .int .i64 ob, .bool oc] 25))
                  obtain ⟨e0, e1, e2⟩ := hF.cells
                  refine bodyPost_ret (v := .tuple #[.agg #[.int .i64 oa, .int .i64 ob, .bool oc], .int .i64 0, .int .i64 0]) (by simp [results, Try.results10, go_sem, e0, e1, e2]) rfl ⟨?_, Below.alloc (((Below.setCell hb6 (Nat.le_refl _) _).setCell (Nat.le_refl _) _).setCell (Nat.le_refl _) _) (by first | exact hb6.size | (have := hb6.size; simp; omega)) _⟩
                  rw [HQ.out, pgo_good HV2.out (by omega) HC.out]
                · have HC := Lib.hid (chk_two hck)
                  clear hck
                  go_wp2_with (go_at_call 12; refine (make_n A4 (([] : List Sett) ++ [Sett.mode mo]) c4 n4 _ hrw4 hcap4 HN.out).mono ?_; rintro e w5 ⟨rfl, hb5⟩; rw [HO.out, makeV_bad HC.out]; have y := OptB.later (show OptB w4 w.heap.size 0 0 false from (hI4.hb.block _ hO1.lt).trans hO1) hb5; obtain ⟨y0, y1, y2⟩ := y.cells; obtain ⟨z0, z1, z2⟩ := y.fr; have hlt5 := y.lt)
                  try dsimp only [Exit.noGoto]
                  go_wp2
                  have hb6 : Below w.heap.size w w5 := (hI4.below hbW1).trans (hb5.mono (hI4.below hbW1).size)
                  have hF0 := ((OptB.set0 y 0).set1 0).set2 false
                  have hF := hF0.later ((Below.refl _ _).alloc (Nat.le_refl _) (.cells #[.int .i64 0, .int .i64 0, .bool false] 25))
                  obtain ⟨e0, e1, e2⟩ := hF.cells
                  refine bodyPost_ret (v := .tuple #[.agg #[.int .i64 0, .int .i64 0, .bool false], .int .i64 0, .int .i64 2]) (by simp [results, Try.results10, go_sem, e0, e1, e2]) rfl ⟨?_, Below.alloc (((Below.setCell hb6 (Nat.le_refl _) _).setCell (Nat.le_refl _) _).setCell (Nat.le_refl _) _) (by first | exact hb6.size | (have := hb6.size; simp; omega)) _⟩
                  rw [HQ.out, pgo_bad HV2.out (by omega) HC.out]
              · have hq : ((0 : Int) == (T.length : Int) - 1) = false := by simp; omega
                go_wp2_with fail
                refine (mode_any mo _).mono ?_
                rintro e w2 ⟨rfl, hSet, hb2⟩
                have hI2 := PInv.later hIj hb2
                obtain ⟨cs, hrow, hIs⟩ := hI2.hs
                have hsz2 := hI2.hb.size
                have hmax : (([] : List Sett)).length + 1 ≤ maxLen := by unfold maxLen; omega
                go_wp2_with (first | (at_builtin; refine wpList_append_own _ rfl _ _ 37 rfl (W1.heap.size + 1) 52 i0 .nilFunc 1 8 Try.underlying37 hi hz0 hz1 hz2 rfl (by decide) _ _ _ rfl (hrow.alloc _) ⟨w2.heap.size, 0, none⟩ 1 1 [.func (.func 33) #[] #[.pointer (some ⟨wr.heap.size, 0, none⟩)]] rfl rfl (cell_one_new _ _ _) (by simp [Value.oneCell']) hmax (by omega) (by have := hI2.hb.size; simp; omega) ?_; intro v' w3 hown hgrow _; obtain ⟨hb3, hm3, hs3⟩ := PInv.mid (x := Sett.mode mo) hI2 hrow hIs ⟨_, rfl, hSet⟩ hown hgrow; clear hown hgrow hrow hIs hSet hmax; obtain ⟨D, hDo, hDs⟩ := hm3) | (at_mapUpdate; refine wpList_mapUpdate_own _ rfl _ _ _ 58 rfl 9 4 keyS Try.underlying58 (plainElem Try.prog 4) W1.heap.size (([] : List Sett)).length D rfl hDo (by unfold maxLen; omega) (.string t.f1) (.bool false) (.string t.f1.data.toList) rfl rfl (keyOf_string_mk Try.underlying9 (by unfold maxLen; omega)) (.lit (.bool false)) [] (plainElem_bool Try.underlying4 false) ?_; intro w4 hown4 hgrow4; have hI4 := PInv.put (x := Sett.mode mo) (sr' := false) (sb' := false) hb3 hDo hDs hs3 t.f1 (by omega) false hown4 hgrow4 hcs; clear hown4 hgrow4 hDo hDs hs3 hb3))
                go_roundw
                case rel => exact ⟨0 + 1, ([] : List Sett) ++ [Sett.mode mo], false, false, _, by go_num, rfl, hI4, by simp only [List.length_append, List.length_cons, List.length_nil]; omega, by omega, .inr ⟨by omega, by omega, by simp only [List.length_append, List.length_cons, List.length_nil]; omega, Aside0.mk HV.out⟩⟩
                case measure => simp only [intOf]; omega
    · obtain ⟨had, e, hx, hx'⟩ := at_T37 (Kd.C_below hHT.out hI.hb) ((k : Int)) (by omega) (by omega)
      subst e
      rw [show ((k : Int)).toNat = k from by omega] at hx hx'
      have hts : (rd_T37 T ((k : Int))).f1.size ≤ 1048576 := hTs k (by omega)
      have hdr : Hid (T.drop k = rd_T37 T ((k : Int)) :: T.drop (k + 1)) := Lib.hid (drop_at (by omega))
      obtain ⟨t, ht⟩ : ∃ t, t = rd_T37 T ((k : Int)) := ⟨_, rfl⟩
      rw [← ht] at hx hx' hts hdr
      clear ht
      have hq1 : ((k : Int) == 0) = false := by simp; omega
      have hq2 : ((k : Int) == (T.length : Int)) = false := by simp; omega
      have hq3 : (k : Int) < (T.length : Int) := by omega
      have hlo := hI.hm.look t.f1 (by unfold maxLen; omega)
      by_cases hse : seenF sr sb t.f1 = true
      · rw [hse] at hlo
        have HV : Hid (parseT xs.length T = ((0, 0, false), t.f0, 11)) := Lib.hid (pgo_seen hP.out hdr.out hse)
        clear hse
        go_wp2_with fail
        try dsimp only [Exit.noGoto]
        go_wp2
        have hF := ((OptB.set0 hOr 0).set1 0).set2 false
        obtain ⟨e0, e1, e2⟩ := hF.cells
        refine bodyPost_ret (v := .tuple #[.agg #[.int .i64 0, .int .i64 0, .bool false], .int .i64 t.f0, .int .i64 11]) (by simp [results, Try.results10, go_sem, e0, e1, e2]) rfl ⟨?_, ((Below.setCell (hI.below hbW1) (Nat.le_refl _) _).setCell (Nat.le_refl _) _).setCell (Nat.le_refl _) _⟩
        rw [HQ.out, HV.out]
        rfl
      · have hse2 : seenF sr sb t.f1 = false := by simpa using hse
        rw [hse2] at hlo
        clear hse
        by_cases hrf : t.f1 = refB
        · obtain rfl : sr = false := seen_ref (by rw [← hrf]; exact hse2)
          have hR1 := toList_eq' ref_list hrf
          have HV : Hid (parseT xs.length T = pgo xs.length (T.drop (k + 1)) true sb ((l ++ [Sett.refine true]).foldl Sett.app (1, 0, false))) := Lib.hid (pgo_ref hP.out hdr.out hrf)
          have hcs := hcs_ref hrf false sb
          clear hse2 hrf
          by_cases hlast : T.length ≤ k + 1
          · have hq : ((k : Int) == (T.length : Int) - 1) = true := by simp; omega
            go_wp2_with fail
            refine (refine_any true _).mono ?_
            rintro e w2 ⟨rfl, hSet, hb2⟩
            have hI2 := PInv.later hI hb2
            obtain ⟨cs, hrow, hIs⟩ := hI2.hs
            have hsz2 := hI2.hb.size
            have hmax : (l).length + 1 ≤ maxLen := by unfold maxLen; omega
            go_wp2_with (first | (at_builtin; refine wpList_append_own _ rfl _ _ 37 rfl (W1.heap.size + 1) 52 i0 .nilFunc 1 8 Try.underlying37 hi hz0 hz1 hz2 rfl (by decide) _ _ _ rfl (hrow.alloc _) ⟨w2.heap.size, 0, none⟩ 1 1 [.func (.func 35) #[] #[.pointer (some ⟨wr.heap.size, 0, none⟩)]] rfl rfl (cell_one_new _ _ _) (by simp [Value.oneCell']) hmax (by omega) (by have := hI2.hb.size; simp; omega) ?_; intro v' w3 hown hgrow _; obtain ⟨hb3, hm3, hs3⟩ := PInv.mid (x := Sett.refine true) hI2 hrow hIs ⟨_, rfl, hSet⟩ hown hgrow; clear hown hgrow hrow hIs hSet hmax; obtain ⟨D, hDo, hDs⟩ := hm3) | (at_mapUpdate; refine wpList_mapUpdate_own _ rfl _ _ _ 58 rfl 9 4 keyS Try.underlying58 (plainElem Try.prog 4) W1.heap.size (l).length D rfl hDo (by unfold maxLen; omega) (.string t.f1) (.bool true) (.string t.f1.data.toList) rfl rfl (keyOf_string_mk Try.underlying9 (by unfold maxLen; omega)) (.lit (.bool true)) [] (plainElem_bool Try.underlying4 true) ?_; intro w4 hown4 hgrow4; have hI4 := PInv.put (x := Sett.refine true) (sr' := true) (sb' := sb) hb3 hDo hDs hs3 t.f1 (by omega) true hown4 hgrow4 hcs; clear hown4 hgrow4 hDo hDs hs3 hb3))
            obtain ⟨A4, c4, n4, rfl, HN, hcap4, hrw4⟩ := SetsR.rown hI4.hs (by simp only [List.length_append, List.length_cons, List.length_nil]; omega)
            obtain ⟨oa, ob, oc, ho⟩ : ∃ oa ob oc, (l ++ [Sett.refine true]).foldl Sett.app (1, 0, false) = (oa, ob, oc) := ⟨_, _, _, rfl⟩
            have HV2 : Hid (parseT xs.length T = pgo xs.length (T.drop (k + 1)) true sb (oa, ob, oc)) := Lib.hid (by rw [← ho]; exact HV.out)
            have HO := Lib.hid ho
            clear ho
            by_cases hck : chkS oa ob = 0
            · have HC := Lib.hid hck
              clear hck
              go_wp2_with (go_at_call 12; refine (make_n A4 (l ++ [Sett.refine true]) c4 n4 _ hrw4 hcap4 HN.out).mono ?_; rintro e w5 ⟨rfl, hb5⟩; rw [HO.out, makeV_good HC.out]; have y := OptB.later (show OptB w4 w.heap.size 0 0 false from (hI4.hb.block _ hO1.lt).trans hO1) hb5; obtain ⟨y0, y1, y2⟩ := y.cells; obtain ⟨z0, z1, z2⟩ := y.fr; have hlt5 := y.lt)
              try dsimp only [Exit.noGoto]
              go_wp2
              have hb6 : Below w.heap.size w w5 := (hI4.below hbW1).trans (hb5.mono (hI4.below hbW1).size)
              have hF0 := ((OptB.set0 y oa).set1 ob).set2 oc
              have hF := hF0.later ((Below.refl _ _).alloc (Nat.le_refl _) (.cells #[.int .i64 oa, .int .i64 ob, .bool oc] 25))
              obtain ⟨e0, e1, e2⟩ := hF.cells
              refine bodyPost_ret (v := .tuple #[.agg #[.int .i64 oa, .int .i64 ob, .bool oc], .int .i64 0, .int .i64 0]) (by simp [results, Try.results10, go_sem, e0, e1, e2]) rfl ⟨?_, Below.alloc (((Below.setCell hb6 (Nat.le_refl _) _).setCell (Nat.le_refl _) _).setCell (Nat.le_refl _) _) (by first | exact hb6.size | (have := hb6.size; simp; omega)) _⟩
              rw [HQ.out, pgo_good HV2.out (by omega) HC.out]
            · have HC := Lib.hid (chk_two hck)
              clear hck
              go_wp2_with (go_at_call 12; refine (make_n A4 (l ++ [Sett.refine true]) c4 n4 _ hrw4 hcap4 HN.out).mono ?_; rintro e w5 ⟨rfl, hb5⟩; rw [HO.out, makeV_bad HC.out]; have y := OptB.later (show OptB w4 w.heap.size 0 0 false from (hI4.hb.block _ hO1.lt).trans hO1) hb5; obtain ⟨y0, y1, y2⟩ := y.cells; obtain ⟨z0, z1, z2⟩ := y.fr; have hlt5 := y.lt)
              try dsimp only [Exit.noGoto]
              go_wp2
              have hb6 : Below w.heap.size w w5 := (hI4.below hbW1).trans (hb5.mono (hI4.below hbW1).size)
              have hF0 := ((OptB.set0 y 0).set1 0).set2 false
              have hF := hF0.later ((Below.refl _ _).alloc (Nat.le_refl _) (.cells #[.int .i64 0, .int .i64 0, .bool false] 25))
              obtain ⟨e0, e1, e2⟩ := hF.cells
              refine bodyPost_ret (v := .tuple #[.agg #[.int .i64 0, .int .i64 0, .bool false], .int .i64 0, .int .i64 2]) (by simp [results, Try.results10, go_sem, e0, e1, e2]) rfl ⟨?_, Below.alloc (((Below.setCell hb6 (Nat.le_refl _) _).setCell (Nat.le_refl _) _).setCell (Nat.le_refl _) _) (by first | exact hb6.size | (have := hb6.size; simp; omega)) _⟩
              rw [HQ.out, pgo_bad HV2.out (by omega) HC.out]
          · have hq : ((k : Int) == (T.length : Int) - 1) = false := by simp; omega
            go_wp2_with fail
            refine (refine_any true _).mono ?_
            rintro e w2 ⟨rfl, hSet, hb2⟩
            have hI2 := PInv.later hI hb2
            obtain ⟨cs, hrow, hIs⟩ := hI2.hs
            have hsz2 := hI2.hb.size
            have hmax : (l).length + 1 ≤ maxLen := by unfold maxLen; omega
            go_wp2_with (first | (at_builtin; refine wpList_append_own _ rfl _ _ 37 rfl (W1.heap.size + 1) 52 i0 .nilFunc 1 8 Try.underlying37 hi hz0 hz1 hz2 rfl (by decide) _ _ _ rfl (hrow.alloc _) ⟨w2.heap.size, 0, none⟩ 1 1 [.func (.func 35) #[] #[.pointer (some ⟨wr.heap.size, 0, none⟩)]] rfl rfl (cell_one_new _ _ _) (by simp [Value.oneCell']) hmax (by omega) (by have := hI2.hb.size; simp; omega) ?_; intro v' w3 hown hgrow _; obtain ⟨hb3, hm3, hs3⟩ := PInv.mid (x := Sett.refine true) hI2 hrow hIs ⟨_, rfl, hSet⟩ hown hgrow; clear hown hgrow hrow hIs hSet hmax; obtain ⟨D, hDo, hDs⟩ := hm3) | (at_mapUpdate; refine wpList_mapUpdate_own _ rfl _ _ _ 58 rfl 9 4 keyS Try.underlying58 (plainElem Try.prog 4) W1.heap.size (l).length D rfl hDo (by unfold maxLen; omega) (.string t.f1) (.bool true) (.string t.f1.data.toList) rfl rfl (keyOf_string_mk Try.underlying9 (by unfold maxLen; omega)) (.lit (.bool true)) [] (plainElem_bool Try.underlying4 true) ?_; intro w4 hown4 hgrow4; have hI4 := PInv.put (x := Sett.refine true) (sr' := true) (sb' := sb) hb3 hDo hDs hs3 t.f1 (by omega) true hown4 hgrow4 hcs; clear hown4 hgrow4 hDo hDs hs3 hb3))
            go_roundw
            case rel => exact ⟨k + 1, l ++ [Sett.refine true], true, sb, _, by go_num, rfl, hI4, by simp only [List.length_append, List.length_cons, List.length_nil]; omega, by omega, .inr ⟨by omega, by omega, by simp only [List.length_append, List.length_cons, List.length_nil]; omega, Aside0.mk HV.out⟩⟩
            case measure => simp only [intOf]; omega
        · have hR1 := toList_ne' ref_list hrf
          by_cases hbu : t.f1 = budB
          · obtain rfl : sb = false := seen_bud (by rw [← hbu]; exact hse2)
            have hB1 := toList_eq' bud_list hbu
            by_cases hlst : T.length ≤ k + 1
            · have hq4 : ((k : Int) + 1 == (T.length : Int)) = true := by simp; omega
              have HV : Hid (parseT xs.length T = ((0, 0, false), (xs.length : Int), 11)) := Lib.hid (pgo_bud_last hP.out (by rw [hdr.out, List.drop_eq_nil_of_le hlst]) hbu)
              clear hbu hrf hse2
              go_wp2_with fail
              try dsimp only [Exit.noGoto]
              go_wp2
              have hF := ((OptB.set0 hOr 0).set1 0).set2 false
              obtain ⟨e0, e1, e2⟩ := hF.cells
              refine bodyPost_ret (v := .tuple #[.agg #[.int .i64 0, .int .i64 0, .bool false], .int .i64 (xs.length : Int), .int .i64 11]) (by simp [results, Try.results10, go_sem, e0, e1, e2]) rfl ⟨?_, ((Below.setCell (hI.below hbW1) (Nat.le_refl _) _).setCell (Nat.le_refl _) _).setCell (Nat.le_refl _) _⟩
              rw [HQ.out, HV.out]
              rfl
            · have hq4 : ((k : Int) + 1 == (T.length : Int)) = false := by simp; omega
              obtain ⟨hgad, e, hgx, hgx'⟩ := at_T37 (Kd.C_below hHT.out hI.hb) ((k : Int) + 1) (by omega) (by omega)
              cases e
              rw [show ((k : Int) + 1).toNat = (k + 1) from by omega] at hgx hgx'
              have hgts : (rd_T37 T ((k : Int) + 1)).f1.size ≤ 1048576 := hTs (k + 1) (by omega)
              have hgdr : Hid (T.drop (k + 1) = rd_T37 T ((k : Int) + 1) :: T.drop ((k + 1) + 1)) := Lib.hid (drop_at (by omega))
              obtain ⟨u, hgt⟩ : ∃ u, u = rd_T37 T ((k : Int) + 1) := ⟨_, rfl⟩
              rw [← hgt] at hgx hgx' hgts hgdr
              clear hgt
              obtain ⟨n, f, hnf⟩ : ∃ n f, numS (bytesOf u.f1) 100 = (n, f) := ⟨_, _, rfl⟩
              have HNF := Lib.hid hnf
              have hdd : Hid (T.drop k = t :: u :: T.drop (k + 1 + 1)) := Lib.hid (by rw [hdr.out, hgdr.out])
              have hcs := hcs_bud hbu sr false
              by_cases hf0 : f = 0
              · by_cases hn0 : n < 0
                · have HV : Hid (parseT xs.length T = ((0, 0, false), u.f0, 10)) := Lib.hid (pgo_bud_err hP.out hdd.out hbu (errN_neg hnf hf0 hn0) (by decide))
                  subst hf0
                  clear hbu hrf hse2 hnf
                  go_wp2_with fail
                  refine (number_n HNF _ hgts).mono ?_
                  rintro e w7 ⟨rfl, hb7⟩
                  have hOj := hOr.later hb7
                  have hIj := hI.later hb7
                  clear c0 c1 c2 f0 f1 f2 hx hx' hgx hgx'
                  obtain ⟨c0, c1, c2⟩ := hOj.cells
                  obtain ⟨f0, f1, f2⟩ := hOj.fr
                  go_wp2_with fail
                  try dsimp only [Exit.noGoto]
                  go_wp2
                  have hF := ((OptB.set0 hOj 0).set1 0).set2 false
                  obtain ⟨e0, e1, e2⟩ := hF.cells
                  refine bodyPost_ret (v := .tuple #[.agg #[.int .i64 0, .int .i64 0, .bool false], .int .i64 u.f0, .int .i64 10]) (by simp [results, Try.results10, go_sem, e0, e1, e2]) rfl ⟨?_, ((Below.setCell (hIj.below hbW1) (Nat.le_refl _) _).setCell (Nat.le_refl _) _).setCell (Nat.le_refl _) _⟩
                  rw [HQ.out, HV.out]
                  rfl
                · have HV : Hid (parseT xs.length T = pgo xs.length (T.drop (k + 1 + 1)) sr true ((l ++ [Sett.budget n]).foldl Sett.app (1, 0, false))) := Lib.hid (pgo_bud hP.out hdd.out hbu (errN_ok hnf hf0 hn0) (by rw [hnf]))
                  subst hf0
                  clear hbu hrf hse2 hnf
                  go_wp2_with fail
                  refine (number_n HNF _ hgts).mono ?_
                  rintro e w7 ⟨rfl, hb7⟩
                  have hOj := hOr.later hb7
                  have hIj := hI.later hb7
                  clear c0 c1 c2 f0 f1 f2 hx hx' hgx hgx'
                  obtain ⟨c0, c1, c2⟩ := hOj.cells
                  obtain ⟨f0, f1, f2⟩ := hOj.fr
                  by_cases hlast : T.length ≤ (k + 1) + 1
                  · have hq : (((k : Int) + 1 : Int) == (T.length : Int) - 1) = true := by simp; omega
                    go_wp2_with fail
                    refine (budget_any n _).mono ?_
                    rintro e w2 ⟨rfl, hSet, hb2⟩
                    have hI2 := PInv.later hIj hb2
                    obtain ⟨cs, hrow, hIs⟩ := hI2.hs
                    have hsz2 := hI2.hb.size
                    have hmax : (l).length + 1 ≤ maxLen := by unfold maxLen; omega
                    go_wp2_with (first | (at_builtin; refine wpList_append_own _ rfl _ _ 37 rfl (W1.heap.size + 1) 52 i0 .nilFunc 1 8 Try.underlying37 hi hz0 hz1 hz2 rfl (by decide) _ _ _ rfl (hrow.alloc _) ⟨w2.heap.size, 0, none⟩ 1 1 [.func (.func 32) #[] #[.pointer (some ⟨w7.heap.size, 0, none⟩)]] rfl rfl (cell_one_new _ _ _) (by simp [Value.oneCell']) hmax (by omega) (by have := hI2.hb.size; simp; omega) ?_; intro v' w3 hown hgrow _; obtain ⟨hb3, hm3, hs3⟩ := PInv.mid (x := Sett.budget n) hI2 hrow hIs ⟨_, rfl, hSet⟩ hown hgrow; clear hown hgrow hrow hIs hSet hmax; obtain ⟨D, hDo, hDs⟩ := hm3) | (at_mapUpdate; refine wpList_mapUpdate_own _ rfl _ _ _ 58 rfl 9 4 keyS Try.underlying58 (plainElem Try.prog 4) W1.heap.size (l).length D rfl hDo (by unfold maxLen; omega) (.string t.f1) (.bool true) (.string t.f1.data.toList) rfl rfl (keyOf_string_mk Try.underlying9 (by unfold maxLen; omega)) (.lit (.bool true)) [] (plainElem_bool Try.underlying4 true) ?_; intro w4 hown4 hgrow4; have hI4 := PInv.put (x := Sett.budget n) (sr' := sr) (sb' := true) hb3 hDo hDs hs3 t.f1 (by omega) true hown4 hgrow4 hcs; clear hown4 hgrow4 hDo hDs hs3 hb3))
                    obtain ⟨A4, c4, n4, rfl, HN, hcap4, hrw4⟩ := SetsR.rown hI4.hs (by simp only [List.length_append, List.length_cons, List.length_nil]; omega)
                    obtain ⟨oa, ob, oc, ho⟩ : ∃ oa ob oc, (l ++ [Sett.budget n]).foldl Sett.app (1, 0, false) = (oa, ob, oc) := ⟨_, _, _, rfl⟩
                    have HV2 : Hid (parseT xs.length T = pgo xs.length (T.drop ((k + 1) + 1)) sr true (oa, ob, oc)) := Lib.hid (by rw [← ho]; exact HV.out)
                    have HO := Lib.hid ho
                    clear ho
                    by_cases hck : chkS oa ob = 0
                    · have HC := Lib.hid hck
                      clear hck
                      go_wp2_with (go_at_call 12; refine (make_n A4 (l ++ [Sett.budget n]) c4 n4 _ hrw4 hcap4 HN.out).mono ?_; rintro e w5 ⟨rfl, hb5⟩; rw [HO.out, makeV_good HC.out]; have y := OptB.later (show OptB w4 w.heap.size 0 0 false from (hI4.hb.block _ hO1.lt).trans hO1) hb5; obtain ⟨y0, y1, y2⟩ := y.cells; obtain ⟨z0, z1, z2⟩ := y.fr; have hlt5 := y.lt)
                      try dsimp only [Exit.noGoto]
                      go_wp2
                      have hb6 : Below w.heap.size w w5 := (hI4.below hbW1).trans (hb5.mono (hI4.below hbW1).size)
                      have hF0 := ((OptB.set0 y oa).set1 ob).set2 oc
                      have hF := hF0.later ((Below.refl _ _).alloc (Nat.le_refl _) (.cells #[.int .i64 oa, .int .i64 ob, .bool oc] 25))
                      obtain ⟨e0, e1, e2⟩ := hF.cells
                      refine bodyPost_ret (v := .tuple #[.agg #[.int .i64 oa, .int .i64 ob, .bool oc], .int .i64 0, .int .i64 0]) (by simp [results, Try.results10, go_sem, e0, e1, e2]) rfl ⟨?_, Below.alloc (((Below.setCell hb6 (Nat.le_refl _) _).setCell (Nat.le_refl _) _).setCell (Nat.le_refl _) _) (by first | exact hb6.size | (have := hb6.size; simp; omega)) _⟩
                      rw [HQ.out, pgo_good HV2.out (by omega) HC.out]
                    · have HC := Lib.hid (chk_two hck)
                      clear hck
                      go_wp2_with (go_at_call 12; refine (make_n A4 (l ++ [Sett.budget n]) c4 n4 _ hrw4 hcap4 HN.out).mono ?_; rintro e w5 ⟨rfl, hb5⟩; rw [HO.out, makeV_bad HC.out]; have y := OptB.later (show OptB w4 w.heap.size 0 0 false from (hI4.hb.block _ hO1.lt).trans hO1) hb5; obtain ⟨y0, y1, y2⟩ := y.cells; obtain ⟨z0, z1, z2⟩ := y.fr; have hlt5 := y.lt)
                      try dsimp only [Exit.noGoto]
                      go_wp2
                      have hb6 : Below w.heap.size w w5 := (hI4.below hbW1).trans (hb5.mono (hI4.below hbW1).size)
                      have hF0 := ((OptB.set0 y 0).set1 0).set2 false
                      have hF := hF0.later ((Below.refl _ _).alloc (Nat.le_refl _) (.cells #[.int .i64 0, .int .i64 0, .bool false] 25))
                      obtain ⟨e0, e1, e2⟩ := hF.cells
                      refine bodyPost_ret (v := .tuple #[.agg #[.int .i64 0, .int .i64 0, .bool false], .int .i64 0, .int .i64 2]) (by simp [results, Try.results10, go_sem, e0, e1, e2]) rfl ⟨?_, Below.alloc (((Below.setCell hb6 (Nat.le_refl _) _).setCell (Nat.le_refl _) _).setCell (Nat.le_refl _) _) (by first | exact hb6.size | (have := hb6.size; simp; omega)) _⟩
                      rw [HQ.out, pgo_bad HV2.out (by omega) HC.out]
                  · have hq : (((k : Int) + 1 : Int) == (T.length : Int) - 1) = false := by simp; omega
                    go_wp2_with fail
                    refine (budget_any n _).mono ?_
                    rintro e w2 ⟨rfl, hSet, hb2⟩
                    have hI2 := PInv.later hIj hb2
                    obtain ⟨cs, hrow, hIs⟩ := hI2.hs
                    have hsz2 := hI2.hb.size
                    have hmax : (l).length + 1 ≤ maxLen := by unfold maxLen; omega
                    go_wp2_with (first | (at_builtin; refine wpList_append_own _ rfl _ _ 37 rfl (W1.heap.size + 1) 52 i0 .nilFunc 1 8 Try.underlying37 hi hz0 hz1 hz2 rfl (by decide) _ _ _ rfl (hrow.alloc _) ⟨w2.heap.size, 0, none⟩ 1 1 [.func (.func 32) #[] #[.pointer (some ⟨w7.heap.size, 0, none⟩)]] rfl rfl (cell_one_new _ _ _) (by simp [Value.oneCell']) hmax (by omega) (by have := hI2.hb.size; simp; omega) ?_; intro v' w3 hown hgrow _; obtain ⟨hb3, hm3, hs3⟩ := PInv.mid (x := Sett.budget n) hI2 hrow hIs ⟨_, rfl, hSet⟩ hown hgrow; clear hown hgrow hrow hIs hSet hmax; obtain ⟨D, hDo, hDs⟩ := hm3) | (at_mapUpdate; refine wpList_mapUpdate_own _ rfl _ _ _ 58 rfl 9 4 keyS Try.underlying58 (plainElem Try.prog 4) W1.heap.size (l).length D rfl hDo (by unfold maxLen; omega) (.string t.f1) (.bool true) (.string t.f1.data.toList) rfl rfl (keyOf_string_mk Try.underlying9 (by unfold maxLen; omega)) (.lit (.bool true)) [] (plainElem_bool Try.underlying4 true) ?_; intro w4 hown4 hgrow4; have hI4 := PInv.put (x := Sett.budget n) (sr' := sr) (sb' := true) hb3 hDo hDs hs3 t.f1 (by omega) true hown4 hgrow4 hcs; clear hown4 hgrow4 hDo hDs hs3 hb3))
                    go_roundw
                    case rel => exact ⟨(k + 1) + 1, l ++ [Sett.budget n], sr, true, _, by go_num, rfl, hI4, by simp only [List.length_append, List.length_cons, List.length_nil]; omega, by omega, .inr ⟨by omega, by omega, by simp only [List.length_append, List.length_cons, List.length_nil]; omega, Aside0.mk HV.out⟩⟩
                    case measure => simp only [intOf]; omega
              · have hf1 : (f == 0) = false := by simpa using hf0
                have HV : Hid (parseT xs.length T = ((0, 0, false), u.f0, f)) := Lib.hid (pgo_bud_err hP.out hdd.out hbu (errN_bad hnf hf0) hf0)
                clear hbu hrf hse2 hnf hf0
                go_wp2_with fail
                refine (number_n HNF _ hgts).mono ?_
                rintro e w7 ⟨rfl, hb7⟩
                have hOj := hOr.later hb7
                have hIj := hI.later hb7
                clear c0 c1 c2 f0 f1 f2 hx hx' hgx hgx'
                obtain ⟨c0, c1, c2⟩ := hOj.cells
                obtain ⟨f0, f1, f2⟩ := hOj.fr
                go_wp2_with fail
                try dsimp only [Exit.noGoto]
                go_wp2
                have hF := ((OptB.set0 hOj 0).set1 0).set2 false
                obtain ⟨e0, e1, e2⟩ := hF.cells
                refine bodyPost_ret (v := .tuple #[.agg #[.int .i64 0, .int .i64 0, .bool false], .int .i64 u.f0, .int .i64 f]) (by simp [results, Try.results10, go_sem, e0, e1, e2]) rfl ⟨?_, ((Below.setCell (hIj.below hbW1) (Nat.le_refl _) _).setCell (Nat.le_refl _) _).setCell (Nat.le_refl _) _⟩
                rw [HQ.out, HV.out]
                rfl
          · have hB1 := toList_ne' bud_list hbu
            have HV : Hid (parseT xs.length T = ((0, 0, false), t.f0, 11)) := Lib.hid (pgo_stop hP.out hdr.out (fun c => hrf c.1) (fun c => hbu c.1))
            clear hbu hrf hse2
            go_wp2_with fail
            try dsimp only [Exit.noGoto]
            go_wp2
            have hF := ((OptB.set0 hOr 0).set1 0).set2 false
            obtain ⟨e0, e1, e2⟩ := hF.cells
            refine bodyPost_ret (v := .tuple #[.agg #[.int .i64 0, .int .i64 0, .bool false], .int .i64 t.f0, .int .i64 11]) (by simp [results, Try.results10, go_sem, e0, e1, e2]) rfl ⟨?_, ((Below.setCell (hI.below hbW1) (Nat.le_refl _) _).setCell (Nat.le_refl _) _).setCell (Nat.le_refl _) _⟩
            rw [HQ.out, HV.out]
            rfl
end Go.Proofs.Ytbiafpklgkkoaaa

/- The walk of the law TokenComments: it is true at every input. -/
import Derived.Test.YtajfaieiabnknaaTokKnown
import Derived.Test.YtajfaieiabnknaaTokSplit
import Derived.IntWalk
set_option linter.unusedVariables false
set_option linter.unusedSimpArgs false
namespace Go.Proofs.Ytajfaieiabnknaa
open Go Go.Proofs Go.RowKit Go.Shelf Go.Proofs.YtajfaieiabnknaaW.PrintWords Go.Proofs.YtajfaieiabnknaaW.PrintLast Go.Proofs.YtajfaieiabnknaaW.PrintMore

/-- What a row of one's own holds, read; there is room for it. -/
theorem own_reads2 {w : World} {base n : Nat} {e : TypeId} {k : IntKind} {v : Value} {xs : List Int} (h : w.ownsRow base e 1 v n (nums k xs)) : ∃ A c, v = .slice A n c ∧ n ≤ c ∧ ReadsInt w k A n xs := by
  have h2 := h.2
  obtain ⟨A, c, rfl, hr⟩ := own_reads h
  refine ⟨A, c, rfl, ?_, hr⟩
  rcases h2 with ⟨he, hn⟩ | ⟨g, cap, cur, he, _, _, hnc, _⟩
  · cases he; omega
  · cases he; exact hnc
namespace Cm
theorem tks_length (xs : List Int) : (tks xs).length = (toks xs).length := by simp [tks]
theorem rd_tks {xs : List Int} {k : Nat} (hk : k < (toks xs).length) : rd_T37 (tks xs) (k : Int) = tk ((toks xs)[k]) := by
  simp [rd_T37, tks, List.getD_eq_getElem?_getD, hk]
end Cm
open Cm

set_option maxHeartbeats 4000000 in
set_option maxRecDepth 100000 in
theorem comments_walk (A : Option Addr) (cap : Nat) (xs : List Int) (at_ : Int) (A2 : Option Addr) (cap2 : Nat) (com : List Int) (w : World) (hcap : xs.length ≤ cap) (hR : ReadsInt w .u8 A xs.length xs)
    (hcap2 : com.length ≤ cap2) (hR2 : ReadsInt w .u8 A2 com.length com) (hat : -9223372036854775808 ≤ at_ ∧ at_ ≤ 9223372036854775807) :
    Calls Try.prog 7 #[.slice A xs.length cap, .int .i64 at_, .slice A2 com.length cap2] w fun e w' => e = .returned (.bool true) ∧ Below w.heap.size w w' := by
  have hm := hR.2.1
  by_cases h1 : xs.length ≤ 5000
  · by_cases h2 : com.length ≤ 5000
    · go_enter Try.func7, Try.ntmps7
      go_wp2_with fail
      refine (all_ok A cap xs w (by omega) hcap hR).mono ?_
      rintro e w1 ⟨v1, rfl, hv1, hb1⟩
      obtain ⟨A1, c1, rfl, hc1, hr1⟩ := Kd.R_reads hv1
      obtain ⟨ts, hts⟩ : ∃ ts, ts = tks xs := ⟨_, rfl⟩
      rw [← hts] at hr1 hc1 ⊢
      have htl : ts.length ≤ 5000 := by rw [hts]; simp [tks]; exact Nat.le_trans (toks_length xs) h1
      have HTS := Lib.hid hts
      clear hts
      have hu : 0 ≤ IntKind.u64.wrap at_ ∧ IntKind.u64.wrap at_ ≤ 18446744073709551615 := by simp [IntKind.wrap, IntKind.bits, IntKind.signed]; omega
      generalize hU : IntKind.u64.wrap at_ = U at hu
      have hk0 : U.tmod ((ts.length : Int) + 1) = ((U.toNat % (ts.length + 1) : Nat) : Int) := by
        obtain ⟨n, rfl⟩ := Int.eq_ofNat_of_zero_le hu.1
        rw [Int.tmod_eq_emod_of_nonneg (by omega)]
        simp
      have hkl : U.toNat % (ts.length + 1) ≤ ts.length := by have := Nat.mod_lt U.toNat (show 0 < ts.length + 1 by omega); omega
      generalize U.toNat % (ts.length + 1) = k at hk0 hkl
      have hpl : placeOf xs k ≤ xs.length := by
        unfold placeOf
        split
        · rename_i hk
          have := (good_at hk).fits
          omega
        · exact Nat.le_refl _
      have hx : k < ts.length → ∃ ad, A1 = some ad ∧ w1.cell? (ad.add (k * 2)) = some (.int .i64 (placeOf xs k : Nat)) := fun hk => by
        obtain ⟨ad, e1, hx0, _⟩ := at_T37 hr1 (k : Int) (by omega) (by omega)
        have hk' : k < (toks xs).length := by rw [← tks_length, ← HTS.out]; exact hk
        rw [HTS.out, rd_tks hk', Int.toNat_natCast] at hx0
        refine ⟨ad, e1, ?_⟩
        rw [hx0]
        simp [tk, placeOf, hk']
      have hx' : ¬ k < ts.length → placeOf xs k = xs.length := fun hk => by
        have hk' : ¬ k < (toks xs).length := by rw [← tks_length, ← HTS.out]; exact hk
        simp [placeOf, hk']
      go_upto_if 46 with fail
      go_cut [10] from 47 to 51 (fun v wx => v = .int .i64 (placeOf xs k : Nat) ∧ w1 = wx)
      case first =>
        by_cases hk : k < ts.length
        · obtain ⟨ad, rfl, hc⟩ := hx hk
          go_wp2
          go_meet
          exact ⟨rfl, rfl⟩
        · have hp := hx' hk
          have HP := Lib.hid hp
          clear hp hx hx'
          go_wp2
          go_meet
          exact ⟨by rw [HP.out], rfl⟩
      case rest =>
        obtain ⟨rfl, rfl⟩ := hcut
        generalize hp : placeOf xs k = p at hpl
        have HP := Lib.hid hp
        clear hp hx hx'
        obtain ⟨i0, hi0, hsz0⟩ := info5_
        obtain ⟨hsl1, hrp, _⟩ := print_take_int (k := .u8) 22 5 Try.underlying22 hi0 hsz0 A cap xs (p : Int) (by omega) (by omega) hcap
        rw [Int.toNat_natCast] at hsl1 hrp
        obtain ⟨A3, hsl2, hrd⟩ := print_cut (P := Try.prog) 22 5 .i64 Try.underlying22 hi0 hsz0 A xs.length cap p hpl
        obtain ⟨bp, hbp⟩ : ∃ bp, bp = xs.take p := ⟨_, rfl⟩
        obtain ⟨bd, hbd⟩ : ∃ bd, bd = xs.drop p := ⟨_, rfl⟩
        have hbpl : bp.length ≤ 5000 := by rw [hbp, List.length_take]; omega
        have hbdl : bd.length = xs.length - p := by rw [hbd, List.length_drop]
        rw [← hbp] at hsl1 hrp
        rw [← hbdl] at hsl2
        have hRp := hrp _ (hR.below hb1)
        have hRd : ∀ W, Below w1.heap.size w1 W → ReadsInt W .u8 A3 bd.length bd := fun W hB => by rw [hbdl, hbd]; exact hrd W .u8 xs hcap ((hR.below hb1).below hB)
        have hbd5 : bd.length ≤ 5000 := by omega
        have HBP := Lib.hid hbp
        have HBD := Lib.hid hbd
        clear hrp hrd hbp hbd hbdl
        go_wp2_with (first
          | ((with_reducible refine gate_builtin (b := .append) (xs := #[.tmp 60, .tmp 63]) rfl ?_); at_builtin; refine print_append_row (w0 := w1) w1.heap.size rfl (.tmp 60) (.tmp 63) 22 5 .u8 1 rfl Try.underlying22 info5' (by decide) (.slice none 0 0) [] bp A bp.length cap rfl rfl (own_nil _ _ _ _) hRp (Below.refl _ _) (Nat.le_refl _) ?aL ?_; (case aL => simp; omega); intro v2 w2 ho2 hB2 hg2 hat2)
          | ((with_reducible refine gate_builtin (b := .append) (xs := #[.tmp 65, .tmp 66]) rfl ?_); at_builtin; refine print_append_row (w0 := w1) w1.heap.size rfl (.tmp 65) (.tmp 66) 22 5 .u8 1 rfl Try.underlying22 info5' (by decide) v2 ([] ++ bp) [10, 35] (some ⟨w2.heap.size, 0, none⟩) 2 2 rfl rfl (own_alloc ho2 _) (reads_new w2 .u8 [10, 35] 5 (0, 0) (by decide)) (below_alloc hB2 _) (below_alloc hB2 (.cells #[.int .u8 10, .int .u8 35] 5)).size ?aL ?_; (case aL => simp; omega); intro v3 w3 ho3 hB3 hg3 hat3))
        have hBl := hB3
        have hOl : w3.ownsRow w1.heap.size 5 1 v3 (bp ++ [10, 35]).length (nums .u8 (bp ++ [10, 35])) := by simpa using ho3
        clear ho2 ho3 hB2 hB3 hg2 hg3 hat2 hat3 hRp
        go_loopw [11, 12] (fun v11 v12 W => ∃ (j : Nat) (acc : List Int), j ≤ com.length ∧ v12 = .int .i64 j ∧ Aside0 (acc = bp ++ [10, 35] ++ (com.take j).filter (fun c => decide (c ≠ 10))) ∧ W.ownsRow w1.heap.size 5 1 v11 acc.length (nums .u8 acc) ∧ Below w1.heap.size w1 W)
          (fun _ v12 _ => com.length - (intOf v12).toNat)
        case atStart => exact ⟨0, _, Nat.zero_le _, rfl, ⟨by simp⟩, hOl, hBl⟩
        case round =>
          obtain ⟨j, acc, hj, rfl, HA, hO, hB⟩ := hrel
          have hal : acc.length ≤ 10002 := by
            rw [HA.out]
            have := List.length_filter_le (fun c : Int => decide (c ≠ 10)) (com.take j)
            simp only [List.length_append, List.length_take] at this ⊢
            simp at *
            omega
          by_cases hjl : j < com.length
          · obtain ⟨ad, ead, hc⟩ := ((hR2.below hb1).below hB).at_ (j : Int) (by omega) (by omega)
            cases ead
            rw [Int.toNat_natCast] at hc
            obtain ⟨c, hcd⟩ : ∃ c, c = com.getD j 0 := ⟨_, rfl⟩
            rw [show rd com (j : Int) = c from by rw [hcd]; simp [rd]] at hc
            have hft : Hid ((com.take (j + 1)).filter (fun c => decide (c ≠ 10)) = (com.take j).filter (fun c => decide (c ≠ 10)) ++ if c = 10 then [] else [c]) := Lib.hid (by
              rw [List.take_succ_eq_append_getElem hjl, List.filter_append, hcd]
              congr 1
              by_cases h : com[j] = 10 <;> simp [List.getD_eq_getElem?_getD, List.getElem?_eq_getElem hjl, h])
            clear hcd
            by_cases h10 : c = 10
            · subst h10
              go_wp2
              go_roundw
              case rel => exact ⟨j + 1, acc, by omega, by go_num, ⟨by rw [hft.out, HA.out]; simp⟩, hO, hB⟩
              case measure => simp [intOf]; omega
            · have h10b : (c != 10) = true := by simpa using h10
              go_wp2_with ((with_reducible refine gate_builtin (b := .append) (xs := #[.tmp 79, .tmp 84]) rfl ?_); at_builtin; refine print_append_row (w0 := w1) w1.heap.size rfl (.tmp 79) (.tmp 84) 22 5 .u8 1 rfl Try.underlying22 info5' (by decide) u11 acc [c] (some ⟨wr.heap.size, 0, none⟩) 1 1 rfl rfl (own_alloc hO _) (reads_new wr .u8 [c] 5 (0, 0) (by simp)) (below_alloc hB _) (below_alloc hB (.cells #[.int .u8 c] 5)).size ?aL ?_; (case aL => simp; omega); intro v4 w4 ho4 hB4 hg4 hat4)
              go_roundw
              case rel => exact ⟨j + 1, acc ++ [c], by omega, by go_num, ⟨by rw [hft.out, HA.out]; simp [h10]⟩, ho4, hB4⟩
              case measure => simp [intOf]; omega
          · obtain rfl : j = com.length := by omega
            have hacc : Hid (acc = bp ++ [10, 35] ++ com.filter (fun c => decide (c ≠ 10))) := Lib.hid (by rw [HA.out, List.take_length])
            clear HA
            go_wp2_with (first
              | ((with_reducible refine gate_builtin (b := .append) (xs := #[.tmp 86, .tmp 87]) rfl ?_); at_builtin; refine print_append_row (w0 := w1) w1.heap.size rfl (.tmp 86) (.tmp 87) 22 5 .u8 1 rfl Try.underlying22 info5' (by decide) u11 acc [10, 32, 9, 13] (some ⟨wr.heap.size, 0, none⟩) 4 4 rfl rfl (own_alloc hO _) (reads_new wr .u8 [10, 32, 9, 13] 5 (0, 0) (by decide)) (below_alloc hB _) (below_alloc hB (.cells #[.int .u8 10, .int .u8 32, .int .u8 9, .int .u8 13] 5)).size ?aL ?_; (case aL => simp; omega); intro v5 w5 ho5 hB5 hg5 hat5)
              | ((with_reducible refine gate_builtin (b := .append) (xs := #[.tmp 89, .tmp 92]) rfl ?_); at_builtin; refine print_append_row (w0 := w1) w1.heap.size rfl (.tmp 89) (.tmp 92) 22 5 .u8 1 rfl Try.underlying22 info5' (by decide) v5 (acc ++ [10, 32, 9, 13]) bd A3 bd.length (cap - p) rfl rfl ho5 (hRd _ hB5) hB5 hB5.size ?aL ?_; (case aL => simp; omega); intro v6 w6 ho6 hB6 hg6 hat6; obtain ⟨x, hx⟩ : ∃ x, x = acc ++ [10, 32, 9, 13] ++ bd := ⟨_, rfl⟩; rw [← hx] at ho6; have HX := Lib.hid hx; clear hx; obtain ⟨A6, c6, rfl, hle6, hr6⟩ := own_reads2 ho6))
            have hx6 : Hid (x = xs.take p ++ laidIn com ++ xs.drop p) := Lib.hid (by rw [HX.out, hacc.out, HBP.out, HBD.out]; simp [laidIn])
            have hxl : Hid (x.length = xs.length + (laidIn com).length) := Lib.hid (by rw [hx6.out]; simp; omega)
            have hd6 : (laidIn com).length ≤ 5006 := by
              have := List.length_filter_le (fun c : Int => decide (c ≠ 10)) com
              simp only [laidIn, List.length_append]
              simp at *
              omega
            refine (all_ok A6 c6 x w6 (by have := hxl.out; omega) hle6 hr6).mono ?_
            rintro e w7 ⟨v7, rfl, hv7, hb7⟩
            obtain ⟨A7, c7, rfl, hc7, hr7⟩ := Kd.R_reads hv7
            have htk : Hid (toks x = (toks xs).take k ++ ((toks xs).drop k).map fun x => (x.1 + (laidIn com).length, x.2)) := Lib.hid (by
              have h := toks_laid xs com k (by rw [← tks_length, ← HTS.out]; exact hkl)
              rw [HP.out, ← hx6.out] at h
              exact h)
            obtain ⟨ms, hms⟩ : ∃ ms, ms = tks x := ⟨_, rfl⟩
            rw [← hms] at hr7 hc7 ⊢
            have HMS := Lib.hid hms
            have hml : ms.length = ts.length := by
              rw [hms, HTS.out, tks_length, tks_length, htk.out]
              simp
              have : k ≤ (toks xs).length := by rw [← tks_length, ← HTS.out]; exact hkl
              omega
            clear hms hv7
            have hml1 : ((ms.length : Int) != (ts.length : Int)) = false := by simp [hml]
            have hml2 : (ms.length != ts.length) = false := by simp [hml]
            have HML := Lib.hid hml
            clear hml
            go_wp2_with fail
            clear hml1 hml2 ho5 ho6 hB5 hg5 hg6 hat5 hat6 hsl1 hsl2 hRd hO hk0
            have hbb : Below w.heap.size w w7 := below_step (below_step hb1 hB6) hb7
            have hC1 : Kd.C k37 w7 A1 ts.length ts := Kd.C_below (Kd.C_below hr1 hB6) hb7
            go_loopw [15] (fun v15 W => ∃ i : Nat, i ≤ ts.length ∧ v15 = .int .i64 i ∧ Kd.C k37 W A1 ts.length ts ∧ Kd.C k37 W A7 ms.length ms ∧ Below w.heap.size w W) (fun v15 _ => ts.length - (intOf v15).toNat)
            case atStart => exact ⟨0, Nat.zero_le _, rfl, hC1, hr7, hbb⟩
            case round =>
              obtain ⟨i, hi, rfl, hCt, hCm, hB⟩ := hrel
              by_cases hil : i < ts.length
              · obtain ⟨ad1, e1, hx0, hx1⟩ := at_T37 hCt (i : Int) (by omega) (by omega)
                obtain ⟨ad2, e2, hy0, hy1⟩ := at_T37 hCm (i : Int) (by omega) (by have := HML.out; omega)
                cases e1
                cases e2
                have hit : i < (toks xs).length := by rw [← tks_length, ← HTS.out]; exact hil
                have him : i < (toks x).length := by rw [← tks_length, ← HMS.out, HML.out]; exact hil
                rw [HTS.out, rd_tks hit, Int.toNat_natCast] at hx0 hx1
                rw [HMS.out, rd_tks him, Int.toNat_natCast] at hy0 hy1
                have him' : (i : Int) < (ms.length : Int) := by have := HML.out; omega
                obtain ⟨⟨q, a⟩, hqa⟩ : ∃ y, y = (toks xs)[i] := ⟨_, rfl⟩
                rw [← hqa] at hx0 hx1
                have hq : q + a.length ≤ xs.length := by have := (good_at hit).fits; rw [← hqa] at this; exact this
                have hme : Hid ((toks x)[i] = (if i < k then q else q + (laidIn com).length, a)) := Lib.hid (by
                  have h : (toks x)[i]? = some (if i < k then q else q + (laidIn com).length, a) := by
                    rw [htk.out]
                    by_cases hik : i < k
                    · rw [List.getElem?_append_left (by rw [List.length_take]; omega), List.getElem?_take, if_pos hik, List.getElem?_eq_getElem hit, ← hqa, if_pos hik]
                    · rw [List.getElem?_append_right (by rw [List.length_take]; omega), List.length_take, List.getElem?_map, List.getElem?_drop]
                      rw [show k + (i - min k (toks xs).length) = i from by omega, List.getElem?_eq_getElem hit, ← hqa, if_neg hik]
                      rfl
                  rw [List.getElem?_eq_getElem him] at h
                  exact Option.some.inj h)
                rw [hme.out] at hy0 hy1
                simp only [tk] at hx0 hx1 hy0 hy1
                clear hqa
                generalize strOfNums a = s at hx1 hy1
                have HXL := hxl
                by_cases hik : i < k
                · rw [if_pos hik] at hy0
                  have hw1 : IntKind.i64.wrap ((q : Int) + 0) = (q : Int) := IntWalk.i64_in _ (by omega)
                  go_wp2
                  go_quiet (fail)
                  clear hw1
                  go_wp2
                  go_roundw
                  case rel => exact ⟨i + 1, by omega, by go_num, Kd.C_below hCt (Drawn0.below (Drawn0.step (Drawn0.refl wr) nq)), Kd.C_below hCm (Drawn0.below (Drawn0.step (Drawn0.refl wr) nq)), below_step hB (Drawn0.below (Drawn0.step (Drawn0.refl wr) nq))⟩
                  case measure => simp [intOf]; omega
                · rw [if_neg hik] at hy0
                  have hlo : xs.length ≤ x.length := by have := hxl.out; omega
                  have hhi : x.length ≤ 11000 := by have := hxl.out; omega
                  have hw1 : IntKind.i64.wrap ((q : Int) + ((x.length : Int) - (xs.length : Int))) = ((q + (laidIn com).length : Nat) : Int) := by
                    rw [IntWalk.i64_in _ (by omega)]
                    have := hxl.out
                    omega
                  go_wp2
                  go_quiet (fail)
                  clear hw1
                  go_wp2
                  go_roundw
                  case rel => exact ⟨i + 1, by omega, by go_num, Kd.C_below hCt (Drawn0.below (Drawn0.step (Drawn0.refl wr) nq)), Kd.C_below hCm (Drawn0.below (Drawn0.step (Drawn0.refl wr) nq)), below_step hB (Drawn0.below (Drawn0.step (Drawn0.refl wr) nq))⟩
                  case measure => simp [intOf]; omega
              · obtain rfl : i = ts.length := by omega
                go_wp2_with fail
                refine (known_ok _).mono ?_
                rintro e w4 ⟨rfl, hb4⟩
                go_wp2
                go_ret
                exact ⟨rfl, below_step hB hb4⟩
    · go_enter Try.func7, Try.ntmps7
      go_wp2_with fail
      refine (known_ok w).mono ?_
      rintro e w4 ⟨rfl, hb4⟩
      go_wp2
      go_ret
      exact ⟨rfl, hb4⟩
  · go_enter Try.func7, Try.ntmps7
    go_wp2_with fail
    refine (known_ok w).mono ?_
    rintro e w4 ⟨rfl, hb4⟩
    go_wp2
    go_ret
    exact ⟨rfl, hb4⟩
end Go.Proofs.Ytajfaieiabnknaa

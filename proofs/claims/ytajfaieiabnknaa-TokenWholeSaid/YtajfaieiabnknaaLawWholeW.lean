/- The walk of the law TokenWhole: it is true at every input. -/
import Derived.Test.YtajfaieiabnknaaTokKnown
import Derived.Test.YtajfaieiabnknaaTokGood
import Derived.IntWalk
set_option linter.unusedVariables false
set_option linter.unusedSimpArgs false
namespace Go.Proofs.Ytajfaieiabnknaa
open Go Go.Proofs Go.RowKit Go.Shelf Go.Proofs.YtajfaieiabnknaaW.PrintWords Go.Proofs.YtajfaieiabnknaaW.PrintLast Go.Proofs.YtajfaieiabnknaaW.PrintMore

theorem lblank_any (c : Int) (w : World) : Calls Try.prog 25 #[.int .u8 c] w fun e w' => e = .returned (.bool (blk c)) ∧ w = w' := by
  by_cases h1 : c = 32
  · subst h1; go_enter Try.func25, Try.ntmps25; go_wp2; go_ret; exact ⟨rfl, rfl⟩
  have b1 : (c == 32) = false := by simpa using h1
  by_cases h2 : c = 9
  · subst h2; go_enter Try.func25, Try.ntmps25; go_wp2; go_ret; exact ⟨rfl, rfl⟩
  have b2 : (c == 9) = false := by simpa using h2
  by_cases h3 : c = 13
  · subst h3; go_enter Try.func25, Try.ntmps25; go_wp2; go_ret; exact ⟨rfl, rfl⟩
  have b3 : (c == 13) = false := by simpa using h3
  have hb : blk c = (c == 10) := by simp [blk, b1, b2, b3]
  go_enter Try.func25, Try.ntmps25
  go_wp2
  go_ret
  exact ⟨by rw [hb]; rfl, rfl⟩

theorem tks_length (xs : List Int) : (tks xs).length = (toks xs).length := by simp [tks]
theorem rd_tks {xs : List Int} {k : Nat} (hk : k < (toks xs).length) : rd_T37 (tks xs) (k : Int) = tk ((toks xs)[k]) := by
  simp [rd_T37, tks, List.getD_eq_getElem?_getD, hk]
theorem strOfNums_at (l : List Int) (j : Nat) (h : j < (strOfNums l).size) (hb : ∀ c ∈ l, 0 ≤ c ∧ c ≤ 255) : (((strOfNums l)[j]'h).toNat : Int) = l.getD j 0 := by
  have hj : j < l.length := by rw [strOfNums_size] at h; exact h
  have h1 : (strOfNums l)[j]'h = UInt8.ofNat (l[j]).toNat := by
    show (strOfNums l).data[j] = _
    simp [strOfNums]
  rw [h1]
  have h2 := hb l[j] (List.getElem_mem hj)
  simp [List.getD_eq_getElem?_getD, List.getElem?_eq_getElem hj]
  omega

def WholeInv (w : World) (xs : List Int) (ts : List S37) (A1 : Option Addr) (v5 v6 : Value) (W : World) : Prop :=
  ∃ (k last : Nat), k ≤ (toks xs).length ∧ v6 = .int .i64 k ∧ v5 = .int .i64 last ∧ Good xs last ((toks xs).drop k) ∧ last ≤ xs.length ∧ Kd.C k37 W A1 ts.length ts ∧ Below w.heap.size w W

set_option maxHeartbeats 4000000 in
set_option maxRecDepth 100000 in
theorem whole_walk (A : Option Addr) (cap : Nat) (xs : List Int) (w : World) (hcap : xs.length ≤ cap) (hR : ReadsInt w .u8 A xs.length xs) (hby : ∀ c ∈ xs, 0 ≤ c ∧ c ≤ 255) :
    Calls Try.prog 8 #[.slice A xs.length cap] w fun e w' => e = .returned (.bool true) ∧ Below w.heap.size w w' := by
  have hm := hR.2.1
  by_cases h1 : xs.length ≤ 5000
  · go_enter Try.func8, Try.ntmps8
    go_wp2_with fail
    refine (all_ok A cap xs w (by omega) hcap hR).mono ?_
    rintro e w1 ⟨v1, rfl, hv1, hb1⟩
    obtain ⟨A1, c1, rfl, hc1, hr1⟩ := Kd.R_reads hv1
    obtain ⟨ts, hts⟩ : ∃ ts, ts = tks xs := ⟨_, rfl⟩
    rw [← hts] at hr1 hc1 ⊢
    have htl : Hid (ts.length = (toks xs).length) := Lib.hid (by rw [hts, tks_length])
    have HTS := Lib.hid hts
    clear hts hv1
    go_wp2_with fail
    go_loopw [5, 6] (fun v5 v6 W => WholeInv w xs ts A1 v5 v6 W) (fun _ v6 _ => ts.length - (intOf v6).toNat)
    case atStart => exact ⟨0, 0, Nat.zero_le _, rfl, rfl, toks_good xs, Nat.zero_le _, hr1, hb1⟩
    case round =>
      obtain ⟨k, last, hk, rfl, rfl, hG, hla, hC, hB⟩ := hrel
      by_cases hlt : k < (toks xs).length
      · have hlt' : k < ts.length := by have := htl.out; omega
        have hkt : (toks xs).length ≤ 5000 := Nat.le_trans (toks_length xs) h1
        rw [List.drop_eq_getElem_cons hlt] at hG
        obtain ⟨hlq, hW, hG'⟩ := hG
        obtain ⟨ad, e1, hx0, hx1⟩ := at_T37 hC (k : Int) (by omega) (by omega)
        cases e1
        rw [HTS.out, rd_tks hlt] at hx0 hx1
        rw [Int.toNat_natCast] at hx0 hx1
        obtain ⟨⟨q, acc⟩, hqa⟩ : ∃ x, x = (toks xs)[k] := ⟨_, rfl⟩
        simp only [List.get_eq_getElem] at hlq hW hG'
        rw [← hqa] at hx0 hx1 hlq hW hG'
        simp only [tk] at hx0 hx1 hlq hW hG'
        have HG := Lib.hid hG'
        clear hG' hqa
        have hacc : ∀ c ∈ acc, 0 ≤ c ∧ c ≤ 255 := fun c hc => hby c (by rw [← hW.mid] at hc; exact List.mem_of_mem_take (List.mem_of_mem_drop hc))
        obtain ⟨s, hs⟩ : ∃ s, s = strOfNums acc := ⟨_, rfl⟩
        rw [← hs] at hx1
        have hsz : s.size = acc.length := by rw [hs, strOfNums_size]
        have hs0 : 0 < s.size := by rw [hsz]; exact hW.pos
        have hsat : ∀ (j : Nat) (h : j < s.size), ((s[j]'h).toNat : Int) = acc.getD j 0 := by subst hs; exact fun j h => strOfNums_at acc j h hacc
        have hfit : q + s.size ≤ xs.length := by rw [hsz]; exact hW.fits
        have h35 : (((s[0]'hs0).toNat : Int) == 35) = false := by rw [hsat 0 hs0]; simpa using hW.head
        have g1 : ((s.size : Int) == 0) = false := beq_eq_false_iff_ne.2 (by omega)
        have g2 : decide ((q : Int) < (last : Int)) = false := by simp; omega
        have g2n : decide (q < last) = false := by simp; omega
        have g3n : decide (xs.length < q + s.size) = false := by simp; omega
        have g3i : decide ((xs.length : Int) < (q : Int) + (s.size : Int)) = false := by simp; omega
        have g3 : decide ((q : Int) + (s.size : Int) > (xs.length : Int)) = false := by simp; omega
        obtain ⟨i0, hi0, hsz0⟩ := info5_
        obtain ⟨A', hsl, hrm, _⟩ := print_mid_int (k := .u8) 22 5 Try.underlying22 hi0 hsz0 A cap xs (q : Int) ((q : Int) + (s.size : Int)) (by omega) (by omega) (by omega) hcap
        have hmidq : (xs.take ((q : Int) + (s.size : Int)).toNat).drop (q : Int).toNat = acc := by
          rw [show ((q : Int) + (s.size : Int)).toNat = q + acc.length from by omega, Int.toNat_natCast]; exact hW.mid
        rw [hmidq] at hsl hrm
        have hst : ∀ nq, (convert 22 9 (.slice A' acc.length (cap - (q : Int).toNat))).run Try.prog (wr.drewN nq) = .ok (.string s) (wr.drewN nq) := fun nq => by
          rw [hs]
          exact string_of_reads (P := Try.prog) Try.underlying22 Try.underlying5 Try.underlying9 (hrm _ ((hR.below hB).below (Drawn0.below (Drawn0.step (Drawn0.refl wr) nq))))
        have hplain := Lib.hid hW.plain
        have hbehind := Lib.hid hW.behind
        have hahead := Lib.hid hW.ahead
        have HSZ := Lib.hid hsz
        have HSAT := Lib.hid hsat
        have HM := Lib.hid hmidq
        clear hrm hs hacc hW hsz hsat hmidq
        rw [Int.toNat_natCast] at hsl hst
        have hwq : IntKind.i64.wrap ((q : Int) + (s.size : Int)) = (q : Int) + (s.size : Int) := IntWalk.i64_in _ (by omega)
        go_wp2
        go_quiet (fail)
        clear hwq hsl hst
        go_wp2
        go_loop [8] (fun v8 => ∃ j : Nat, j ≤ s.size ∧ v8 = .int .i64 j) (fun v8 => s.size - (intOf v8).toNat)
        case atStart => exact ⟨0, Nat.zero_le _, rfl⟩
        case round =>
          obtain ⟨j, hj, rfl⟩ := hrel
          by_cases hjl : j < s.size
          · obtain ⟨d, hd⟩ : ∃ d : Int, ((s[j]'hjl).toNat : Int) = d := ⟨_, rfl⟩
            have hbd : blk d = false := by
              rw [← hd, HSAT.out j hjl]
              refine hplain.out _ ?_
              rw [List.getD_eq_getElem?_getD, List.getElem?_eq_getElem (by have := HSZ.out; omega)]
              exact List.getElem_mem _
            go_wp2_with (go_at_call 25; refine (lblank_any d _).mono ?_; rintro e w' ⟨rfl, rfl⟩)
            go_round
            case rel => exact ⟨j + 1, by omega, by go_num⟩
            case measure => simp [intOf]; omega
          · obtain rfl : j = s.size := by omega
            have hfin : WholeInv w xs ts (some ad) (.int .i64 ((q + s.size : Nat) : Int)) (.int .i64 ((k + 1 : Nat) : Int)) (wr.drewN nq) :=
              ⟨k + 1, q + s.size, by omega, rfl, rfl, by rw [HSZ.out]; exact HG.out, by omega, Kd.C_below hC (Drawn0.below (Drawn0.step (Drawn0.refl wr) nq)), below_step hB (Drawn0.below (Drawn0.step (Drawn0.refl wr) nq))⟩
            have HF := Lib.hid hfin
            clear hfin
            have fe : q + s.size < xs.length → ∃ ab de, A = some ab ∧ (wr.drewN nq).cell? (ab.add (q + s.size)) = some (.int .u8 de) ∧ blk de = true := fun h => by
              obtain ⟨ab, eab, hx⟩ := (hR.below hB).at_ ((q + s.size : Nat) : Int) (by omega) (by omega)
              refine ⟨ab, _, eab, hx, ?_⟩
              have h1 := hbehind.out (by have := HSZ.out; omega)
              rw [← HSZ.out] at h1
              rw [rd, Int.toNat_natCast]
              exact h1
            have fa : 0 < q → ∃ ab de, A = some ab ∧ (wr.drewN nq).cell? (ab.add (q - 1)) = some (.int .u8 de) ∧ blk de = true := fun h => by
              obtain ⟨ab, eab, hx⟩ := (hR.below hB).at_ ((q - 1 : Nat) : Int) (by omega) (by omega)
              refine ⟨ab, _, eab, hx, ?_⟩
              have h1 := hahead.out h
              rw [rd, Int.toNat_natCast]
              exact h1
            have hS : Hid True := Lib.hid trivial
            by_cases hend : q + s.size < xs.length
            · obtain ⟨ab, de, rfl, hxe, hbe⟩ := fe hend
              by_cases hq : 0 < q
              · obtain ⟨ab', da, eab, hxa, hba⟩ := fa hq
                cases eab
                clear fe fa
                try simp only [Nat.zero_add] at hxe
                go_wp2_with (go_at_call 25; refine (lblank_any _ _).mono ?_; rintro e w' ⟨rfl, rfl⟩)
                go_roundw
                case rel => have h5 := HF.out; simpa using h5
                case measure => simp [intOf]; omega
              · obtain rfl : q = 0 := by omega
                clear fe fa
                try simp only [Nat.zero_add] at hxe
                go_wp2_with (go_at_call 25; refine (lblank_any _ _).mono ?_; rintro e w' ⟨rfl, rfl⟩)
                go_roundw
                case rel => have h5 := HF.out; simpa using h5
                case measure => simp [intOf]; omega
            · by_cases hq : 0 < q
              · obtain ⟨ab, da, rfl, hxa, hba⟩ := fa hq
                clear fe fa
                try simp only [Nat.zero_add] at hxe
                go_wp2_with (go_at_call 25; refine (lblank_any _ _).mono ?_; rintro e w' ⟨rfl, rfl⟩)
                go_roundw
                case rel => have h5 := HF.out; simpa using h5
                case measure => simp [intOf]; omega
              · obtain rfl : q = 0 := by omega
                clear fe fa
                try simp only [Nat.zero_add] at hxe
                go_wp2_with (go_at_call 25; refine (lblank_any _ _).mono ?_; rintro e w' ⟨rfl, rfl⟩)
                go_roundw
                case rel => have h5 := HF.out; simpa using h5
                case measure => simp [intOf]; omega
      · have hke : k = ts.length := by have := htl.out; omega
        subst hke
        go_wp2_with fail
        refine (known_ok _).mono ?_
        rintro e w4 ⟨rfl, hb4⟩
        go_wp2
        go_ret
        exact ⟨rfl, below_step hB hb4⟩
  · go_enter Try.func8, Try.ntmps8
    go_wp2_with fail
    refine (known_ok w).mono ?_
    rintro e w4 ⟨rfl, hb4⟩
    go_wp2
    go_ret
    exact ⟨rfl, hb4⟩
end Go.Proofs.Ytajfaieiabnknaa

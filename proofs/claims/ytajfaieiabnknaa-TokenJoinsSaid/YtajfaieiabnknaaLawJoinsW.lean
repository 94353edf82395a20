/- The walk of the law TokenJoins: it is true at every input. -/
import Derived.Test.YtajfaieiabnknaaJoinWalk
import Derived.IntWalk
set_option linter.unusedVariables false
set_option linter.unusedSimpArgs false
namespace Go.Proofs.Ytajfaieiabnknaa
open Go Go.Proofs Go.RowKit Go.Shelf Go.Proofs.YtajfaieiabnknaaW.PrintWords Go.Proofs.YtajfaieiabnknaaW.PrintLast Go.Proofs.YtajfaieiabnknaaW.PrintMore

theorem info9 : (Try.prog.info? 9).map (fun i => (i.zero, i.size, i.bytes)) = some (some (.string ⟨#[]⟩), 1, 16) := by kernel_rfl
theorem strsC {W : World} {n₀ : Nat} {v : Value} {ws : List ByteArray} (h : W.ownsRow n₀ 9 1 v ws.length (ws.map Value.string)) : ∃ A c, v = .slice A ws.length c ∧ ws.length ≤ c ∧ Kd.C Kd.string W A ws.length ws := by
  have hr : Kd.R Kd.string 9 W n₀ (fun _ => True) v ws := by
    refine ⟨fun _ _ => trivial, ws.map Value.string, h, ?_⟩
    generalize hR : Kd.string.M W n₀ _ = R
    have h1 : ∀ x : ByteArray, R x [.string x] := fun x => by rw [← hR]; rfl
    clear hR h
    induction ws with
    | nil => exact Reps.none _ _
    | cons x t ih => exact Reps.one (h1 x) ih
  obtain ⟨A, c, e, hl, hc⟩ := Kd.R_reads hr
  exact ⟨A, c, e, hl, hc⟩
theorem bytesOf_strOfNums (l : List Int) (h : ∀ c ∈ l, 0 ≤ c ∧ c ≤ 255) : bytesOf (strOfNums l) = l := by
  unfold bytesOf
  rw [strOfNums_data]
  rw [List.map_map]
  conv => rhs; rw [← List.map_id l]
  apply List.map_congr_left
  intro c hc
  have := h c hc
  simp
  omega
theorem strOfNums_bytesOf (s : ByteArray) : strOfNums (bytesOf s) = s := by
  have h : (strOfNums (bytesOf s)).data = s.data := by
    apply Array.toList_inj.1
    rw [strOfNums_data, bytesOf, List.map_map]
    conv => rhs; rw [← List.map_id s.data.toList]
    apply List.map_congr_left
    intro c _
    simp
  cases s
  exact congrArg ByteArray.mk h
theorem joined_length (l : List (List Int)) : (joined l).length = tot l := by
  induction l with
  | nil => rfl
  | cons a t ih =>
    cases t with
    | nil => simp [joined, tot]
    | cons b t =>
      rw [joined]
      simp [tot] at ih ⊢
      omega
theorem placed_at (l : List (List Int)) : ∀ (p i : Nat) (h : i < l.length), (placed p l)[i]? = some (p + tot (l.take i), l[i]) := by
  induction l with
  | nil => intro p i h; cases h
  | cons a t ih =>
    intro p i h
    cases i with
    | zero => simp [placed, tot]
    | succ i =>
      have h' : i < t.length := by simpa using h
      have h1 := ih (p + a.length + 1) i h'
      simp only [placed, List.getElem?_cons_succ, h1, List.take_succ_cons, List.getElem_cons_succ]
      have : tot (a :: t.take i) = a.length + 1 + tot (t.take i) := by simp [tot]
      rw [this, show p + a.length + 1 + tot (t.take i) = p + (a.length + 1 + tot (t.take i)) from by omega]
theorem placed_length (l : List (List Int)) : ∀ p, (placed p l).length = l.length := by
  induction l with
  | nil => intro p; rfl
  | cons a t ih => intro p; simp [placed, ih]
theorem tot_words_le (xs : List Int) : tot ((toks xs).map (·.2)) ≤ xs.length + 1 := by
  have key : ∀ (l : List (Nat × List Int)) (last : Nat), Good xs last l → last ≤ xs.length → tot (l.map (·.2)) + last ≤ xs.length + 1 := by
    intro l
    induction l with
    | nil => intro last _ h; simp [tot]; omega
    | cons x t ih =>
      intro last h hl
      obtain ⟨h1, h2, h3⟩ := h
      cases t with
      | nil =>
        have := h2.fits
        simp [tot]
        omega
      | cons y t =>
        have hf := h2.fits
        -- the next word begins behind a blank
        have hb : x.1 + x.2.length + 1 ≤ y.1 := by
          have hy := h3.1
          rcases Nat.lt_or_ge (x.1 + x.2.length) y.1 with h | h
          · omega
          · have he : y.1 = x.1 + x.2.length := by omega
            have hlt : x.1 + x.2.length < xs.length := by have := h3.2.1.fits; have := h3.2.1.pos; omega
            have hbl := h2.behind hlt
            have hm := h3.2.1.mid
            have hpl := h3.2.1.plain
            have hmem : xs.getD (x.1 + x.2.length) 0 ∈ y.2 := by
              rw [← hm, he]
              have hp := h3.2.1.pos
              rw [List.getD_eq_getElem?_getD, List.getElem?_eq_getElem hlt]
              simp only [Option.getD_some]
              apply List.mem_of_getElem? (i := 0)
              rw [List.getElem?_drop, List.getElem?_take, if_pos (by omega), Nat.add_zero, List.getElem?_eq_getElem hlt]
            rw [hpl _ hmem] at hbl
            cases hbl
        have := ih y.1 ⟨Nat.le_refl _, h3.2.1, h3.2.2⟩ (by have := h3.2.1.fits; omega)
        have e : tot ((x :: y :: t).map (·.2)) = x.2.length + 1 + tot ((y :: t).map (·.2)) := by simp [tot]
        rw [e]
        omega
  have := key (toks xs) 0 (toks_good xs) (Nat.zero_le _)
  omega

theorem tks_length' (xs : List Int) : (tks xs).length = (toks xs).length := by simp [tks]
theorem rd_tks' {xs : List Int} {k : Nat} (hk : k < (toks xs).length) : rd_T37 (tks xs) (k : Int) = tk ((toks xs)[k]) := by
  simp [rd_T37, tks, List.getD_eq_getElem?_getD, hk]
/-- The words' bytes, of one input and another one. -/
def both (xs ys : List Int) : List ByteArray := (tks xs ++ tks ys).map (·.f1)
theorem both_length (xs ys : List Int) : (both xs ys).length = (tks xs).length + (tks ys).length := by simp [both]

theorem tok_bytes {xs : List Int} (hby : ∀ c ∈ xs, 0 ≤ c ∧ c ≤ 255) {x : Nat × List Int} (hx : x ∈ toks xs) : ∀ c ∈ x.2, 0 ≤ c ∧ c ≤ 255 := by
  intro c hc
  obtain ⟨i, hi, he⟩ := List.mem_iff_getElem.1 hx
  have h := (good_at hi).mid
  rw [he] at h
  rw [← h] at hc
  exact hby c (List.mem_of_mem_take (List.mem_of_mem_drop hc))
theorem both_map (xs ys : List Int) (hby : ∀ c ∈ xs, 0 ≤ c ∧ c ≤ 255) (hby' : ∀ c ∈ ys, 0 ≤ c ∧ c ≤ 255) : (both xs ys).map bytesOf = (toks xs).map (·.2) ++ (toks ys).map (·.2) := by
  simp only [both, tks, List.map_append, List.map_map]
  congr 1
  · apply List.map_congr_left
    intro x hx
    exact bytesOf_strOfNums _ (tok_bytes hby hx)
  · apply List.map_congr_left
    intro x hx
    exact bytesOf_strOfNums _ (tok_bytes hby' hx)
theorem both_good (xs ys : List Int) (hby : ∀ c ∈ xs, 0 ≤ c ∧ c ≤ 255) (hby' : ∀ c ∈ ys, 0 ≤ c ∧ c ≤ 255) : ∀ w ∈ (both xs ys).map bytesOf, (∀ d ∈ w, blk d = false) ∧ w ≠ [] ∧ w.getD 0 0 ≠ 35 := by
  intro w hw
  rw [both_map xs ys hby hby'] at hw
  have key : ∀ zs : List Int, w ∈ (toks zs).map (·.2) → (∀ d ∈ w, blk d = false) ∧ w ≠ [] ∧ w.getD 0 0 ≠ 35 := by
    intro zs hz
    obtain ⟨x, hx, rfl⟩ := List.mem_map.1 hz
    obtain ⟨i, hi, he⟩ := List.mem_iff_getElem.1 hx
    have h := good_at hi
    rw [he] at h
    refine ⟨h.plain, ?_, h.head⟩
    intro e
    have h1 := h.pos
    rw [e] at h1
    cases h1
  rcases List.mem_append.1 hw with h | h
  · exact key xs h
  · exact key ys h
theorem both_tot (xs ys : List Int) (hby : ∀ c ∈ xs, 0 ≤ c ∧ c ≤ 255) (hby' : ∀ c ∈ ys, 0 ≤ c ∧ c ≤ 255) : tot ((both xs ys).map bytesOf) ≤ xs.length + ys.length + 2 := by
  rw [both_map xs ys hby hby', tot_append]
  have := tot_words_le xs
  have := tot_words_le ys
  omega

set_option maxHeartbeats 4000000 in
set_option maxRecDepth 100000 in
theorem joins_walk (A : Option Addr) (cap : Nat) (xs : List Int) (A' : Option Addr) (cap' : Nat) (ys : List Int) (w : World) (hcap : xs.length ≤ cap) (hR : ReadsInt w .u8 A xs.length xs)
    (hcap' : ys.length ≤ cap') (hR' : ReadsInt w .u8 A' ys.length ys) (hby : ∀ c ∈ xs, 0 ≤ c ∧ c ≤ 255) (hby' : ∀ c ∈ ys, 0 ≤ c ∧ c ≤ 255) :
    Calls Try.prog 9 #[.slice A xs.length cap, .slice A' ys.length cap'] w fun e w' => e = .returned (.bool true) ∧ Below w.heap.size w w' := by
  have hm := hR.2.1
  have hm' := hR'.2.1
  by_cases h1 : xs.length ≤ 5000
  · by_cases h2 : ys.length ≤ 5000
    · go_enter Try.func9, Try.ntmps9
      go_wp2_with fail
      refine (all_ok A cap xs w (by omega) hcap hR).mono ?_
      rintro e w1 ⟨v1, rfl, hv1, hb1⟩
      obtain ⟨A1, c1, rfl, hc1, hr1⟩ := Kd.R_reads hv1
      go_wp2_with fail
      refine (all_ok A' cap' ys w1 (by omega) hcap' (hR'.below hb1)).mono ?_
      rintro e w2 ⟨v2, rfl, hv2, hb2⟩
      obtain ⟨A2, c2, rfl, hc2, hr2⟩ := Kd.R_reads hv2
      have hr1' := Kd.C_below hr1 hb2
      have hb02 : Below w.heap.size w w2 := below_step hb1 hb2
      have hwl0 : (both xs ys).length = (tks xs).length + (tks ys).length := both_length xs ys
      have hxl : (tks xs).length ≤ 5000 := by rw [tks_length']; exact Nat.le_trans (toks_length xs) h1
      have hyl : (tks ys).length ≤ 5000 := by rw [tks_length']; exact Nat.le_trans (toks_length ys) h2
      have hbx : ∀ i, i < (tks xs).length → (both xs ys).getD i ByteArray.empty = (rd_T37 (tks xs) (i : Int)).f1 := fun i hi => by
        simp [both, rd_T37, List.getD_eq_getElem?_getD, List.getElem?_append_left, hi]
      have hby2 : ∀ i, (tks xs).length ≤ i → i < (tks xs).length + (tks ys).length → (both xs ys).getD i ByteArray.empty = (rd_T37 (tks ys) ((i - (tks xs).length : Nat) : Int)).f1 := fun i hi hi2 => by
        simp [both, rd_T37, List.getD_eq_getElem?_getD, List.getElem?_append_right, hi, show i - (tks xs).length < (tks ys).length from by omega]
      obtain ⟨ws, hws⟩ : ∃ ws, ws = both xs ys := ⟨_, rfl⟩
      rw [← hws] at hwl0 hbx hby2
      obtain ⟨ts, hts⟩ : ∃ ts, ts = tks xs := ⟨_, rfl⟩
      rw [← hts] at hwl0 hbx hby2 hxl hr1' hc1 ⊢
      obtain ⟨us, hus⟩ : ∃ us, us = tks ys := ⟨_, rfl⟩
      rw [← hus] at hwl0 hby2 hyl hr2 hc2 ⊢
      have HWS := Lib.hid hws
      have HTS := Lib.hid hts
      have HUS := Lib.hid hus
      have HBX := Lib.hid hbx
      have HBY := Lib.hid hby2
      have HWL := Lib.hid hwl0
      have hwl : ws.length ≤ 10000 := by omega
      clear hws hts hus hbx hby2 hwl0 hv1 hv2
      go_wp2_with fail
      go_loopw [9, 10] (fun v9 v10 W => ∃ i : Nat, i ≤ ts.length + us.length ∧ v10 = .int .i64 i ∧ W.ownsRow w2.heap.size 9 1 v9 ((ws.take i).map Value.string).length ((ws.take i).map Value.string) ∧ Below w2.heap.size w2 W)
        (fun _ v10 _ => ts.length + us.length - (intOf v10).toNat)
      case atStart => exact ⟨0, Nat.zero_le _, rfl, own_nil _ _ _ _, Below.refl _ _⟩
      case round =>
        obtain ⟨i, hi, rfl, hO, hB⟩ := hrel
        by_cases hil : i < ts.length + us.length
        · have hnext : Hid ((ws.take (i + 1)).map Value.string = (ws.take i).map Value.string ++ [.string (ws.getD i ByteArray.empty)]) := Lib.hid (by
            have h3 : i < ws.length := by have := HWL.out; omega
            rw [List.take_succ_eq_append_getElem h3, List.map_append]
            simp [List.getD_eq_getElem?_getD, List.getElem?_eq_getElem h3])
          have hol : ((ws.take i).map Value.string).length ≤ 10000 := by rw [List.length_map, List.length_take]; omega
          obtain ⟨cs, hcs⟩ : ∃ cs, cs = (ws.take i).map Value.string := ⟨_, rfl⟩
          rw [← hcs] at hO hnext hol
          clear hcs
          by_cases hit : i < ts.length
          · obtain ⟨ad, e, _, hx⟩ := at_T37 (Kd.C_below hr1' hB) (i : Int) (by omega) (by omega)
            cases e
            rw [← HBX.out i hit, Int.toNat_natCast] at hx
            generalize ws.getD i ByteArray.empty = s at hx hnext
            go_wp2_with (first | ((with_reducible refine gate_builtin (b := .append) (xs := #[.tmp 54, .tmp 60]) rfl ?_); at_builtin; refine print_append (w0 := w2) w2.heap.size rfl (.tmp 54) (.tmp 60) 52 9 (.string ⟨#[]⟩) 16 rfl Try.underlying52 info9 rfl (by decide) u9 cs (.string s) rfl rfl rfl hO hB hB.size ?aL ?_; (case aL => have := hwl; omega); intro v3 w3 ho3 hB3 hg3 hat3))
            go_roundw
            case rel => exact ⟨i + 1, by omega, by go_num, by rw [hnext.out]; exact ho3, hB3⟩
            case measure => simp [intOf]; omega
          · obtain ⟨ad, e, _, hx⟩ := at_T37 (Kd.C_below hr2 hB) ((i : Int) - (ts.length : Int)) (by omega) (by omega)
            cases e
            rw [show ((i : Int) - (ts.length : Int)) = ((i - ts.length : Nat) : Int) from by omega, ← HBY.out i (by omega) hil, Int.toNat_natCast] at hx
            generalize ws.getD i ByteArray.empty = s at hx hnext
            go_wp2_with (first | ((with_reducible refine gate_builtin (b := .append) (xs := #[.tmp 62, .tmp 71]) rfl ?_); at_builtin; refine print_append (w0 := w2) w2.heap.size rfl (.tmp 62) (.tmp 71) 52 9 (.string ⟨#[]⟩) 16 rfl Try.underlying52 info9 rfl (by decide) u9 cs (.string s) rfl rfl rfl hO hB hB.size ?aL ?_; (case aL => have := hwl; omega); intro v3 w3 ho3 hB3 hg3 hat3))
            go_roundw
            case rel => exact ⟨i + 1, by omega, by go_num, by rw [hnext.out]; exact ho3, hB3⟩
            case measure => simp [intOf]; omega
        · have hie : i = ts.length + us.length := by omega
          have hO' : wr.ownsRow w2.heap.size 9 1 u9 ws.length (ws.map Value.string) := by
            rw [List.take_of_length_le (by have := HWL.out; omega), List.length_map] at hO
            exact hO
          obtain ⟨A3, c3, rfl, hc3, hC3⟩ := strsC hO'
          have HG : Hid (∀ w ∈ ws.map bytesOf, (∀ d ∈ w, blk d = false) ∧ w ≠ [] ∧ w.getD 0 0 ≠ 35) := Lib.hid (by rw [HWS.out]; exact both_good xs ys hby hby')
          have htot : tot (ws.map bytesOf) ≤ 10002 := by rw [HWS.out]; have := both_tot xs ys hby hby'; omega
          clear hO hO'
          go_wp2_with fail
          refine (join_ok A3 c3 ws wr hC3 (by omega)).mono ?_
          rintro e w4 ⟨s, rfl, hs, hd4⟩
          have hb4 : Below w2.heap.size w2 w4 := hB.trans (hd4.below.mono hB.size)
          obtain ⟨zs, hzs⟩ : ∃ zs, zs = bytesOf s := ⟨_, rfl⟩
          have hzl : s.size = zs.length := by rw [hzs, bytesOf_length]
          rw [← hzs] at hs
          have hztot : zs.length = tot (ws.map bytesOf) := by rw [hs, joined_length]
          have hzle : zs.length ≤ 10002 := by omega
          have kb : ∀ W : World, (convert 9 22 (.string s)).run Try.prog W = .ok (.slice (some ⟨W.heap.size, 0, none⟩) zs.length (grownCap W s.size 0 5)) (Lib.bytesWorld W 5 s) := fun W => by
            rw [← hzl]
            exact print_bytes (P := Try.prog) 9 22 5 Try.underlying9 Try.underlying22 Try.underlying5 s W
          have hrz : ReadsInt (Lib.bytesWorld w4 5 s) .u8 (some ⟨w4.heap.size, 0, none⟩) zs.length zs := by
            have := bytes_reads w4 5 s (by omega)
            rw [← hzs, hzl] at this
            exact this
          have hcz : zs.length ≤ grownCap w4 s.size 0 5 := by rw [← hzl]; exact grownCap_ge _ _ _ _
          have htz : Hid (toks zs = placed 0 (ws.map bytesOf)) := Lib.hid (by rw [hs]; exact toks_joined _ HG.out 0)
          have HS := Lib.hid hs
          have HZ := Lib.hid hzs
          have HZL := Lib.hid hzl
          have HZT := Lib.hid hztot
          clear hs hzs hzl hztot
          go_wp2_with fail
          refine (all_ok (some ⟨w4.heap.size, 0, none⟩) (grownCap w4 s.size 0 5) zs _ (by omega) hcz hrz).mono ?_
          rintro e w5 ⟨v5, rfl, hv5, hb5⟩
          obtain ⟨A5, c5, rfl, hc5, hr5⟩ := Kd.R_reads hv5
          have hkl : (tks zs).length = ws.length := by rw [tks_length', htz.out, placed_length, List.length_map]
          obtain ⟨ks, hks⟩ : ∃ ks, ks = tks zs := ⟨_, rfl⟩
          rw [← hks] at hr5 hc5 hkl ⊢
          have hkl1 : ((ks.length : Int) != (ws.length : Int)) = false := by simp [hkl]
          have hkl2 : (ks.length != ws.length) = false := by simp [hkl]
          have HKL := Lib.hid hkl
          have HKS := Lib.hid hks
          clear hkl hks hv5 kb
          have hfree : Hid (s.size = 0 ↔ ws.length = 0) := Lib.hid (by
            rw [HZL.out, HZT.out]
            constructor
            · intro h
              cases hw : ws with
              | nil => rfl
              | cons a t => rw [hw] at h; simp [tot] at h
            · intro h
              rw [List.eq_nil_of_length_eq_zero h]
              rfl)
          have hte : s.toList.isEmpty = ((ws.length : Int) == 0) := by
            have hl : s.data.toList.length = s.size := by rw [Array.length_toList]; rfl
            rw [ByteArray.toList_eq]
            by_cases h0 : ws.length = 0
            · have := hfree.out.2 h0
              rw [List.eq_nil_of_length_eq_zero (by omega : s.data.toList.length = 0), h0]
              rfl
            · have h5 : ¬ s.size = 0 := fun h => h0 (hfree.out.1 h)
              have h6 : ((ws.length : Int) == 0) = false := beq_eq_false_iff_ne.2 (by omega)
              rw [h6]
              cases hd : s.data.toList with
              | nil => rw [hd] at hl; simp at hl; omega
              | cons a t => rfl
          go_wp2_with fail
          clear hte hkl1 hkl2
          have hCw : Kd.C Kd.string w5 A3 ws.length ws := Kd.C_below (Kd.C_below (Kd.C_below hC3 hd4.below) (bytes_below (Below.refl _ _) (Nat.le_refl _) 5 s)) hb5
          have hb25 : Below w2.heap.size w2 w5 := (bytes_below hb4 hb4.size 5 s).trans (hb5.mono (by have := hb4.size; have := (bytes_below hb4 hb4.size 5 s).size; omega))
          go_loopw [14, 15] (fun v14 v15 W => ∃ i : Nat, i ≤ ks.length ∧ v15 = .int .i64 i ∧ v14 = .int .i64 (tot ((ws.map bytesOf).take i) : Nat) ∧ Kd.C Kd.string W A3 ws.length ws ∧ Kd.C k37 W A5 ks.length ks ∧ Below w2.heap.size w2 W)
            (fun _ v15 _ => ks.length - (intOf v15).toNat)
          case atStart => exact ⟨0, Nat.zero_le _, rfl, rfl, hCw, hr5, hb25⟩
          case round =>
            obtain ⟨i2, hi2, rfl, rfl, hCs, hCk, hB2⟩ := hrel
            by_cases hil2 : i2 < ks.length
            · have hiw : i2 < ws.length := by have := HKL.out; omega
              have hiz : i2 < (toks zs).length := by rw [← tks_length', ← HKS.out]; exact hil2
              obtain ⟨ad1, e1, hx0, hx1⟩ := at_T37 hCk (i2 : Int) (by omega) (by omega)
              obtain ⟨ad2, e2, hy⟩ := at_str hCs i2 hiw
              cases e1
              cases e2
              have hti : (toks zs)[i2] = (tot ((ws.map bytesOf).take i2), bytesOf (ws.getD i2 ByteArray.empty)) := by
                have h := placed_at (ws.map bytesOf) 0 i2 (by rw [List.length_map]; exact hiw)
                rw [← htz.out, List.getElem?_eq_getElem hiz, Nat.zero_add] at h
                rw [Option.some.inj h]
                simp [List.getD_eq_getElem?_getD, List.getElem?_eq_getElem hiw]
              rw [HKS.out, rd_tks' hiz, Int.toNat_natCast, hti] at hx0 hx1
              simp only [tk, strOfNums_bytesOf] at hx0 hx1
              have hsucc : Hid (tot ((ws.map bytesOf).take (i2 + 1)) = tot ((ws.map bytesOf).take i2) + (ws.getD i2 ByteArray.empty).size + 1) := Lib.hid (by
                rw [List.take_succ_eq_append_getElem (by rw [List.length_map]; exact hiw), tot_append]
                simp [tot, bytesOf_length, List.getD_eq_getElem?_getD, List.getElem?_eq_getElem hiw]
                omega)
              have hle2 : tot ((ws.map bytesOf).take i2) + (ws.getD i2 ByteArray.empty).size + 1 ≤ 10002 := by
                rw [← hsucc.out]; exact Nat.le_trans (tot_take _ _) htot
              clear hti
              have hiw' : (i2 : Int) < (ws.length : Int) := by omega
              generalize ws.getD i2 ByteArray.empty = t at hx1 hy hsucc hle2
              obtain ⟨T, hT⟩ : ∃ T, T = tot ((ws.map bytesOf).take i2) := ⟨_, rfl⟩
              rw [← hT] at hx0 hsucc hle2 ⊢
              clear hT
              go_wp2
              go_quiet (fail)
              go_wp2
              go_roundw
              case rel => exact ⟨i2 + 1, by omega, by go_num, by rw [hsucc.out]; go_num, Kd.C_below hCs (Drawn0.below (Drawn0.step (Drawn0.refl wr) nq)), Kd.C_below hCk (Drawn0.below (Drawn0.step (Drawn0.refl wr) nq)), hB2.trans ((Drawn0.below (Drawn0.step (Drawn0.refl wr) nq)).mono hB2.size)⟩
              case measure => simp [intOf]; omega
            · have hie2 : i2 = ks.length := by omega
              have hTe : tot ((ws.map bytesOf).take i2) = s.size := by
                rw [List.take_of_length_le (by rw [List.length_map, hie2, HKL.out]; exact Nat.le_refl _), HZL.out, HZT.out]
              rw [hTe]
              clear hTe
              have hsz : s.size ≤ 10002 := by rw [HZL.out]; exact hzle
              go_wp2_with fail
              refine (known_ok _).mono ?_
              rintro e w6 ⟨rfl, hb6⟩
              go_wp2
              go_ret
              exact ⟨rfl, below_step (hb02.trans (hB2.mono hb02.size)) hb6⟩
    · go_enter Try.func9, Try.ntmps9
      go_wp2_with fail
      refine (known_ok w).mono ?_
      rintro e w4 ⟨rfl, hb4⟩
      go_wp2
      go_ret
      exact ⟨rfl, hb4⟩
  · go_enter Try.func9, Try.ntmps9
    go_wp2_with fail
    refine (known_ok w).mono ?_
    rintro e w4 ⟨rfl, hb4⟩
    go_wp2
    go_ret
    exact ⟨rfl, hb4⟩
end Go.Proofs.Ytajfaieiabnknaa

/- parquetref06.Parse, as the print tells it: the options of the bytes. -/
import Derived.Test.YtbiafpklgkkoaaaPAll
import Derived.Test.YtbiafpklgkkoaaaPNumber
import Derived.Test.YtbiafpklgkkoaaaParL
import Derived.Test.YtbiafpklgkkoaaaMT2
import Derived.Test.YtbiafpklgkkoaaaMT8
set_option linter.unusedVariables false
set_option linter.unusedSimpArgs false
namespace Go.Proofs.Ytbiafpklgkkoaaa
open Go Go.RowKit Go.Shelf Go.Proofs.Ytbiafpklgkkoaaa.MT Go.Proofs.YtbiafpklgkkoaaaW.PrintWords Go.Proofs.YtbiafpklgkkoaaaW.PrintLast
def cv (t : S37) : S60' := ⟨t.f0, t.f1⟩
theorem tks_cv (xs : List Int) : (toks xs).map t60 = (tks xs).map cv := by
  unfold tks
  rw [List.map_map]
  rfl
/-- What the document's number and the program's say of one another. -/
theorem num_max (l : List Int) {n f : Int} (H : numS l 9223372036854775807 = (n, f)) :
    (f = 0 → n < 0 → errN l = 10) ∧ (f = 0 → ¬ n < 0 → n > 100 → errN l = 10) ∧ (f = 0 → ¬ n < 0 → ¬ n > 100 → errN l = 0 ∧ (numS l 100).1 = n) ∧ (¬ f = 0 → errN l = f) := by
  by_cases hb : digsOf l = [] ∨ ((digsOf l).head? = some 48 ∧ l ≠ [48]) ∨ isD (digsOf l) = false
  · rw [numS_bad hb] at H
    cases H
    refine ⟨fun h => by omega, fun h => by omega, fun h => by omega, fun _ => ?_⟩
    exact errN_bad (numS_bad hb) (by decide)
  · have hD : isD (digsOf l) = true := by
      cases h : isD (digsOf l) with
      | true => rfl
      | false => exact absurd (.inr (.inr h)) hb
    have hv := valD_nonneg hD
    by_cases h1 : valD (digsOf l) ≤ 100
    · have e1 := numS_ok (most := 100) hb (by simp [farD]; omega)
      have e2 := numS_ok (most := 9223372036854775807) hb (by simp [farD]; omega)
      rw [e2] at H
      simp only [Prod.mk.injEq] at H
      obtain ⟨hn, rfl⟩ := H
      rw [hn] at e1
      refine ⟨fun _ h => errN_neg e1 rfl h, fun _ h h2 => ?_, fun _ h h2 => ⟨errN_ok e1 rfl h, by rw [e1]⟩, fun h => absurd rfl h⟩
      exfalso
      split at hn <;> omega
    · have e1 := numS_far (most := 100) hb (by simp [farD]; omega)
      have hE : errN l = 10 := errN_bad e1 (by decide)
      by_cases h2 : valD (digsOf l) ≤ 9223372036854775807
      · have e2 := numS_ok (most := 9223372036854775807) hb (by simp [farD]; omega)
        rw [e2] at H
        simp only [Prod.mk.injEq] at H
        obtain ⟨hn, rfl⟩ := H
        refine ⟨fun _ _ => hE, fun _ _ _ => hE, fun _ h h3 => ?_, fun h => absurd rfl h⟩
        exfalso
        split at hn <;> omega
      · have e2 := numS_far (most := 9223372036854775807) hb (by simp [farD]; omega)
        rw [e2] at H
        cases H
        exact ⟨fun h => by omega, fun h => by omega, fun h => by omega, fun _ => hE⟩
def resP (p : Opt3 × Int × Int) : Int × Int × Bool × Int × Int := (p.1.1, p.1.2.1, p.1.2.2, p.2.1, p.2.2)
theorem is_list {s b : ByteArray} {L : List UInt8} (hb : b.toList = L) : s.toList = L ↔ s = b := by
  constructor
  · intro h
    exact Classical.byContradiction fun hn => by
      have := toList_ne' hb hn
      rw [h] at this
      simp at this
  · intro h; subst h; exact hb
theorem rd_cv (T : List S37) (i : Nat) (h : i < T.length) : rd_T60 (T.map cv) (i : Int) = cv (rd_T37 T (i : Int)) := by
  simp [rd_T60, rd_T37, List.getD_eq_getElem?_getD, List.getElem?_eq_getElem h]
theorem chk_in {m b : Int} (h1 : 1 ≤ m ∧ m ≤ 3) (h2 : 0 ≤ b ∧ b ≤ 100) : chkS m b = 0 := if_neg (by omega)
set_option maxHeartbeats 2000000 in
theorem parse_l0 (xs : List Int) (T : List S37) (hlen : T.length ≤ 1048576) (hsz : ∀ k : Nat, k < T.length → (rd_T37 T (k : Int)).f1.size ≤ 1000000) :
    ∀ (n i : Nat) (m b : Int) (r sb : Bool), T.length - i ≤ n → i ≤ T.length → (1 ≤ m ∧ m ≤ 3) → (0 ≤ b ∧ b ≤ 100) →
      Ev (fun q => parquetref06_Parse.l0 q xs (T.map cv) sb (i : Int) 0 0 false m b r) (resP (pgo xs.length (T.drop i) r sb (m, b, r))) := by
  intro n
  induction n with
  | zero =>
    intro i m b r sb hn hi hm hb
    obtain rfl : i = T.length := by omega
    refine Ev.step (f := fun _ => some (m, b, r, 0, 0)) (fun q => ?_) ?_
    · simp only [parquetref06_Parse.l0]
      rw [if_neg (by simp)]
    · rw [List.drop_length]
      simp only [pgo, chk_in hm hb, if_true, resP]
      exact Ev.now _
  | succ n ih =>
    intro i m b r sb hn hi hm hb
    by_cases he : i = T.length
    · subst he
      refine Ev.step (f := fun _ => some (m, b, r, 0, 0)) (fun q => ?_) ?_
      · simp only [parquetref06_Parse.l0]
        rw [if_neg (by simp)]
      · rw [List.drop_length]
        simp only [pgo, chk_in hm hb, if_true, resP]
        exact Ev.now _
    · have hlt : i < T.length := by omega
      have hdr := drop_at hlt
      have hw : wrap64 ((i : Int) + 1) = ((i + 1 : Nat) : Int) := by rw [w64 (by omega) (by omega)]; rfl
      have hlm : ((T.map cv).length : Int) = (T.length : Int) := by rw [List.length_map]
      obtain ⟨t, ht⟩ : ∃ t, t = rd_T37 T (i : Int) := ⟨_, rfl⟩
      have hrd : rd_T60 (T.map cv) (i : Int) = cv t := by rw [rd_cv T i hlt, ht]
      rw [← ht] at hdr
      obtain ⟨p, hp⟩ : ∃ p, p = pgo xs.length (T.drop i) r sb (m, b, r) := ⟨_, rfl⟩
      rw [← hp]
      have hstop : p = ((0, 0, false), t.f0, 11) → Ev (fun q => parquetref06_Parse.j2 q xs (T.map cv) ((i + 1 : Nat) : Int) true 0 0 false m b r t.f0 t.f1) (resP p) := by
        intro h
        rw [h]
        exact Ev.step (f := fun _ => some (0, 0, false, t.f0, 11)) (fun q => by simp [parquetref06_Parse.j2]) (Ev.now _)
      by_cases hrf : t.f1 = refB
      · have hL := (is_list ref_list).2 hrf
        have hnb : ¬ t.f1.toList = ([98, 117, 100, 103, 101, 116] : List UInt8) := fun h => (by decide : refB ≠ budB) (hrf.symm.trans ((is_list bud_list).1 h))
        refine Ev.step (f := fun q => parquetref06_Parse.j1 q xs (T.map cv) sb ((i + 1 : Nat) : Int) (!r) 0 0 false m b r t.f0 t.f1) (fun q => ?_) ?_
        · simp only [parquetref06_Parse.l0, hrd, hw]
          rw [if_pos (by omega), if_pos (by omega)]
          exact if_pos hL
        · cases r with
          | false =>
            refine Ev.step (f := fun q => parquetref06_Parse.l0 q xs (T.map cv) sb ((i + 1 : Nat) : Int) 0 0 false m b true) (fun q => by simp [parquetref06_Parse.j1]) ?_
            have h2 := ih (i + 1) m b true sb (by omega) (by omega) hm hb
            have h3 : p = pgo xs.length (T.drop (i + 1)) true sb (m, b, true) := by
              rw [hp, hdr, pgo_cons, if_pos ⟨hrf, rfl⟩]
            rw [h3]
            exact h2
          | true =>
            refine Ev.step (f := fun q => parquetref06_Parse.j2 q xs (T.map cv) ((i + 1 : Nat) : Int) true 0 0 false m b true t.f0 t.f1) (fun q => ?_) (hstop (pgo_stop hp hdr (fun c => by cases c.2) (fun c => (by decide : refB ≠ budB) (hrf.symm.trans c.1))))
            simp only [parquetref06_Parse.j1]
            rw [if_neg (by decide), if_neg hnb]
      · have hL : ¬ t.f1.toList = ([114, 101, 102, 105, 110, 101] : List UInt8) := fun h => hrf ((is_list ref_list).1 h)
        refine Ev.step (f := fun q => parquetref06_Parse.j1 q xs (T.map cv) sb ((i + 1 : Nat) : Int) false 0 0 false m b r t.f0 t.f1) (fun q => ?_) ?_
        · simp only [parquetref06_Parse.l0, hrd, hw]
          rw [if_pos (by omega), if_pos (by omega)]
          exact if_neg hL
        · by_cases hbu : t.f1 = budB
          · have hBL := (is_list bud_list).2 hbu
            refine Ev.step (f := fun q => parquetref06_Parse.j2 q xs (T.map cv) ((i + 1 : Nat) : Int) sb 0 0 false m b r t.f0 t.f1) (fun q => ?_) ?_
            · simp only [parquetref06_Parse.j1]
              rw [if_neg (by decide), if_pos hBL]
            · cases sb with
              | true => exact hstop (pgo_stop hp hdr (fun c => hrf c.1) (fun c => by cases c.2))
              | false =>
                by_cases hl : i + 1 = T.length
                · have h3 := pgo_bud_last hp (by rw [hdr, hl, List.drop_length]) hbu
                  rw [h3]
                  refine Ev.step (f := fun _ => some (0, 0, false, (xs.length : Int), 11)) (fun q => ?_) (Ev.now _)
                  simp only [parquetref06_Parse.j2]
                  rw [if_neg (by decide), if_pos (by omega)]
                · have hlt2 : i + 1 < T.length := by omega
                  have hdr2 := drop_at hlt2
                  have hw2 : wrap64 (((i + 1 : Nat) : Int) + 1) = ((i + 1 + 1 : Nat) : Int) := by rw [w64 (by omega) (by omega)]; rfl
                  have hs2 := hsz (i + 1) hlt2
                  obtain ⟨u, hu⟩ : ∃ u, u = rd_T37 T ((i + 1 : Nat) : Int) := ⟨_, rfl⟩
                  have hru : rd_T60 (T.map cv) ((i + 1 : Nat) : Int) = cv u := by rw [rd_cv T (i + 1) hlt2, hu]
                  rw [← hu] at hdr2 hs2
                  have hTT : T.drop i = t :: u :: T.drop (i + 1 + 1) := by rw [hdr, hdr2]
                  obtain ⟨n2, f, hnf⟩ : ∃ n2 f, numS (bytesOf u.f1) 9223372036854775807 = (n2, f) := ⟨_, _, rfl⟩
                  have hev := number_ev u.f1 9223372036854775807 hs2 (by decide) (by decide)
                  rw [hnf] at hev
                  obtain ⟨N1, N2, N3, N4⟩ := num_max _ hnf
                  have hret : ∀ fl : Int, fl ≠ 0 → errN (bytesOf u.f1) = fl → p = ((0, 0, false), u.f0, fl) := fun fl h0 hE => pgo_bud_err hp hTT hbu hE h0
                  refine Ev.step (f := fun q => (parquetref02_Number.f q u.f1 9223372036854775807).bind fun bt => if bt.2 = 0 then (if bt.1 < 0 then parquetref06_Parse.j3 q xs (T.map cv) true ((i + 1 : Nat) : Int) bt.1 bt.2 true 0 0 false m b r else parquetref06_Parse.j3 q xs (T.map cv) true ((i + 1 : Nat) : Int) bt.1 bt.2 (decide (bt.1 > 100)) 0 0 false m b r) else parquetref06_Parse.j3 q xs (T.map cv) true ((i + 1 : Nat) : Int) bt.1 bt.2 false 0 0 false m b r) (fun q => ?_) ?_
                  · simp only [parquetref06_Parse.j2, hru]
                    rw [if_neg (by decide), if_neg (by omega), if_pos (by omega), if_pos (by omega)]
                    rfl
                  · refine Ev.bind hev ?_
                    have hj3 : Ev (fun q => parquetref06_Parse.j3 q xs (T.map cv) true ((i + 1 : Nat) : Int) n2 f true 0 0 false m b r) (0, 0, false, u.f0, 10) := by
                      refine Ev.step (f := fun _ => some (0, 0, false, u.f0, 10)) (fun q => ?_) (Ev.now _)
                      simp only [parquetref06_Parse.j3, hru, if_true]
                      rw [if_pos (by omega), if_pos (by omega)]
                      rfl
                    by_cases hf : f = 0
                    · simp only [hf, if_true]
                      by_cases hneg : n2 < 0
                      · simp only [hneg, if_true]
                        rw [hret 10 (by decide) (N1 hf hneg)]
                        rw [hf] at hj3
                        exact hj3
                      · simp only [hneg, if_false]
                        by_cases hbig : n2 > 100
                        · rw [hret 10 (by decide) (N2 hf hneg hbig)]
                          rw [hf] at hj3
                          rw [show decide (n2 > 100) = true from decide_eq_true hbig]
                          exact hj3
                        · obtain ⟨hE, hnn⟩ := N3 hf hneg hbig
                          have h3 : p = pgo xs.length (T.drop (i + 1 + 1)) r true (m, n2, r) := by
                            rw [hp, hTT, pgo_cons, if_neg (fun c => hrf c.1), if_pos ⟨hbu, rfl⟩]
                            show (if errN (bytesOf u.f1) ≠ 0 then _ else _) = _
                            rw [if_neg (fun c => c hE), hnn]
                          rw [h3, show decide (n2 > 100) = false from decide_eq_false hbig]
                          refine Ev.step (f := fun q => parquetref06_Parse.l0 q xs (T.map cv) true ((i + 1 + 1 : Nat) : Int) 0 0 false m n2 r) (fun q => ?_) (ih (i + 1 + 1) m n2 r true (by omega) (by omega) hm ⟨by omega, by omega⟩)
                          simp only [parquetref06_Parse.j3]
                          rw [if_neg (by decide), hw2]
                          exact if_pos trivial
                    · simp only [hf, if_false]
                      rw [hret f hf (N4 hf)]
                      refine Ev.step (f := fun _ => some (0, 0, false, u.f0, f)) (fun q => ?_) (Ev.now _)
                      simp only [parquetref06_Parse.j3, hru, hf, if_false]
                      rw [if_neg (by decide), if_pos (by omega), if_pos (by omega)]
                      rfl
          · have hBL : ¬ t.f1.toList = ([98, 117, 100, 103, 101, 116] : List UInt8) := fun h => hbu ((is_list bud_list).1 h)
            refine Ev.step (f := fun q => parquetref06_Parse.j2 q xs (T.map cv) ((i + 1 : Nat) : Int) true 0 0 false m b r t.f0 t.f1) (fun q => ?_) (hstop (pgo_stop hp hdr (fun c => hrf c.1) (fun c => hbu c.1)))
            simp only [parquetref06_Parse.j1]
            rw [if_neg (by decide), if_neg hBL]
theorem mode_eq (s : ByteArray) : parquetref06_mode.f s = some (modeS s) := by
  have l1 : (wordS 1).toList = [116, 114, 105] := by rw [ByteArray.toList_eq]; rfl
  have l2 : (wordS 2).toList = [113, 117, 97, 100] := by rw [ByteArray.toList_eq]; rfl
  have l3 : (wordS 3).toList = [97, 108, 108] := by rw [ByteArray.toList_eq]; rfl
  unfold parquetref06_mode.f modeS
  by_cases h1 : s = wordS 1
  · rw [if_pos ((is_list l1).2 h1)]
    subst h1
    rw [if_neg (by decide), if_neg (by decide), if_pos rfl]
  · rw [if_neg (fun h => h1 ((is_list l1).1 h))]
    by_cases h2 : s = wordS 2
    · rw [if_pos ((is_list l2).2 h2)]
      subst h2
      rw [if_neg (by decide), if_pos rfl]
    · rw [if_neg (fun h => h2 ((is_list l2).1 h))]
      by_cases h3 : s = wordS 3
      · rw [if_pos ((is_list l3).2 h3), if_pos h3]
      · rw [if_neg (fun h => h3 ((is_list l3).1 h)), if_neg h3, if_neg h2, if_neg h1]
theorem mode_in {s : ByteArray} (h : ¬ modeS s = 0) : 1 ≤ modeS s ∧ modeS s ≤ 3 := by
  unfold modeS at h ⊢
  split
  · omega
  · split
    · omega
    · split
      · omega
      · simp_all
/-- The document's own options of bytes are the program's. -/
theorem refparse_ev (xs : List Int) (hl : xs.length ≤ 1000000) : Ev (fun q => parquetref06_Parse.f q xs) (resP (parseT xs.length (tks xs))) := by
  have hT : (tks xs).length ≤ 1048576 := by
    have := toks_length xs
    simp [tks]
    omega
  have hsz : ∀ k : Nat, k < (tks xs).length → (rd_T37 (tks xs) (k : Int)).f1.size ≤ 1000000 := fun k hk => Nat.le_trans (tks_size xs k hk) hl
  have ha := all_ev xs (by omega)
  rw [tks_cv] at ha
  obtain ⟨T, hTe⟩ : ∃ T, T = tks xs := ⟨_, rfl⟩
  rw [← hTe] at ha hT hsz ⊢
  unfold parquetref06_Parse.f
  refine Ev.bind ha ?_
  simp only [if_true]
  match T, hT, hsz with
  | [], _, _ => exact Ev.now _
  | t :: r, hT, hsz =>
    have hr : rd_T60 ((t :: r).map cv) 0 = cv t := rfl
    have e1 : ¬ ((((t :: r).map cv).length : Int) = 0) := by rw [List.length_map, List.length_cons]; omega
    have e2 : (0 : Int) < (((t :: r).map cv).length : Int) := by rw [List.length_map, List.length_cons]; omega
    simp only [e1, e2, if_true, if_false, hr]
    have e3 : parquetref06_mode.f (cv t).f1 = some (modeS t.f1) := mode_eq t.f1
    rw [e3]
    simp only [Option.bind_some]
    by_cases h0 : modeS t.f1 = 0
    · simp only [h0, if_true]
      have e4 : parseT xs.length (t :: r) = ((0, 0, false), t.f0, 11) := if_pos h0
      rw [e4]
      exact Ev.now _
    · simp only [h0, if_false]
      have h := parse_l0 xs (t :: r) hT hsz (t :: r).length 1 (modeS t.f1) 0 false false (by omega) (by simp) (mode_in h0) (by omega)
      have e4 : parseT xs.length (t :: r) = pgo xs.length ((t :: r).drop 1) false false (modeS t.f1, 0, false) := if_neg h0
      rw [e4]
      exact h
end Go.Proofs.Ytbiafpklgkkoaaa

/- Plain words on the wide package's Text: it is the number's decimal text; and that it is read as it was. -/
import Derived.Test.YtmpbbodafenonaaWText1
import Derived.Test.YtmpbbodafenonaaWP1
import Derived.Test.YtmpbbodafenonaaMT8
set_option linter.unusedVariables false
set_option linter.unusedSimpArgs false
namespace Go.Proofs.Ytmpbbodafenonaa
open Go Go.RowKit Go.Proofs.Ytmpbbodafenonaa.MT Go.Proofs.YtmpbbodafenonaaW.PrintWords Go.Proofs.YtmpbbodafenonaaW.PrintLast

theorem bytes_nums (l : List Int) (h : ∀ x ∈ l, 0 ≤ x ∧ x ≤ 255) : bytesOf (strOfNums l) = l := by
 unfold bytesOf strOfNums
 simp only [List.map_map]
 conv => rhs; rw [← List.map_id l]
 refine List.map_congr_left fun x hx => ?_
 have hb := h x hx
 obtain ⟨n, rfl⟩ := Int.eq_ofNat_of_zero_le hb.1
 simp
 omega
theorem getD_swap {ys : List Int} {a b p : Nat} (ha : a < ys.length) (hb : b < ys.length) (hne : a ≠ b) : ((ys.set a (ys.getD b 0)).set b (ys.getD a 0)).getD p 0 = if p = a then ys.getD b 0 else if p = b then ys.getD a 0 else ys.getD p 0 := by
 simp only [List.getD_eq_getElem?_getD]
 rw [List.getElem?_set, List.getElem?_set]
 by_cases h1 : p = a
 ·subst h1
  rw [if_pos rfl, if_neg (fun h => hne h.symm), if_pos rfl, if_pos ha]
  rfl
 ·rw [if_neg h1]
  by_cases h2 : p = b
  ·subst h2
   rw [if_pos rfl, if_pos rfl, if_pos (by simpa using hb)]
   rfl
  ·rw [if_neg h2, if_neg (fun h => h2 h.symm), if_neg (fun h => h1 h.symm)]
/-- The digits turned round. -/
theorem rev_loop (xs : List Int) (hx : xs.length ≤ 100000) : ∀ (m i : Nat) (ys : List Int), xs.length - 2 * i ≤ m → ys.length = xs.length → 2 * i ≤ xs.length + 1 → (∀ p, p < xs.length → ys.getD p 0 = if p < i ∨ xs.length ≤ p + i then xs.getD (xs.length - 1 - p) 0 else xs.getD p 0) →
  Ev (fun k => wide_Text.l1 k ys (i : Int) ((xs.length : Int) - 1 - (i : Int))) (strOfNums xs.reverse) := by
 intro m
 induction m with
 | zero =>
  intro i ys hm hy hi hp
  have e : ys = xs.reverse := by
   refine List.ext_getElem? fun p => ?_
   by_cases hl : p < xs.length
   ·have h1 := hp p hl
    rw [List.getD_eq_getElem?_getD, List.getElem?_eq_getElem (by omega)] at h1
    rw [List.getElem?_eq_getElem (by omega), List.getElem?_reverse hl]
    have h2 : ys[p] = xs.getD (xs.length - 1 - p) 0 := by
     rw [show ys[p] = (some ys[p]).getD 0 from rfl, h1]
     by_cases hc : p < i ∨ xs.length ≤ p + i
     ·rw [if_pos hc]
     ·rw [if_neg hc, show xs.length - 1 - p = p by omega]
    rw [h2, List.getD_eq_getElem?_getD, List.getElem?_eq_getElem (by omega)]
    rfl
   ·rw [List.getElem?_eq_none (by omega), List.getElem?_eq_none (by simp; omega)]
  refine Ev.step (f := fun _ => some (strOfNums xs.reverse)) (fun k => ?_) (Ev.now _)
  simp only [wide_Text.l1]
  rw [if_neg (by omega), e]
 | succ m ih =>
  intro i ys hm hy hi hp
  by_cases hd : xs.length - 2 * i ≤ m
  ·exact ih i ys hd hy hi hp
  ·by_cases h1 : xs.length = 2 * i + 1
   ·have hz := hp
    have e : ys = xs.reverse := by
     refine List.ext_getElem? fun p => ?_
     by_cases hl : p < xs.length
     ·have h1' := hp p hl
      rw [List.getD_eq_getElem?_getD, List.getElem?_eq_getElem (by omega)] at h1'
      rw [List.getElem?_eq_getElem (by omega), List.getElem?_reverse hl]
      have h2 : ys[p] = xs.getD (xs.length - 1 - p) 0 := by
       rw [show ys[p] = (some ys[p]).getD 0 from rfl, h1']
       by_cases hc : p < i ∨ xs.length ≤ p + i
       ·rw [if_pos hc]
       ·rw [if_neg hc, show xs.length - 1 - p = p by omega]
      rw [h2, List.getD_eq_getElem?_getD, List.getElem?_eq_getElem (by omega)]
      rfl
     ·rw [List.getElem?_eq_none (by omega), List.getElem?_eq_none (by simp; omega)]
    refine Ev.step (f := fun _ => some (strOfNums xs.reverse)) (fun k => ?_) (Ev.now _)
    simp only [wide_Text.l1]
    rw [if_neg (by omega), e]
   ·obtain ⟨j, hj⟩ : ∃ j : Nat, j = xs.length - 1 - i := ⟨_, rfl⟩
    have hij : i < j := by omega
    have hjl : j < xs.length := by omega
    have ej : (xs.length : Int) - 1 - (i : Int) = (j : Int) := by omega
    have hst := ih (i + 1) ((ys.set i (ys.getD j 0)).set j (ys.getD i 0)) (by omega) (by simpa using hy) (by omega) (fun p hpl => by
     rw [getD_swap (by omega) (by omega) (by omega), hp i (by omega), hp j hjl, hp p hpl]
     rw [if_neg (show ¬ (i < i ∨ xs.length ≤ i + i) by omega), if_neg (show ¬ (j < i ∨ xs.length ≤ j + i) by omega)]
     by_cases e1 : p = i
     ·rw [if_pos e1, if_pos (by omega), show xs.length - 1 - p = j by omega]
     ·rw [if_neg e1]
      by_cases e2 : p = j
      ·rw [if_pos e2, if_pos (by omega), show xs.length - 1 - p = i by omega]
      ·rw [if_neg e2]
       by_cases e3 : p < i ∨ xs.length ≤ p + i
       ·rw [if_pos e3, if_pos (by omega)]
       ·rw [if_neg e3, if_neg (by omega)])
    rw [ej]
    refine Ev.step (f := fun k => wide_Text.l1 k ((ys.set i (ys.getD j 0)).set j (ys.getD i 0)) ((i + 1 : Nat) : Int) ((xs.length : Int) - 1 - ((i + 1 : Nat) : Int))) (fun k => ?_) hst
    simp only [wide_Text.l1]
    rw [if_pos (by omega), if_pos (by omega), if_pos (by omega), if_pos (by omega), if_pos (by omega), w64 (x := (i : Int) + 1) (by omega) (by omega), w64 (x := (j : Int) - 1) (by omega) (by omega), show (j : Int) - 1 = (xs.length : Int) - 1 - ((i + 1 : Nat) : Int) by omega, rd_getD, rd_getD]
    rfl
theorem rev_ev (xs : List Int) (hx : xs.length ≤ 100000) : Ev (fun k => wide_Text.j1 k xs) (strOfNums xs.reverse) := by
 have h := rev_loop xs hx xs.length 0 xs (by omega) rfl (by omega) (fun p hp => by rw [if_neg (by omega)])
 refine Ev.step (f := fun k => wide_Text.l1 k xs ((0 : Nat) : Int) ((xs.length : Int) - 1 - ((0 : Nat) : Int))) (fun k => ?_) h
 simp only [wide_Text.j1]
 rw [w64 (x := (xs.length : Int) - 1) (by omega) (by omega)]
 simp
theorem divide_spl {u v : Int} (hu0 : 0 ≤ u) (hu1 : u < top4) (hv0 : 0 < v) (hv1 : v < top4) : wide_divide.f (spl0 u) (spl1 u) (spl2 u) (spl3 u) (spl0 v) (spl1 v) (spl2 v) (spl3 v) = some (spl0 (u / v), spl1 (u / v), spl2 (u / v), spl3 (u / v), spl0 (u % v), spl1 (u % v), spl2 (u % v), spl3 (u % v)) := by
 show wide_divide_f _ _ _ _ _ _ _ _ = _
 unfold wide_divide_f
 rw [val4_spl hu0 hu1, val4_spl (by omega) hv1, if_pos ⟨u4_spl u, u4_spl v, hv0⟩]
/-- The program's digits, the last one first. -/
theorem wtext_loop (m : Bool) (a b c d : Int) : ∀ (j : Nat) (w : Int) (acc : List Int), 0 ≤ w → w < 10 ^ j → w < top4 → acc.length + j ≤ 1000 →
  ∃ F, isD F = true ∧ valD F = w ∧ (w ≠ 0 → F.head? ≠ some 48 ∧ F ≠ []) ∧ (w = 0 → F = []) ∧ F.length ≤ j ∧ Ev (fun k => wide_Text.l0 k acc m a b c d (spl0 w) (spl1 w) (spl2 w) (spl3 w)) (strOfNums (acc ++ F.reverse ++ (if m then [45] else [])).reverse) := by
 have hend : ∀ (acc : List Int), acc.length ≤ 1000 → Ev (fun k => wide_Text.l0 k acc m a b c d (spl0 0) (spl1 0) (spl2 0) (spl3 0)) (strOfNums (acc ++ ([] : List Int).reverse ++ (if m then [45] else [])).reverse) := by
  intro acc hl
  rw [List.reverse_nil, List.append_nil]
  cases m
  ·refine Ev.step (f := fun k => wide_Text.j1 k acc) (fun k => ?_) (by simpa using rev_ev acc (by omega))
   simp only [wide_Text.l0]
   rw [none_spl (by decide) (by decide)]
   rfl
  ·refine Ev.step (f := fun k => wide_Text.j1 k (acc ++ [45])) (fun k => ?_) (rev_ev (acc ++ [45]) (by simp; omega))
   simp only [wide_Text.l0]
   rw [none_spl (by decide) (by decide)]
   simp only [Option.bind_some, decide_true, if_true]
   rw [if_pos (by omega)]
 intro j
 induction j with
 | zero =>
  intro w acc h0 h1 h2 hl
  have hw : w = 0 := by rw [Int.pow_zero] at h1; omega
  subst hw
  exact ⟨[], rfl, rfl, fun h => absurd rfl h, fun _ => rfl, by simp, hend acc (by omega)⟩
 | succ j ih =>
  intro w acc h0 h1 h2 hl
  by_cases hw : w = 0
  ·subst hw
   exact ⟨[], rfl, rfl, fun h => absurd rfl h, fun _ => rfl, by simp, hend acc (by omega)⟩
  ·obtain ⟨F, hF, hv, hq, hz, hlen, hev⟩ := ih (w / 10) (acc ++ [48 + w % 10]) (by omega) (by rw [Int.pow_succ] at h1; omega) (by omega) (by simp; omega)
   refine ⟨F ++ [48 + w % 10], by rw [isD_snoc, hF]; simp; omega, by rw [valD_snoc, hv]; omega, fun _ => ⟨?_, by simp⟩, fun h => absurd h hw, by simp; omega, ?_⟩
   ·by_cases hz0 : w / 10 = 0
    ·rw [hz hz0]
     simp
     omega
    ·have h3 := hq hz0
     cases hFF : F with
     | nil => exact absurd hFF h3.2
     | cons x t => rw [hFF] at h3; simpa using h3.1
   ·have hd : wide_divide.f (spl0 w) (spl1 w) (spl2 w) (spl3 w) 10 0 0 0 = some (spl0 (w / 10), spl1 (w / 10), spl2 (w / 10), spl3 (w / 10), spl0 (w % 10), spl1 (w % 10), spl2 (w % 10), spl3 (w % 10)) := divide_spl (v := 10) h0 h2 (by decide) (by decide)
    have h5 : IntKind.u64.wrap (48 + spl0 (w % 10)) % 256 = 48 + w % 10 := by
     have hs : spl0 (w % 10) = w % 10 := by unfold spl0; omega
     have hw' : IntKind.u64.wrap (48 + w % 10) = (48 + w % 10) % 18446744073709551616 := rfl
     rw [hs, hw']
     omega
    refine Ev.step (f := fun k => wide_Text.l0 k (acc ++ [48 + w % 10]) m a b c d (spl0 (w / 10)) (spl1 (w / 10)) (spl2 (w / 10)) (spl3 (w / 10))) (fun k => ?_) (by
     rw [show acc ++ (F ++ [48 + w % 10]).reverse = acc ++ [48 + w % 10] ++ F.reverse by simp]
     exact hev)
    simp only [wide_Text.l0]
    rw [none_spl h0 h2]
    simp only [Option.bind_some]
    rw [if_neg (by simpa using hw), hd]
    simp only [Option.bind_some]
    rw [if_pos (by omega), h5]
theorem top4_pow10 : top4 < 10 ^ 78 := by decide
/-- A number's text. -/
theorem wtext_ev (m : Bool) {v : Int} (h0 : 0 ≤ v) (h1 : v < top4) : ∃ D t, Ev (fun k => wide_Text.f k m (spl0 v) (spl1 v) (spl2 v) (spl3 v)) t ∧ bytesOf t = txt (sv m v) D ∧ CanD D v ∧ t.size ≤ 100 := by
 by_cases hv : v = 0
 ·subst hv
  refine ⟨[48], ⟨#[48]⟩, Ev.congr (f := fun _ => some ⟨#[48]⟩) (fun k => ?_) (Ev.now _), by cases m <;> rfl, ⟨by decide, rfl, by simp, fun _ => rfl⟩, by decide⟩
  unfold wide_Text.f
  rw [none_spl (by decide) (by decide)]
  rfl
 ·obtain ⟨F, hF, hvF, hq, _, hlen, hev⟩ := wtext_loop m (spl0 v) (spl1 v) (spl2 v) (spl3 v) 78 v [] h0 (by have := top4_pow10; omega) h1 (by decide)
  have hq := hq hv
  have hby : ∀ x ∈ (([] : List Int) ++ F.reverse ++ (if m then [45] else [])).reverse, 0 ≤ x ∧ x ≤ 255 := by
   intro x hx
   simp only [List.nil_append, List.mem_reverse, List.mem_append] at hx
   rcases hx with hx | hx
   ·unfold isD at hF
    rw [List.all_eq_true] at hF
    have := hF x hx
    simp at this
    omega
   ·cases m
    ·simp at hx
    ·simp at hx; omega
  have hb := bytes_nums _ hby
  refine ⟨F, _, Ev.congr (fun k => ?_) hev, ?_, ⟨hF, hvF, hq.2, fun h => absurd h hq.1⟩, ?_⟩
  ·unfold wide_Text.f
   rw [none_spl h0 h1]
   simp only [Option.bind_some]
   rw [if_neg (by simpa using hv)]
  ·rw [hb]
   unfold txt sv
   cases m
   ·simp
    omega
   ·simp
    omega
  ·rw [← bytesOf_length, hb]
   cases m <;> simp <;> omega
end Go.Proofs.Ytmpbbodafenonaa

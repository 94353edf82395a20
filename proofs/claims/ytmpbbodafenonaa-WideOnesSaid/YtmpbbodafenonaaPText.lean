/- Plain words on the numbers of any greatness, as the given program's Lean functions tell them: their decimal text. -/
import Derived.Test.YtmpbbodafenonaaNumSpec
import Derived.Test.YtmpbbodafenonaaPNum2
import Derived.Test.YtmpbbodafenonaaMT21
import Derived.Test.YtmpbbodafenonaaMT22
set_option linter.unusedVariables false
set_option linter.unusedSimpArgs false
namespace Go.Proofs.Ytmpbbodafenonaa
open Go Go.RowKit Go.Proofs.Ytmpbbodafenonaa.MT Go.Proofs.YtmpbbodafenonaaW.PrintWords Go.Proofs.YtmpbbodafenonaaW.PrintLast

theorem drop_set {o : List Int} {n : Nat} (v : Int) (h : n < o.length) : (o.set n v).drop n = v :: o.drop (n + 1) := by
 rw [List.drop_eq_getElem_cons (by simpa using h)]
 simp [List.drop_set]
theorem tenth_loop (l : List Int) (hD : Dig l) (hl : l.length ≤ 1000000) : ∀ (n : Nat) (o : List Int) (left : Int), n ≤ l.length → o.length = l.length → Dig o → 0 ≤ left → left ≤ 9 → val (l.drop n) = 10 * val (o.drop n) + left →
  ∃ r : Bool × List Int, Ev (fun k => parquetref01_tenth.l0 k l o left ((n : Int) - 1)) (r.2, val l % 10) ∧ NumP l.length r.1 r.2 (val l / 10) := by
 intro n
 induction n with
 | zero =>
  intro o left hn ho hO h0 h1 hv
  simp only [List.drop_zero] at hv
  obtain ⟨r, hr, hN⟩ := trim_ev false o hO (by omega)
  rw [ho] at hN
  simp only [Bool.false_eq_true, if_false] at hN
  have e1 : val l / 10 = val o := by omega
  have e2 : val l % 10 = left := by omega
  rw [e1, e2]
  refine ⟨r, Ev.step (f := fun k => (parquetref01_trim.f k false o).bind fun bt => some (bt.2, left)) (fun k => ?_) (Ev.bind hr (Ev.now _)), hN⟩
  simp only [parquetref01_tenth.l0]
  rw [if_neg (by omega)]
 | succ n ih =>
  intro o left hn ho hO h0 h1 hv
  have gd := hD.at_ n
  have e : ((n + 1 : Nat) : Int) - 1 = (n : Int) := by omega
  rw [e]
  obtain ⟨x, hx⟩ : ∃ x, x = left * 65536 + l.getD n 0 := ⟨_, rfl⟩
  obtain ⟨r, hr, hN⟩ := ih (o.set n (x / 10)) (x % 10) (by omega) (by simpa using ho) (hO.set _ (by omega)) (by omega) (by omega) (by
   rw [drop_set _ (by omega), val, val_drop (by omega), hv]
   omega)
  refine ⟨r, Ev.step (f := fun k => parquetref01_tenth.l0 k l (o.set n (x / 10)) (x % 10) ((n : Int) - 1)) (fun k => ?_) hr, hN⟩
  have g1 : (n : Int) ≥ 0 := by omega
  have g2 : (0 : Int) ≤ (n : Int) := by omega
  have g3 : (n : Int) < (l.length : Int) := by omega
  have g4 : (n : Int) < (o.length : Int) := by omega
  clear hv ih hr hN
  simp only [parquetref01_tenth.l0, rd_getD]
  rw [if_pos g1, if_pos g2, if_pos g3, if_pos g4, w64 (x := left * 65536) (by omega) (by omega), w64 (x := left * 65536 + l.getD n 0) (by omega) (by omega), ← hx, Int.tmod_eq_emod_of_nonneg (by omega), Int.tdiv_eq_ediv_of_nonneg (by omega), w64 (x := x / 10) (by omega) (by omega), w64 (x := (n : Int) - 1) (by omega) (by omega), Int.toNat_natCast]
theorem tenth_ev (l : List Int) (hD : Dig l) (hl : l.length ≤ 1000000) : ∃ r : Bool × List Int, Ev (fun k => parquetref01_tenth.f k l) (r.2, val l % 10) ∧ NumP l.length r.1 r.2 (val l / 10) := by
 obtain ⟨r, hr, hN⟩ := tenth_loop l hD hl l.length (List.replicate l.length 0) 0 (Nat.le_refl _) (by simp) (fun d h => by rw [List.mem_replicate] at h; omega) (by omega) (by omega) (by
  rw [List.drop_of_length_le (Nat.le_refl _), List.drop_of_length_le (by simp)]; simp [val])
 refine ⟨r, Ev.congr (fun k => ?_) hr, hN⟩
 unfold parquetref01_tenth.f
 rw [if_pos (by omega), if_pos (by rw [Int.toNat_natCast]; omega), w64 (by omega) (by omega), Int.toNat_natCast]
theorem bytes_append (a b : ByteArray) : bytesOf (a ++ b) = bytesOf a ++ bytesOf b := by simp [bytesOf]
theorem bytes_one (x : Int) (h : 0 ≤ x ∧ x ≤ 255) : bytesOf (strOfNums [x]) = [x] := by
 obtain ⟨n, rfl⟩ := Int.eq_ofNat_of_zero_le h.1
 simp [bytesOf, strOfNums]
 omega
theorem size_one (x : Int) (h : 0 ≤ x ∧ x ≤ 255) : (strOfNums [x]).size = 1 := by
 rw [← bytesOf_length, bytes_one x h]
 rfl
theorem isD_append {a b : List Int} (ha : isD a = true) (hb : isD b = true) : isD (a ++ b) = true := by simp [isD] at *; exact ⟨ha, hb⟩
/-- A decimal text's digits. -/
theorem text_loop (b : Bool) (l0 : List Int) : ∀ (j : Nat) (E : ByteArray) (l : List Int) (z : Int), NumP 1000000 false l z → z < 10 ^ j → E.size + j ≤ 1000000 →
  ∃ F s, Ev (fun k => parquetref01_Num_Text.l0 k E l b l0) s ∧ bytesOf s = (if b then [45] else []) ++ (F ++ bytesOf E) ∧ isD F = true ∧ valD F = z ∧ (z ≠ 0 → F.head? ≠ some 48 ∧ F ≠ []) ∧ (z = 0 → F = []) := by
 have hend : ∀ (E : ByteArray) (l : List Int), l = [] → E.size ≤ 1000000 → ∃ F s, Ev (fun k => parquetref01_Num_Text.l0 k E l b l0) s ∧ bytesOf s = (if b then [45] else []) ++ (F ++ bytesOf E) ∧ isD F = true ∧ valD F = 0 ∧ ((0 : Int) ≠ 0 → F.head? ≠ some 48 ∧ F ≠ []) ∧ ((0 : Int) = 0 → F = []) := by
  rintro E l rfl hE
  refine ⟨[], if b then (⟨#[45]⟩ : ByteArray) ++ E else E, Ev.step (f := fun _ => some (if b then (⟨#[45]⟩ : ByteArray) ++ E else E)) (fun k => ?_) (Ev.now _), ?_, rfl, rfl, fun h => absurd rfl h, fun _ => rfl⟩
  ·simp only [parquetref01_Num_Text.l0]
   rw [if_neg (by simp)]
   cases b
   ·simp
   ·rw [if_pos rfl, if_pos (by omega), if_pos rfl]
  ·cases b
   ·simp
   ·rw [if_pos rfl, if_pos rfl, bytes_append]
    rfl
 intro j
 induction j with
 | zero =>
  intro E l z hN hz hE
  obtain ⟨d, n, m, v, e⟩ := hN
  have h0 := val_nonneg d
  simp at v hz
  have hz0 : val l = 0 := by omega
  rw [v, hz0]
  exact hend E l (val_zero d n hz0) (by omega)
 | succ j ih =>
  intro E l z hN hz hE
  obtain ⟨d, n, m, v, e⟩ := hN
  have h0 := val_nonneg d
  simp only [Bool.false_eq_true, if_false] at v
  by_cases hz0 : val l = 0
  ·rw [v, hz0]
   exact hend E l (val_zero d n hz0) (by omega)
  ·obtain ⟨r, hr, hR⟩ := tenth_ev l d e
   have hr1 : r.1 = false := by
    cases h : r.1 with
    | false => rfl
    | true =>
     obtain ⟨d', n', m', v', e'⟩ := hR
     rw [h] at v'
     have := val_pos d' n' (m' h)
     simp only [if_true] at v'
     omega
   rw [hr1] at hR
   have hc : 0 ≤ (48 + val l % 10) ∧ (48 + val l % 10) ≤ 255 := by omega
   have hE2 : (strOfNums [48 + val l % 10] ++ E).size = 1 + E.size := by rw [ByteArray.size_append, size_one _ hc]
   obtain ⟨F, s, hs, hb, hF, hv, hp, hq⟩ := ih (strOfNums [48 + val l % 10] ++ E) r.2 (val l / 10) (hR.mono e) (by rw [Int.pow_succ] at hz; omega) (by omega)
   rw [bytes_append, bytes_one _ hc] at hb
   refine ⟨F ++ [48 + val l % 10], s, ?_, ?_, isD_append hF (by simp [isD]; omega), ?_, fun _ => ⟨?_, by simp⟩, fun h => absurd (by omega) hz0⟩
   ·have hlen : 0 < l.length := List.length_pos_iff.2 (fun h => hz0 (by rw [h]; rfl))
    have g1 : (l.length : Int) > 0 := by omega
    refine Ev.step (f := fun k => (parquetref01_tenth.f k l).bind fun bt => ((some ([(wrap64 (48 + bt.2)) % 256] : List Int)).bind fun y => (if (strOfNums y).size + E.size ≤ 9223372036854775807 then (parquetref01_Num_Text.l0 k ((strOfNums y) ++ E) bt.1 b l0) else none))) (fun k => ?_) (Ev.bind hr (Ev.congr (f := fun k => parquetref01_Num_Text.l0 k (strOfNums [48 + val l % 10] ++ E) r.2 b l0) (fun k => ?_) hs))
    ·simp only [parquetref01_Num_Text.l0]
     rw [if_pos g1]
    ·simp only [Option.bind_some]
     rw [w64 (x := 48 + val l % 10) (by omega) (by omega), show (48 + val l % 10) % 256 = 48 + val l % 10 by omega, size_one _ hc, if_pos (by omega)]
   ·rw [hb, List.append_assoc]
   ·rw [valD_snoc, hv]
    omega
   ·by_cases hq0 : val l / 10 = 0
    ·rw [hq hq0]
     simp
     omega
    ·have h1 := hp hq0
     intro h2
     apply h1.1
     cases F with
     | nil => exact absurd rfl h1.2
     | cons a t => simpa using h2
/-- A number's text. -/
theorem text_ev {L : Nat} {b : Bool} {l : List Int} {z : Int} (h : NumP L b l z) (hL : L ≤ 1000000) (j : Nat) (hj : z < 10 ^ j) (hj' : -(10 : Int) ^ j < z) (hj1 : j ≤ 1000000) :
  ∃ D s, Ev (fun k => parquetref01_Num_Text.f k b l) s ∧ bytesOf s = (if z < 0 then 45 :: D else D) ∧ isD D = true ∧ valD D = (z.natAbs : Int) ∧ D ≠ [] ∧ (D.head? = some 48 → D = [48]) := by
 obtain ⟨d, n, m, v, e⟩ := h
 cases hl : l with
 | nil =>
  subst hl
  have hz : z = 0 := by rw [v]; cases b <;> simp [val]
  subst hz
  refine ⟨[48], ⟨#[48]⟩, Ev.congr (f := fun _ => some ⟨#[48]⟩) (fun k => ?_) (Ev.now _), rfl, by decide, rfl, by simp, fun _ => rfl⟩
  unfold parquetref01_Num_Text.f
  rw [if_pos (by simp)]
 | cons a t =>
  rw [← hl]
  have hp := val_pos d n (by rw [hl]; simp)
  have h0 := val_nonneg d
  obtain ⟨F, s, hs, hb, hF, hv, hq, _⟩ := text_loop b l j ⟨#[]⟩ l (val l) ⟨d, n, (fun h => by cases h), rfl, by omega⟩ (by
   rw [v] at hj hj'
   cases b <;> simp at hj hj' <;> omega) (by show 0 + j ≤ _; omega)
  have hq := hq (by omega)
  have hzb : (z < 0) ↔ b = true := by
   rw [v]
   cases b <;> simp <;> omega
  refine ⟨F, s, Ev.congr (fun k => ?_) hs, ?_, hF, ?_, hq.2, fun h => absurd h hq.1⟩
  ·unfold parquetref01_Num_Text.f
   rw [if_neg (by rw [hl]; simp; omega)]
  ·rw [hb]
   cases b
   ·have e1 : (if z < 0 then 45 :: F else F) = F := if_neg (fun h => by cases hzb.1 h)
    rw [e1]
    simp [bytesOf]
   ·have e1 : (if z < 0 then 45 :: F else F) = 45 :: F := if_pos (hzb.2 rfl)
    rw [e1]
    simp [bytesOf]
  ·rw [hv, v]
   cases b <;> simp <;> omega
end Go.Proofs.Ytmpbbodafenonaa

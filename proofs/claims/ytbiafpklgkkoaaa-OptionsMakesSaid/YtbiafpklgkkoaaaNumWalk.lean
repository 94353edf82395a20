/- The walk of token.Number. -/
import Derived.Test.YtbiafpklgkkoaaaTokWalk1
import Derived.Test.YtbiafpklgkkoaaaNumSpec
import Derived.Laws.RangeAny
import Derived.Lib.Hide
import Derived.Outline
import Derived.WalkSpells
set_option linter.unusedVariables false
set_option linter.unusedSimpArgs false
namespace Go.Proofs.Ytbiafpklgkkoaaa
open Go Go.Proofs Go.RowKit Go.Shelf Go.Proofs.YtbiafpklgkkoaaaW.PrintWords

theorem bytesOf_take_succ (s : ByteArray) (k : Nat) (h : k < s.size) : (bytesOf s).take (k + 1) = (bytesOf s).take k ++ [((s[k]'h).toNat : Int)] := by
  have h' : k < (bytesOf s).length := by rw [bytesOf_length]; exact h
  rw [List.take_succ_eq_append_getElem h']
  congr 2
  simp [bytesOf]
  rfl
theorem isD_take_byte {s : ByteArray} {k : Nat} (h : k < s.size) (hb : ¬ (48 ≤ (s[k]'h).toNat ∧ (s[k]'h).toNat ≤ 57)) : isD (bytesOf s) = false := by
  cases hd : isD (bytesOf s) with
  | false => rfl
  | true =>
    have h1 : isD ((bytesOf s).take (k + 1) ++ (bytesOf s).drop (k + 1)) = true := by rw [List.take_append_drop]; exact hd
    have h2 := (isD_of_prefix h1).1
    rw [bytesOf_take_succ s k h, isD_snoc] at h2
    simp at h2
    omega
theorem far_take {s : ByteArray} {most : Int} (k : Nat) (hd : isD (bytesOf s) = true) (hf : farD most ((bytesOf s).take k) = true) : farD most (bytesOf s) = true := by
  have h1 := valD_mono (l := (bytesOf s).take k) (m := (bytesOf s).drop k) (by rw [List.take_append_drop]; exact hd)
  rw [List.take_append_drop] at h1
  simp [farD] at hf ⊢
  omega

/-- What holds at the loop's head. -/
def NumInv (w : World) (ds : ByteArray) (most : Int) (v8 v9 : Value) (W : World) : Prop :=
  ∃ (k : Nat) (n : Int), k ≤ ds.size ∧ W = w.iter ds k ∧ isD ((bytesOf ds).take k) = true ∧ v9 = .bool (farD most ((bytesOf ds).take k)) ∧ v8 = .int .i64 n ∧ 0 ≤ n ∧
    (farD most ((bytesOf ds).take k) = false → n = valD ((bytesOf ds).take k))



theorem farD_nil (most : Int) (l : List Int) : farD most (l.take 0) = decide (most < 0) := by
  unfold farD
  rw [show l.take 0 = [] from rfl, show valD [] = 0 from rfl, Bool.or_self]
theorem numS_bad {l : List Int} {most : Int} (h : digsOf l = [] ∨ ((digsOf l).head? = some 48 ∧ l ≠ [48]) ∨ isD (digsOf l) = false) : numS l most = (0, 11) := by
  unfold numS; rw [if_pos h]
theorem numS_far {l : List Int} {most : Int} (h : ¬ (digsOf l = [] ∨ ((digsOf l).head? = some 48 ∧ l ≠ [48]) ∨ isD (digsOf l) = false)) (hf : farD most (digsOf l) = true) : numS l most = (0, 10) := by
  unfold numS; rw [if_neg h, if_pos hf]
theorem numS_ok {l : List Int} {most : Int} (h : ¬ (digsOf l = [] ∨ ((digsOf l).head? = some 48 ∧ l ≠ [48]) ∨ isD (digsOf l) = false)) (hf : farD most (digsOf l) = false) : numS l most = (if l.head? = some 45 then -valD (digsOf l) else valD (digsOf l), 0) := by
  unfold numS; rw [if_neg h, hf]; rfl
theorem bytesOf_head (s : ByteArray) (h : 0 < s.size) : (bytesOf s).head? = some ((s[0]'h).toNat : Int) := by
  rw [List.head?_eq_getElem?, List.getElem?_eq_getElem (by rw [bytesOf_length]; exact h)]
  simp [bytesOf]
  rfl
theorem bytesOf_tail (s : ByteArray) : bytesOf (s.extract 1 s.size) = (bytesOf s).tail := by
  simp [bytesOf]
  refine List.take_of_length_le ?_
  have h1 : s.data.toList.length = s.size := by rw [Array.length_toList]; rfl
  simp only [List.length_tail, List.length_map, h1]
  exact Nat.le_refl _
theorem not_nil_toList (s : ByteArray) (h : 0 < s.size) : s.toList.isEmpty = false := by
  rw [ByteArray.toList_eq]
  have h1 : s.data.toList.length = s.size := by rw [Array.length_toList]; rfl
  cases hs : s.data.toList with
  | nil => rw [hs] at h1; simp at h1; omega
  | cons a t => rfl

set_option maxHeartbeats 8000000 in
set_option maxRecDepth 100000 in
theorem number_plus (s : ByteArray) (most : Int) (w : World) (h0 : 0 < s.size) (h1 : s.size ≤ 9223372036854775807) (hm1 : most ≤ 9223372036854775807) (hm0 : -9223372036854775808 ≤ most)
    (h45 : (((s[0]'h0).toNat : Int) == 45) = false) (h48 : (((s[0]'h0).toNat : Int) == 48) = false) :
    Calls Try.prog 24 #[.string s, .int .i64 most] w fun e w' => e = .returned (.tuple #[.int .i64 (numS (bytesOf s) most).1, .int .i64 (numS (bytesOf s) most).2]) ∧ Below w.heap.size w w' := by
  have hE := not_nil_toList s h0
  have hE2 : ¬ s.toList = [] := by intro h; rw [h] at hE; cases hE
  have hh := bytesOf_head s h0
  have H45 : Hid (¬ (bytesOf s).head? = some 45) := Lib.hid (by rw [hh]; simpa using h45)
  have HDG : Hid (digsOf (bytesOf s) = bytesOf s) := Lib.hid (by unfold digsOf; rw [if_neg H45.out])
  have HNE : Hid (¬ bytesOf s = []) := Lib.hid (by intro h; rw [h] at hh; cases hh)
  have H48 : Hid (¬ ((bytesOf s).head? = some 48 ∧ bytesOf s ≠ [48])) := Lib.hid (by rw [hh]; intro h; simp at h h48; omega)
  clear hh
  have hB0 : Hid (isD (bytesOf (s)) = false → numS (bytesOf s) most = (0, 11)) := Lib.hid fun h => numS_bad (.inr (.inr (by rw [HDG.out]; exact h)))
  have hBad := hB0
  have hNo : Hid (isD (bytesOf (s)) = true → ¬ (digsOf (bytesOf s) = [] ∨ ((digsOf (bytesOf s)).head? = some 48 ∧ bytesOf s ≠ [48]) ∨ isD (digsOf (bytesOf s)) = false)) := Lib.hid fun h => by
    rintro (h' | h' | h')
    · rw [HDG.out] at h'; exact HNE.out h'
    · rw [HDG.out] at h'; exact H48.out h'
    · rw [HDG.out, h] at h'; cases h'
  have hFar : Hid (isD (bytesOf (s)) = true → farD most (bytesOf (s)) = true → numS (bytesOf s) most = (0, 10)) := Lib.hid fun h hf => numS_far (hNo.out h) (by rw [HDG.out]; exact hf)
  have hOk : Hid (isD (bytesOf (s)) = true → farD most (bytesOf (s)) = false → numS (bytesOf s) most = (valD (bytesOf (s)), 0)) := Lib.hid fun h hf => by
    rw [numS_ok (hNo.out h) (by rw [HDG.out]; exact hf), HDG.out, if_neg H45.out]
  go_enter Try.func24, Try.ntmps24
  go_wp2
  go_loopw [8, 9] (fun v8 v9 W => NumInv w s most v8 v9 W) (fun _ _ W => s.size - W.iterPos w.heap.size)
  case atStart => exact ⟨0, 0, Nat.zero_le _, rfl, rfl, (by rw [farD_nil]), rfl, Int.le_refl _, fun _ => rfl⟩
  case round =>
    obtain ⟨k, n, hk, rfl, hD, rfl, rfl, hn0, hnv⟩ := hrel
    by_cases hlt : k < s.size
    · have hbt := s[k].toNat_lt
      by_cases hdig : 48 ≤ s[k].toNat ∧ s[k].toNat ≤ 57
      · obtain ⟨hd1, hd2⟩ := hdig
        have hnx := fun ty => run_next_ascii (P := Try.prog) w s k ty hlt (by omega)
        have htk := Lib.hid (bytesOf_take_succ s k hlt)
        have hDn : Hid (isD ((bytesOf s).take (k + 1)) = true) := Lib.hid (by rw [htk.out, isD_snoc, hD]; simp; omega)
        obtain ⟨b, hb⟩ : ∃ b : Nat, b = s[k].toNat := ⟨_, rfl⟩
        rw [← hb] at hnx htk hd1 hd2 hbt
        have HB := Lib.hid hb
        clear hb
        have HD := Lib.hid hD
        clear hD
        cases hf : farD most ((bytesOf s).take k) with
        | true =>
          have hfn : Hid (farD most ((bytesOf s).take (k + 1)) = true) := Lib.hid (by
            have h1 := valD_mono (l := (bytesOf s).take k) (m := [(b : Int)]) (by rw [← htk.out]; exact hDn.out)
            rw [htk.out]
            simp [farD] at hf ⊢
            omega)
          clear hnv
          go_wp2
          go_roundw
          case rel => exact ⟨k + 1, n, by omega, rfl, hDn.out, by rw [hfn.out], rfl, hn0, fun h => by rw [hfn.out] at h; cases h⟩
          case measure => rw [World.iterPos_iter, World.iterPos_iter]; omega
        | false =>
          have hnv' := Lib.hid (hnv hf)
          clear hnv
          have hm : 0 ≤ most := by simp [farD] at hf; omega
          have hnm : n ≤ most := by have := hnv'.out; simp [farD] at hf; omega
          have hstep := Lib.hid (far_step (most := most) (n := n) (d := (b : Int) - 48) hm hn0 (by omega))
          have hfe : Hid (farD most ((bytesOf s).take (k + 1)) = decide (most < 10 * n + ((b : Int) - 48))) := Lib.hid (by
            rw [htk.out, farD, valD_snoc, ← hnv'.out]
            have h1 : decide (most < 0) = false := by simpa using hm
            rw [h1, Bool.false_or])
          by_cases ht : (most - ((b : Int) - 48)).tdiv 10 < n
          · have hft : Hid (farD most ((bytesOf s).take (k + 1)) = true) := Lib.hid (by rw [hfe.out]; simpa using hstep.out.1 (.inl ht))
            go_wp2
            go_roundw
            case rel => exact ⟨k + 1, n, by omega, rfl, hDn.out, by rw [hft.out], rfl, hn0, fun h => by rw [hft.out] at h; cases h⟩
            case measure => rw [World.iterPos_iter, World.iterPos_iter]; omega
          · by_cases ht2 : most < (b : Int) - 48
            · have hft : Hid (farD most ((bytesOf s).take (k + 1)) = true) := Lib.hid (by rw [hfe.out]; simpa using hstep.out.1 (.inr ht2))
              go_wp2
              go_roundw
              case rel => exact ⟨k + 1, n, by omega, rfl, hDn.out, by rw [hft.out], rfl, hn0, fun h => by rw [hft.out] at h; cases h⟩
              case measure => rw [World.iterPos_iter, World.iterPos_iter]; omega
            · have hft : Hid (farD most ((bytesOf s).take (k + 1)) = false) := Lib.hid (by
                rw [hfe.out]
                have h1 : ¬ most < 10 * n + ((b : Int) - 48) := fun h => (hstep.out.2 h).elim ht ht2
                simpa using h1)
              have hle : 10 * n + ((b : Int) - 48) ≤ most := by
                have h1 : ¬ most < 10 * n + ((b : Int) - 48) := fun h => (hstep.out.2 h).elim ht ht2
                omega
              have hte : decide ((most - ((b : Int) - 48)) / 10 < n) = false := by
                rw [Int.tdiv_eq_ediv_of_nonneg (by omega)] at ht
                simpa using ht
              go_wp2
              go_roundw
              case rel => exact ⟨k + 1, 10 * n + ((b : Int) - 48), by omega, rfl, hDn.out, by rw [hft.out], rfl, by omega, fun _ => by rw [htk.out, valD_snoc, ← hnv'.out]⟩
              case measure => rw [World.iterPos_iter, World.iterPos_iter]; omega
      · have hbad := hBad.out (isD_take_byte hlt hdig)
        have HBAD := Lib.hid hbad
        clear hbad
        by_cases h128 : s[k].toNat < 128
        · have hnx := fun ty => run_next_ascii (P := Try.prog) w s k ty hlt h128
          obtain ⟨b, hb⟩ : ∃ b : Nat, b = s[k].toNat := ⟨_, rfl⟩
          rw [← hb] at hnx hdig hbt
          clear hb h128
          by_cases hl : b < 48
          · go_wp2
            go_ret2
            exact ⟨by rw [HBAD.out]; rfl, (Below.refl _ _).alloc (Nat.le_refl _) _⟩
          · have hl2 : 57 < b := by omega
            go_wp2
            go_ret2
            exact ⟨by rw [HBAD.out]; rfl, (Below.refl _ _).alloc (Nat.le_refl _) _⟩
        · have hnx := fun ty => run_next_any (P := Try.prog) w s k ty hlt
          have hr := (decode_high s k hlt (by omega)).1
          generalize Utf8.decode s k = rp at hnx hr
          obtain ⟨r, rl⟩ := rp
          dsimp only at hnx hr
          go_wp2
          go_ret2
          exact ⟨by rw [HBAD.out]; rfl, (Below.refl _ _).alloc (Nat.le_refl _) _⟩
    · obtain rfl : k = s.size := by omega
      have htk : (bytesOf s).take s.size = bytesOf s := List.take_of_length_le (by rw [bytesOf_length]; exact Nat.le_refl _)
      rw [htk] at hD hnv ⊢
      have hnx := fun ty => run_next_end (P := Try.prog) w s s.size ty (Nat.lt_irrefl _)
      have HD := Lib.hid hD
      clear hD htk
      cases hf : farD most (bytesOf s) with
      | true =>
        have HR := Lib.hid (hFar.out HD.out hf)
        clear hnv
        go_wp2
        go_ret2
        exact ⟨by rw [HR.out]; rfl, (Below.refl _ _).alloc (Nat.le_refl _) _⟩
      | false =>
        have HR := Lib.hid (hOk.out HD.out hf)
        have hnv' := Lib.hid (hnv hf)
        clear hnv
        have hm : 0 ≤ most := by simp [farD] at hf; omega
        have hnm : n ≤ most := by have := hnv'.out; simp [farD] at hf; omega
        go_wp2
        go_ret2
        exact ⟨by rw [HR.out, ← hnv'.out]; rfl, (Below.refl _ _).alloc (Nat.le_refl _) _⟩
set_option maxHeartbeats 8000000 in
set_option maxRecDepth 100000 in
theorem number_zero (s : ByteArray) (most : Int) (w : World) (h0 : 0 < s.size) (h1 : s.size ≤ 9223372036854775807) (hm1 : most ≤ 9223372036854775807) (hm0 : -9223372036854775808 ≤ most)
    (hs : s = ⟨#[48]⟩) :
    Calls Try.prog 24 #[.string s, .int .i64 most] w fun e w' => e = .returned (.tuple #[.int .i64 (numS (bytesOf s) most).1, .int .i64 (numS (bytesOf s) most).2]) ∧ Below w.heap.size w w' := by
  have hE := not_nil_toList s h0
  have hE2 : ¬ s.toList = [] := by intro h; rw [h] at hE; cases hE
  have hh : bytesOf s = [48] := by rw [hs]; rfl
  have H45 : Hid (¬ (bytesOf s).head? = some 45) := Lib.hid (by rw [hh]; simp)
  have HDG : Hid (digsOf (bytesOf s) = bytesOf s) := Lib.hid (by unfold digsOf; rw [if_neg H45.out])
  have HNE : Hid (¬ bytesOf s = []) := Lib.hid (by rw [hh]; simp)
  have H48 : Hid (¬ ((bytesOf s).head? = some 48 ∧ bytesOf s ≠ [48])) := Lib.hid (by rw [hh]; simp)
  have h45 : (((s[0]'h0).toNat : Int) == 45) = false := by subst hs; rfl
  have h48 : ((s[0]'h0).toNat : Int) = 48 := by subst hs; rfl
  have hnot : (!s.toList == [48]) = false := by rw [ByteArray.toList_eq, hs]; rfl
  clear hh hs
  have hB0 : Hid (isD (bytesOf (s)) = false → numS (bytesOf s) most = (0, 11)) := Lib.hid fun h => numS_bad (.inr (.inr (by rw [HDG.out]; exact h)))
  have hBad := hB0
  have hNo : Hid (isD (bytesOf (s)) = true → ¬ (digsOf (bytesOf s) = [] ∨ ((digsOf (bytesOf s)).head? = some 48 ∧ bytesOf s ≠ [48]) ∨ isD (digsOf (bytesOf s)) = false)) := Lib.hid fun h => by
    rintro (h' | h' | h')
    · rw [HDG.out] at h'; exact HNE.out h'
    · rw [HDG.out] at h'; exact H48.out h'
    · rw [HDG.out, h] at h'; cases h'
  have hFar : Hid (isD (bytesOf (s)) = true → farD most (bytesOf (s)) = true → numS (bytesOf s) most = (0, 10)) := Lib.hid fun h hf => numS_far (hNo.out h) (by rw [HDG.out]; exact hf)
  have hOk : Hid (isD (bytesOf (s)) = true → farD most (bytesOf (s)) = false → numS (bytesOf s) most = (valD (bytesOf (s)), 0)) := Lib.hid fun h hf => by
    rw [numS_ok (hNo.out h) (by rw [HDG.out]; exact hf), HDG.out, if_neg H45.out]
  go_enter Try.func24, Try.ntmps24
  go_wp2
  go_loopw [8, 9] (fun v8 v9 W => NumInv w s most v8 v9 W) (fun _ _ W => s.size - W.iterPos w.heap.size)
  case atStart => exact ⟨0, 0, Nat.zero_le _, rfl, rfl, (by rw [farD_nil]), rfl, Int.le_refl _, fun _ => rfl⟩
  case round =>
    obtain ⟨k, n, hk, rfl, hD, rfl, rfl, hn0, hnv⟩ := hrel
    by_cases hlt : k < s.size
    · have hbt := s[k].toNat_lt
      by_cases hdig : 48 ≤ s[k].toNat ∧ s[k].toNat ≤ 57
      · obtain ⟨hd1, hd2⟩ := hdig
        have hnx := fun ty => run_next_ascii (P := Try.prog) w s k ty hlt (by omega)
        have htk := Lib.hid (bytesOf_take_succ s k hlt)
        have hDn : Hid (isD ((bytesOf s).take (k + 1)) = true) := Lib.hid (by rw [htk.out, isD_snoc, hD]; simp; omega)
        obtain ⟨b, hb⟩ : ∃ b : Nat, b = s[k].toNat := ⟨_, rfl⟩
        rw [← hb] at hnx htk hd1 hd2 hbt
        have HB := Lib.hid hb
        clear hb
        have HD := Lib.hid hD
        clear hD
        cases hf : farD most ((bytesOf s).take k) with
        | true =>
          have hfn : Hid (farD most ((bytesOf s).take (k + 1)) = true) := Lib.hid (by
            have h1 := valD_mono (l := (bytesOf s).take k) (m := [(b : Int)]) (by rw [← htk.out]; exact hDn.out)
            rw [htk.out]
            simp [farD] at hf ⊢
            omega)
          clear hnv
          go_wp2
          go_roundw
          case rel => exact ⟨k + 1, n, by omega, rfl, hDn.out, by rw [hfn.out], rfl, hn0, fun h => by rw [hfn.out] at h; cases h⟩
          case measure => rw [World.iterPos_iter, World.iterPos_iter]; omega
        | false =>
          have hnv' := Lib.hid (hnv hf)
          clear hnv
          have hm : 0 ≤ most := by simp [farD] at hf; omega
          have hnm : n ≤ most := by have := hnv'.out; simp [farD] at hf; omega
          have hstep := Lib.hid (far_step (most := most) (n := n) (d := (b : Int) - 48) hm hn0 (by omega))
          have hfe : Hid (farD most ((bytesOf s).take (k + 1)) = decide (most < 10 * n + ((b : Int) - 48))) := Lib.hid (by
            rw [htk.out, farD, valD_snoc, ← hnv'.out]
            have h1 : decide (most < 0) = false := by simpa using hm
            rw [h1, Bool.false_or])
          by_cases ht : (most - ((b : Int) - 48)).tdiv 10 < n
          · have hft : Hid (farD most ((bytesOf s).take (k + 1)) = true) := Lib.hid (by rw [hfe.out]; simpa using hstep.out.1 (.inl ht))
            go_wp2
            go_roundw
            case rel => exact ⟨k + 1, n, by omega, rfl, hDn.out, by rw [hft.out], rfl, hn0, fun h => by rw [hft.out] at h; cases h⟩
            case measure => rw [World.iterPos_iter, World.iterPos_iter]; omega
          · by_cases ht2 : most < (b : Int) - 48
            · have hft : Hid (farD most ((bytesOf s).take (k + 1)) = true) := Lib.hid (by rw [hfe.out]; simpa using hstep.out.1 (.inr ht2))
              go_wp2
              go_roundw
              case rel => exact ⟨k + 1, n, by omega, rfl, hDn.out, by rw [hft.out], rfl, hn0, fun h => by rw [hft.out] at h; cases h⟩
              case measure => rw [World.iterPos_iter, World.iterPos_iter]; omega
            · have hft : Hid (farD most ((bytesOf s).take (k + 1)) = false) := Lib.hid (by
                rw [hfe.out]
                have h1 : ¬ most < 10 * n + ((b : Int) - 48) := fun h => (hstep.out.2 h).elim ht ht2
                simpa using h1)
              have hle : 10 * n + ((b : Int) - 48) ≤ most := by
                have h1 : ¬ most < 10 * n + ((b : Int) - 48) := fun h => (hstep.out.2 h).elim ht ht2
                omega
              have hte : decide ((most - ((b : Int) - 48)) / 10 < n) = false := by
                rw [Int.tdiv_eq_ediv_of_nonneg (by omega)] at ht
                simpa using ht
              go_wp2
              go_roundw
              case rel => exact ⟨k + 1, 10 * n + ((b : Int) - 48), by omega, rfl, hDn.out, by rw [hft.out], rfl, by omega, fun _ => by rw [htk.out, valD_snoc, ← hnv'.out]⟩
              case measure => rw [World.iterPos_iter, World.iterPos_iter]; omega
      · have hbad := hBad.out (isD_take_byte hlt hdig)
        have HBAD := Lib.hid hbad
        clear hbad
        by_cases h128 : s[k].toNat < 128
        · have hnx := fun ty => run_next_ascii (P := Try.prog) w s k ty hlt h128
          obtain ⟨b, hb⟩ : ∃ b : Nat, b = s[k].toNat := ⟨_, rfl⟩
          rw [← hb] at hnx hdig hbt
          clear hb h128
          by_cases hl : b < 48
          · go_wp2
            go_ret2
            exact ⟨by rw [HBAD.out]; rfl, (Below.refl _ _).alloc (Nat.le_refl _) _⟩
          · have hl2 : 57 < b := by omega
            go_wp2
            go_ret2
            exact ⟨by rw [HBAD.out]; rfl, (Below.refl _ _).alloc (Nat.le_refl _) _⟩
        · have hnx := fun ty => run_next_any (P := Try.prog) w s k ty hlt
          have hr := (decode_high s k hlt (by omega)).1
          generalize Utf8.decode s k = rp at hnx hr
          obtain ⟨r, rl⟩ := rp
          dsimp only at hnx hr
          go_wp2
          go_ret2
          exact ⟨by rw [HBAD.out]; rfl, (Below.refl _ _).alloc (Nat.le_refl _) _⟩
    · obtain rfl : k = s.size := by omega
      have htk : (bytesOf s).take s.size = bytesOf s := List.take_of_length_le (by rw [bytesOf_length]; exact Nat.le_refl _)
      rw [htk] at hD hnv ⊢
      have hnx := fun ty => run_next_end (P := Try.prog) w s s.size ty (Nat.lt_irrefl _)
      have HD := Lib.hid hD
      clear hD htk
      cases hf : farD most (bytesOf s) with
      | true =>
        have HR := Lib.hid (hFar.out HD.out hf)
        clear hnv
        go_wp2
        go_ret2
        exact ⟨by rw [HR.out]; rfl, (Below.refl _ _).alloc (Nat.le_refl _) _⟩
      | false =>
        have HR := Lib.hid (hOk.out HD.out hf)
        have hnv' := Lib.hid (hnv hf)
        clear hnv
        have hm : 0 ≤ most := by simp [farD] at hf; omega
        have hnm : n ≤ most := by have := hnv'.out; simp [farD] at hf; omega
        go_wp2
        go_ret2
        exact ⟨by rw [HR.out, ← hnv'.out]; rfl, (Below.refl _ _).alloc (Nat.le_refl _) _⟩
set_option maxHeartbeats 8000000 in
set_option maxRecDepth 100000 in
theorem number_minus (s : ByteArray) (most : Int) (w : World) (h0 : 0 < s.size) (h1 : s.size ≤ 9223372036854775807) (hm1 : most ≤ 9223372036854775807) (hm0 : -9223372036854775808 ≤ most)
    (h45 : (((s[0]'h0).toNat : Int) == 45) = true) (h2 : 0 < (s.extract 1 s.size).size) (h48 : ((((s.extract 1 s.size)[0]'h2).toNat : Int) == 48) = false) :
    Calls Try.prog 24 #[.string s, .int .i64 most] w fun e w' => e = .returned (.tuple #[.int .i64 (numS (bytesOf s) most).1, .int .i64 (numS (bytesOf s) most).2]) ∧ Below w.heap.size w w' := by
  have hE := not_nil_toList s h0
  have hE2 : ¬ s.toList = [] := by intro h; rw [h] at hE; cases hE
  obtain ⟨ds, hds⟩ : ∃ ds, s.extract 1 s.size = ds := ⟨_, rfl⟩
  have hh := bytesOf_head s h0
  have H45 : Hid ((bytesOf s).head? = some 45) := Lib.hid (by rw [hh]; simpa using h45)
  have HDG : Hid (digsOf (bytesOf s) = bytesOf ds) := Lib.hid (by unfold digsOf; rw [if_pos H45.out, ← bytesOf_tail, hds])
  have hh2 := bytesOf_head _ h2
  have HNE : Hid (¬ bytesOf ds = []) := Lib.hid (by rw [← hds]; intro h; rw [h] at hh2; cases hh2)
  have H48 : Hid (¬ ((bytesOf ds).head? = some 48 ∧ bytesOf s ≠ [48])) := Lib.hid (by rw [← hds, hh2]; intro h; simp at h h48; omega)
  clear hh hh2
  have hB0 : Hid (isD (bytesOf (ds)) = false → numS (bytesOf s) most = (0, 11)) := Lib.hid fun h => numS_bad (.inr (.inr (by rw [HDG.out]; exact h)))
  have hBad := hB0
  have hNo : Hid (isD (bytesOf (ds)) = true → ¬ (digsOf (bytesOf s) = [] ∨ ((digsOf (bytesOf s)).head? = some 48 ∧ bytesOf s ≠ [48]) ∨ isD (digsOf (bytesOf s)) = false)) := Lib.hid fun h => by
    rintro (h' | h' | h')
    · rw [HDG.out] at h'; exact HNE.out h'
    · rw [HDG.out] at h'; exact H48.out h'
    · rw [HDG.out, h] at h'; cases h'
  have hFar : Hid (isD (bytesOf (ds)) = true → farD most (bytesOf (ds)) = true → numS (bytesOf s) most = (0, 10)) := Lib.hid fun h hf => numS_far (hNo.out h) (by rw [HDG.out]; exact hf)
  have hOk : Hid (isD (bytesOf (ds)) = true → farD most (bytesOf (ds)) = false → numS (bytesOf s) most = (-valD (bytesOf (ds)), 0)) := Lib.hid fun h hf => by
    rw [numS_ok (hNo.out h) (by rw [HDG.out]; exact hf), HDG.out, if_pos H45.out]
  have hdz : Hid (ds.size ≤ 9223372036854775807) := Lib.hid (by rw [← hds]; simp; omega)
  have h2' : 0 < ds.size := by rw [← hds]; exact h2
  have h48' : (((ds[0]'h2').toNat : Int) == 48) = false := by subst hds; exact h48
  have hF2 := not_nil_toList _ h2'
  have hF3 : ¬ ds.toList = [] := by intro h; rw [h] at hF2; cases hF2
  clear h48 h2
  go_enter Try.func24, Try.ntmps24
  go_wp2
  clear h48' hF2 hF3 hds
  go_loopw [8, 9] (fun v8 v9 W => NumInv w ds most v8 v9 W) (fun _ _ W => ds.size - W.iterPos w.heap.size)
  case atStart => exact ⟨0, 0, Nat.zero_le _, rfl, rfl, (by rw [farD_nil]), rfl, Int.le_refl _, fun _ => rfl⟩
  case round =>
    obtain ⟨k, n, hk, rfl, hD, rfl, rfl, hn0, hnv⟩ := hrel
    by_cases hlt : k < ds.size
    · have hbt := ds[k].toNat_lt
      by_cases hdig : 48 ≤ ds[k].toNat ∧ ds[k].toNat ≤ 57
      · obtain ⟨hd1, hd2⟩ := hdig
        have hnx := fun ty => run_next_ascii (P := Try.prog) w ds k ty hlt (by omega)
        have htk := Lib.hid (bytesOf_take_succ ds k hlt)
        have hDn : Hid (isD ((bytesOf ds).take (k + 1)) = true) := Lib.hid (by rw [htk.out, isD_snoc, hD]; simp; omega)
        obtain ⟨b, hb⟩ : ∃ b : Nat, b = ds[k].toNat := ⟨_, rfl⟩
        rw [← hb] at hnx htk hd1 hd2 hbt
        have HB := Lib.hid hb
        clear hb
        have HD := Lib.hid hD
        clear hD
        cases hf : farD most ((bytesOf ds).take k) with
        | true =>
          have hfn : Hid (farD most ((bytesOf ds).take (k + 1)) = true) := Lib.hid (by
            have h1 := valD_mono (l := (bytesOf ds).take k) (m := [(b : Int)]) (by rw [← htk.out]; exact hDn.out)
            rw [htk.out]
            simp [farD] at hf ⊢
            omega)
          clear hnv
          go_wp2
          go_roundw
          case rel => exact ⟨k + 1, n, by omega, rfl, hDn.out, by rw [hfn.out], rfl, hn0, fun h => by rw [hfn.out] at h; cases h⟩
          case measure => rw [World.iterPos_iter, World.iterPos_iter]; omega
        | false =>
          have hnv' := Lib.hid (hnv hf)
          clear hnv
          have hm : 0 ≤ most := by simp [farD] at hf; omega
          have hnm : n ≤ most := by have := hnv'.out; simp [farD] at hf; omega
          have hstep := Lib.hid (far_step (most := most) (n := n) (d := (b : Int) - 48) hm hn0 (by omega))
          have hfe : Hid (farD most ((bytesOf ds).take (k + 1)) = decide (most < 10 * n + ((b : Int) - 48))) := Lib.hid (by
            rw [htk.out, farD, valD_snoc, ← hnv'.out]
            have h1 : decide (most < 0) = false := by simpa using hm
            rw [h1, Bool.false_or])
          by_cases ht : (most - ((b : Int) - 48)).tdiv 10 < n
          · have hft : Hid (farD most ((bytesOf ds).take (k + 1)) = true) := Lib.hid (by rw [hfe.out]; simpa using hstep.out.1 (.inl ht))
            go_wp2
            go_roundw
            case rel => exact ⟨k + 1, n, by omega, rfl, hDn.out, by rw [hft.out], rfl, hn0, fun h => by rw [hft.out] at h; cases h⟩
            case measure => rw [World.iterPos_iter, World.iterPos_iter]; omega
          · by_cases ht2 : most < (b : Int) - 48
            · have hft : Hid (farD most ((bytesOf ds).take (k + 1)) = true) := Lib.hid (by rw [hfe.out]; simpa using hstep.out.1 (.inr ht2))
              go_wp2
              go_roundw
              case rel => exact ⟨k + 1, n, by omega, rfl, hDn.out, by rw [hft.out], rfl, hn0, fun h => by rw [hft.out] at h; cases h⟩
              case measure => rw [World.iterPos_iter, World.iterPos_iter]; omega
            · have hft : Hid (farD most ((bytesOf ds).take (k + 1)) = false) := Lib.hid (by
                rw [hfe.out]
                have h1 : ¬ most < 10 * n + ((b : Int) - 48) := fun h => (hstep.out.2 h).elim ht ht2
                simpa using h1)
              have hle : 10 * n + ((b : Int) - 48) ≤ most := by
                have h1 : ¬ most < 10 * n + ((b : Int) - 48) := fun h => (hstep.out.2 h).elim ht ht2
                omega
              have hte : decide ((most - ((b : Int) - 48)) / 10 < n) = false := by
                rw [Int.tdiv_eq_ediv_of_nonneg (by omega)] at ht
                simpa using ht
              go_wp2
              go_roundw
              case rel => exact ⟨k + 1, 10 * n + ((b : Int) - 48), by omega, rfl, hDn.out, by rw [hft.out], rfl, by omega, fun _ => by rw [htk.out, valD_snoc, ← hnv'.out]⟩
              case measure => rw [World.iterPos_iter, World.iterPos_iter]; omega
      · have hbad := hBad.out (isD_take_byte hlt hdig)
        have HBAD := Lib.hid hbad
        clear hbad
        by_cases h128 : ds[k].toNat < 128
        · have hnx := fun ty => run_next_ascii (P := Try.prog) w ds k ty hlt h128
          obtain ⟨b, hb⟩ : ∃ b : Nat, b = ds[k].toNat := ⟨_, rfl⟩
          rw [← hb] at hnx hdig hbt
          clear hb h128
          by_cases hl : b < 48
          · go_wp2
            go_ret2
            exact ⟨by rw [HBAD.out]; rfl, (Below.refl _ _).alloc (Nat.le_refl _) _⟩
          · have hl2 : 57 < b := by omega
            go_wp2
            go_ret2
            exact ⟨by rw [HBAD.out]; rfl, (Below.refl _ _).alloc (Nat.le_refl _) _⟩
        · have hnx := fun ty => run_next_any (P := Try.prog) w ds k ty hlt
          have hr := (decode_high ds k hlt (by omega)).1
          generalize Utf8.decode ds k = rp at hnx hr
          obtain ⟨r, rl⟩ := rp
          dsimp only at hnx hr
          go_wp2
          go_ret2
          exact ⟨by rw [HBAD.out]; rfl, (Below.refl _ _).alloc (Nat.le_refl _) _⟩
    · obtain rfl : k = ds.size := by omega
      have htk : (bytesOf ds).take ds.size = bytesOf ds := List.take_of_length_le (by rw [bytesOf_length]; exact Nat.le_refl _)
      rw [htk] at hD hnv ⊢
      have hnx := fun ty => run_next_end (P := Try.prog) w ds ds.size ty (Nat.lt_irrefl _)
      have HD := Lib.hid hD
      clear hD htk
      cases hf : farD most (bytesOf ds) with
      | true =>
        have HR := Lib.hid (hFar.out HD.out hf)
        clear hnv
        go_wp2
        go_ret2
        exact ⟨by rw [HR.out]; rfl, (Below.refl _ _).alloc (Nat.le_refl _) _⟩
      | false =>
        have HR := Lib.hid (hOk.out HD.out hf)
        have hnv' := Lib.hid (hnv hf)
        clear hnv
        have hm : 0 ≤ most := by simp [farD] at hf; omega
        have hnm : n ≤ most := by have := hnv'.out; simp [farD] at hf; omega
        go_wp2
        go_ret2
        exact ⟨by rw [HR.out, ← hnv'.out]; rfl, (Below.refl _ _).alloc (Nat.le_refl _) _⟩
end Go.Proofs.Ytbiafpklgkkoaaa

/- The walk of token.Number: the words that are none; and all together. -/
import Derived.Test.YtbiafpklgkkoaaaNumWalk
set_option linter.unusedVariables false
set_option linter.unusedSimpArgs false
namespace Go.Proofs.Ytbiafpklgkkoaaa
open Go Go.Proofs Go.RowKit Go.Shelf Go.Proofs.YtbiafpklgkkoaaaW.PrintWords
set_option maxHeartbeats 8000000 in
set_option maxRecDepth 100000 in
theorem number_empty (s : ByteArray) (most : Int) (w : World) (h1 : s.size ≤ 9223372036854775807) (hm1 : most ≤ 9223372036854775807) (hm0 : -9223372036854775808 ≤ most)
    (hs : s = ⟨#[]⟩) :
    Calls Try.prog 24 #[.string s, .int .i64 most] w fun e w' => e = .returned (.tuple #[.int .i64 (numS (bytesOf s) most).1, .int .i64 (numS (bytesOf s) most).2]) ∧ Below w.heap.size w w' := by
  have hE : s.toList = [] := by rw [ByteArray.toList_eq, hs]
  have HB : Hid (numS (bytesOf s) most = (0, 11)) := Lib.hid (by rw [hs]; exact numS_bad (.inl (by rfl)))
  clear hs
  go_enter Try.func24, Try.ntmps24
  go_wp2
  go_ret2
  exact ⟨by rw [HB.out]; rfl, Below.refl _ _⟩

set_option maxHeartbeats 8000000 in
set_option maxRecDepth 100000 in
theorem number_sign (s : ByteArray) (most : Int) (w : World) (h0 : 0 < s.size) (h1 : s.size ≤ 9223372036854775807) (hm1 : most ≤ 9223372036854775807) (hm0 : -9223372036854775808 ≤ most)
    (h45 : (((s[0]'h0).toNat : Int) == 45) = true) (hs : s = ⟨#[45]⟩) :
    Calls Try.prog 24 #[.string s, .int .i64 most] w fun e w' => e = .returned (.tuple #[.int .i64 (numS (bytesOf s) most).1, .int .i64 (numS (bytesOf s) most).2]) ∧ Below w.heap.size w w' := by
  have hE := not_nil_toList s h0
  have hE2 : ¬ s.toList = [] := by intro h; rw [h] at hE; cases hE
  have hE3 : (s.extract 1 s.size).toList = [] := by
    have h3 : (s.extract 1 s.size).data.toList.length = 0 := by subst hs; rfl
    rw [ByteArray.toList_eq]
    exact List.eq_nil_of_length_eq_zero h3
  have HB : Hid (numS (bytesOf s) most = (0, 11)) := Lib.hid (by rw [hs]; exact numS_bad (.inl (by rfl)))
  clear hs
  go_enter Try.func24, Try.ntmps24
  go_wp2
  go_ret2
  exact ⟨by rw [HB.out]; rfl, Below.refl _ _⟩

set_option maxHeartbeats 8000000 in
set_option maxRecDepth 100000 in
theorem number_minus0 (s : ByteArray) (most : Int) (w : World) (h0 : 0 < s.size) (h1 : s.size ≤ 9223372036854775807) (hm1 : most ≤ 9223372036854775807) (hm0 : -9223372036854775808 ≤ most)
    (h45 : (((s[0]'h0).toNat : Int) == 45) = true) (h2 : 0 < (s.extract 1 s.size).size) (h48 : (((s.extract 1 s.size)[0]'h2).toNat : Int) = 48) :
    Calls Try.prog 24 #[.string s, .int .i64 most] w fun e w' => e = .returned (.tuple #[.int .i64 (numS (bytesOf s) most).1, .int .i64 (numS (bytesOf s) most).2]) ∧ Below w.heap.size w w' := by
  have hE := not_nil_toList s h0
  have hE2 : ¬ s.toList = [] := by intro h; rw [h] at hE; cases hE
  have hh := bytesOf_head s h0
  have H45 : Hid ((bytesOf s).head? = some 45) := Lib.hid (by rw [hh]; simpa using h45)
  have HDG : Hid (digsOf (bytesOf s) = bytesOf (s.extract 1 s.size)) := Lib.hid (by unfold digsOf; rw [if_pos H45.out, bytesOf_tail])
  have hh2 := bytesOf_head _ h2
  have HB : Hid (numS (bytesOf s) most = (0, 11)) := Lib.hid (numS_bad (.inr (.inl (by rw [HDG.out, hh2, h48]; exact ⟨rfl, fun h => by rw [h] at hh; rw [← Option.some.inj hh] at h45; simp at h45⟩))))
  clear hh hh2
  have hds : 0 < s.size - 1 := by simp at h2; omega
  have hF2 := not_nil_toList _ h2
  have hF3 : ¬ (s.extract 1 s.size).toList = [] := by intro h; rw [h] at hF2; cases hF2
  have hnot : (!s.toList == [48]) = true := by
    rw [Bool.not_eq_true', beq_eq_false_iff_ne]
    intro h
    have hs : s.data.toList = [48] := by rw [← ByteArray.toList_eq]; exact h
    have h3 : s.size = 1 := by
      have : s.data.toList.length = s.size := by rw [Array.length_toList]; rfl
      rw [← this, hs]; rfl
    omega
  go_enter Try.func24, Try.ntmps24
  go_wp2
  go_ret2
  exact ⟨by rw [HB.out]; rfl, Below.refl _ _⟩

set_option maxHeartbeats 8000000 in
set_option maxRecDepth 100000 in
theorem number_zeros (s : ByteArray) (most : Int) (w : World) (h0 : 0 < s.size) (h1 : s.size ≤ 9223372036854775807) (hm1 : most ≤ 9223372036854775807) (hm0 : -9223372036854775808 ≤ most)
    (h48 : ((s[0]'h0).toNat : Int) = 48) (hs : s ≠ ⟨#[48]⟩) :
    Calls Try.prog 24 #[.string s, .int .i64 most] w fun e w' => e = .returned (.tuple #[.int .i64 (numS (bytesOf s) most).1, .int .i64 (numS (bytesOf s) most).2]) ∧ Below w.heap.size w w' := by
  have hE := not_nil_toList s h0
  have hE2 : ¬ s.toList = [] := by intro h; rw [h] at hE; cases hE
  have hh := bytesOf_head s h0
  have h45 : (((s[0]'h0).toNat : Int) == 45) = false := by rw [h48]; rfl
  have H45 : Hid (¬ (bytesOf s).head? = some 45) := Lib.hid (by rw [hh]; simpa using h45)
  have HDG : Hid (digsOf (bytesOf s) = bytesOf s) := Lib.hid (by unfold digsOf; rw [if_neg H45.out])
  have hne : s.data.toList ≠ [48] := fun h => hs (by cases s; exact congrArg ByteArray.mk (Array.toList_inj.1 h))
  have HB : Hid (numS (bytesOf s) most = (0, 11)) := Lib.hid (numS_bad (.inr (.inl (by rw [HDG.out, hh, h48]; exact ⟨rfl, fun h => hne (by
    have h1 : s.data.toList.length = 1 := by have := congrArg List.length h; simpa [bytesOf] using this
    match hd : s.data.toList, h1 with
    | [x], _ =>
      rw [bytesOf, hd] at h
      simp at h
      rw [show x = 48 from UInt8.toNat_inj.1 (by simpa using (by omega : x.toNat = 48))])⟩))))
  have hnot : (!s.toList == [48]) = true := by
    rw [Bool.not_eq_true', beq_eq_false_iff_ne, ByteArray.toList_eq]
    exact hne
  clear hh hne hs
  go_enter Try.func24, Try.ntmps24
  go_wp2
  go_ret2
  exact ⟨by rw [HB.out]; rfl, Below.refl _ _⟩

/-- token.Number, at every word and bound. -/
theorem number_any (s : ByteArray) (most : Int) (w : World) (h1 : s.size ≤ 9223372036854775807) (hm1 : most ≤ 9223372036854775807) (hm0 : -9223372036854775808 ≤ most) :
    Calls Try.prog 24 #[.string s, .int .i64 most] w fun e w' => e = .returned (.tuple #[.int .i64 (numS (bytesOf s) most).1, .int .i64 (numS (bytesOf s) most).2]) ∧ Below w.heap.size w w' := by
  by_cases h0 : 0 < s.size
  · by_cases h45 : ((s[0]'h0).toNat : Int) = 45
    · by_cases h2 : 0 < (s.extract 1 s.size).size
      · by_cases h48 : (((s.extract 1 s.size)[0]'h2).toNat : Int) = 48
        · exact number_minus0 s most w h0 h1 hm1 hm0 (by simpa using h45) h2 h48
        · exact number_minus s most w h0 h1 hm1 hm0 (by simpa using h45) h2 (by simpa using h48)
      · refine number_sign s most w h0 h1 hm1 hm0 (by simpa using h45) ?_
        have h3 : s.size = 1 := by simp at h2; omega
        have h4 : s.data.size = 1 := h3
        match s, h0, h45, h4 with
        | ⟨⟨[x]⟩⟩, _, h45, _ =>
          have h45' : (x.toNat : Int) = 45 := h45
          rw [show x = 45 from UInt8.toNat_inj.1 (by simpa using (by omega : x.toNat = 45))]
    · by_cases h48 : ((s[0]'h0).toNat : Int) = 48
      · by_cases hs : s = ⟨#[48]⟩
        · exact number_zero s most w h0 h1 hm1 hm0 hs
        · exact number_zeros s most w h0 h1 hm1 hm0 h48 hs
      · exact number_plus s most w h0 h1 hm1 hm0 (by simpa using h45) (by simpa using h48)
  · refine number_empty s most w h1 hm1 hm0 ?_
    have h3 : s.size = 0 := by omega
    have h4 : s.data.size = 0 := h3
    match s, h4 with
    | ⟨⟨[]⟩⟩, _ => rfl


end Go.Proofs.Ytbiafpklgkkoaaa

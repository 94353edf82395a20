/- The walk of wide's Parse: the words that are none; and all together. -/
import Derived.Test.YtmpbbodafenonaaParse2
set_option linter.unusedVariables false
set_option linter.unusedSimpArgs false
namespace Go.Proofs.Ytmpbbodafenonaa
open Go Go.Proofs Go.RowKit Go.Shelf Go.Proofs.YtmpbbodafenonaaW.PrintWords Go.Proofs.YtmpbbodafenonaaW.PrintLast Go.Proofs.YtmpbbodafenonaaW.PrintMore
theorem BoxV.zero0 {W : World} {B : Nat} (h : BoxV W B false 0) : W.heap[B]? = some (.cells #[.bool false, .int .u64 0, .int .u64 0, .int .u64 0, .int .u64 0] 27 (0, 0)) := by
  unfold BoxV at h
  rw [show spl0 0 = 0 from rfl, show spl1 0 = 0 from rfl, show spl2 0 = 0 from rfl, show spl3 0 = 0 from rfl] at h
  exact h
set_option maxHeartbeats 800000 in
set_option maxRecDepth 100000 in
theorem parse_empty (HC : Hid ParseCalls) (s : ByteArray) (w : World) (h1 : s.size ≤ 9223372036854775807)
    (hs : s = ⟨#[]⟩) :
    Calls Try.prog 31 #[.string s] w fun e w' => e = .returned (wideRes (wparseS (bytesOf s))) ∧ Below w.heap.size w w' := by
  have hE : s.toList = [] := by rw [ByteArray.toList_eq, hs]
  have HB : Hid (wparseS (bytesOf s) = (false, 0, 0, 0, 0, 11)) := Lib.hid (by rw [hs]; exact wparse_bad (.inl (by rfl)))
  clear hs
  have hx := BoxV.new w false
  obtain ⟨f0, f1, f2, f3, f4⟩ := hx.fr
  obtain ⟨c0, c1, c2, c3, c4⟩ := hx.cells
  go_enter Try.func31, Try.ntmps31
  go_wp2
  refine bodyPost_ret (v := .tuple #[.agg #[.bool false, .int .u64 0, .int .u64 0, .int .u64 0, .int .u64 0], .int .i64 11]) (results_ct (fn := Try.f31) (p := 2) (u := 3) (ty := 27) rfl _ _ w.heap.size 27 _ (0, 0) _ rfl hx.zero0 Try.underlying27 rfl (by kernel_rfl)) rfl ⟨by rw [HB.out]; rfl, below_alloc (Below.refl _ _) _⟩

set_option maxHeartbeats 800000 in
set_option maxRecDepth 100000 in
theorem parse_sign (HC : Hid ParseCalls) (s : ByteArray) (w : World) (h0 : 0 < s.size) (h1 : s.size ≤ 9223372036854775807)
    (h45 : (((s[0]'h0).toNat : Int) == 45) = true) (hs : s = ⟨#[45]⟩) :
    Calls Try.prog 31 #[.string s] w fun e w' => e = .returned (wideRes (wparseS (bytesOf s))) ∧ Below w.heap.size w w' := by
  have hE := not_nil_toList s h0
  have hE2 : ¬ s.toList = [] := by intro h; rw [h] at hE; cases hE
  have hE3 : (s.extract 1 s.size).toList = [] := by
    have h3 : (s.extract 1 s.size).data.toList.length = 0 := by subst hs; rfl
    rw [ByteArray.toList_eq]
    exact List.eq_nil_of_length_eq_zero h3
  have HB : Hid (wparseS (bytesOf s) = (false, 0, 0, 0, 0, 11)) := Lib.hid (by rw [hs]; exact wparse_bad (.inl (by rfl)))
  clear hs
  have hx := BoxV.new w false
  obtain ⟨f0, f1, f2, f3, f4⟩ := hx.fr
  obtain ⟨c0, c1, c2, c3, c4⟩ := hx.cells
  go_enter Try.func31, Try.ntmps31
  go_wp2
  refine bodyPost_ret (v := .tuple #[.agg #[.bool false, .int .u64 0, .int .u64 0, .int .u64 0, .int .u64 0], .int .i64 11]) (results_ct (fn := Try.f31) (p := 2) (u := 3) (ty := 27) rfl _ _ w.heap.size 27 _ (0, 0) _ rfl hx.zero0 Try.underlying27 rfl (by kernel_rfl)) rfl ⟨by rw [HB.out]; rfl, below_alloc (Below.refl _ _) _⟩

set_option maxHeartbeats 800000 in
set_option maxRecDepth 100000 in
theorem parse_minus0 (HC : Hid ParseCalls) (s : ByteArray) (w : World) (h0 : 0 < s.size) (h1 : s.size ≤ 9223372036854775807)
    (h45 : (((s[0]'h0).toNat : Int) == 45) = true) (h2 : 0 < (s.extract 1 s.size).size) (h48 : (((s.extract 1 s.size)[0]'h2).toNat : Int) = 48) :
    Calls Try.prog 31 #[.string s] w fun e w' => e = .returned (wideRes (wparseS (bytesOf s))) ∧ Below w.heap.size w w' := by
  have hE := not_nil_toList s h0
  have hE2 : ¬ s.toList = [] := by intro h; rw [h] at hE; cases hE
  have hh := bytesOf_head s h0
  have H45 : Hid ((bytesOf s).head? = some 45) := Lib.hid (by rw [hh]; simpa using h45)
  have HDG : Hid (digsOf (bytesOf s) = bytesOf (s.extract 1 s.size)) := Lib.hid (by unfold digsOf; rw [if_pos H45.out, bytesOf_tail])
  have hh2 := bytesOf_head _ h2
  have HB : Hid (wparseS (bytesOf s) = (false, 0, 0, 0, 0, 11)) := Lib.hid (wparse_bad (.inr (.inl (by rw [HDG.out, hh2, h48]; exact ⟨rfl, fun h => by rw [h] at hh; rw [← Option.some.inj hh] at h45; simp at h45⟩))))
  clear hh hh2
  have hds : 0 < s.size - 1 := by simp at h2; omega
  have hF2 := not_nil_toList _ h2
  have hF3 : ¬ (s.extract 1 s.size).toList = [] := by intro h; rw [h] at hF2; cases hF2
  have hnot : (!s.toList == [48]) = true := by
    rw [Bool.not_eq_true', beq_eq_false_iff_ne]
    intro h
    have hs : s.data.toList = [48] := by rw [← ByteArray.toList_eq]; exact h
    have h3 : s.size = 1 := by
      have : s.data.toList.length = s.size := by rw [Array.length_toList]; rfl
      rw [← this, hs]; rfl
    omega
  have hx := BoxV.new w false
  obtain ⟨f0, f1, f2, f3, f4⟩ := hx.fr
  obtain ⟨c0, c1, c2, c3, c4⟩ := hx.cells
  go_enter Try.func31, Try.ntmps31
  go_wp2
  refine bodyPost_ret (v := .tuple #[.agg #[.bool false, .int .u64 0, .int .u64 0, .int .u64 0, .int .u64 0], .int .i64 11]) (results_ct (fn := Try.f31) (p := 2) (u := 3) (ty := 27) rfl _ _ w.heap.size 27 _ (0, 0) _ rfl hx.zero0 Try.underlying27 rfl (by kernel_rfl)) rfl ⟨by rw [HB.out]; rfl, below_alloc (Below.refl _ _) _⟩

set_option maxHeartbeats 800000 in
set_option maxRecDepth 100000 in
theorem parse_zeros (HC : Hid ParseCalls) (s : ByteArray) (w : World) (h0 : 0 < s.size) (h1 : s.size ≤ 9223372036854775807)
    (h48 : ((s[0]'h0).toNat : Int) = 48) (hs : s ≠ ⟨#[48]⟩) :
    Calls Try.prog 31 #[.string s] w fun e w' => e = .returned (wideRes (wparseS (bytesOf s))) ∧ Below w.heap.size w w' := by
  have hE := not_nil_toList s h0
  have hE2 : ¬ s.toList = [] := by intro h; rw [h] at hE; cases hE
  have hh := bytesOf_head s h0
  have h45 : (((s[0]'h0).toNat : Int) == 45) = false := by rw [h48]; rfl
  have H45 : Hid (¬ (bytesOf s).head? = some 45) := Lib.hid (by rw [hh]; simpa using h45)
  have HDG : Hid (digsOf (bytesOf s) = bytesOf s) := Lib.hid (by unfold digsOf; rw [if_neg H45.out])
  have hne : s.data.toList ≠ [48] := fun h => hs (by cases s; exact congrArg ByteArray.mk (Array.toList_inj.1 h))
  have HB : Hid (wparseS (bytesOf s) = (false, 0, 0, 0, 0, 11)) := Lib.hid (wparse_bad (.inr (.inl (by rw [HDG.out, hh, h48]; exact ⟨rfl, fun h => hne (by
    have h1 : s.data.toList.length = 1 := by have := congrArg List.length h; simpa [bytesOf] using this
    match hd : s.data.toList, h1 with
    | [x], _ =>
      rw [bytesOf, hd] at h
      simp at h
      rw [show x = 48 from UInt8.toNat_inj.1 (by simpa using (by omega : x.toNat = 48))])⟩))))
  have hnot : (!s.toList == [48]) = true := by
    rw [Bool.not_eq_true', beq_eq_false_iff_ne, ByteArray.toList_eq]
    exact hne
  clear hh hne hs
  have hx := BoxV.new w false
  obtain ⟨f0, f1, f2, f3, f4⟩ := hx.fr
  obtain ⟨c0, c1, c2, c3, c4⟩ := hx.cells
  go_enter Try.func31, Try.ntmps31
  go_wp2
  refine bodyPost_ret (v := .tuple #[.agg #[.bool false, .int .u64 0, .int .u64 0, .int .u64 0, .int .u64 0], .int .i64 11]) (results_ct (fn := Try.f31) (p := 2) (u := 3) (ty := 27) rfl _ _ w.heap.size 27 _ (0, 0) _ rfl hx.zero0 Try.underlying27 rfl (by kernel_rfl)) rfl ⟨by rw [HB.out]; rfl, below_alloc (Below.refl _ _) _⟩

/-- wide's Parse, at every text. -/
theorem parse_any (HC : Hid ParseCalls) (s : ByteArray) (w : World) (h1 : s.size ≤ 9223372036854775807) :
    Calls Try.prog 31 #[.string s] w fun e w' => e = .returned (wideRes (wparseS (bytesOf s))) ∧ Below w.heap.size w w' := by
  by_cases h0 : 0 < s.size
  · by_cases h45 : ((s[0]'h0).toNat : Int) = 45
    · by_cases h2 : 0 < (s.extract 1 s.size).size
      · by_cases h48 : (((s.extract 1 s.size)[0]'h2).toNat : Int) = 48
        · exact parse_minus0 HC s w h0 h1 (by simpa using h45) h2 h48
        · exact parse_minus HC s w h0 h1 (by simpa using h45) h2 (by simpa using h48)
      · refine parse_sign HC s w h0 h1 (by simpa using h45) ?_
        have h3 : s.size = 1 := by simp at h2; omega
        have h4 : s.data.size = 1 := h3
        match s, h0, h45, h4 with
        | ⟨⟨[x]⟩⟩, _, h45, _ =>
          have h45' : (x.toNat : Int) = 45 := h45
          rw [show x = 45 from UInt8.toNat_inj.1 (by simpa using (by omega : x.toNat = 45))]
    · by_cases h48 : ((s[0]'h0).toNat : Int) = 48
      · by_cases hs : s = ⟨#[48]⟩
        · exact parse_zero HC s w h0 h1 hs
        · exact parse_zeros HC s w h0 h1 h48 hs
      · exact parse_plus HC s w h0 h1 (by simpa using h45) (by simpa using h48)
  · refine parse_empty HC s w h1 ?_
    have h3 : s.size = 0 := by omega
    have h4 : s.data.size = 0 := h3
    match s, h4 with
    | ⟨⟨[]⟩⟩, _ => rfl


end Go.Proofs.Ytmpbbodafenonaa

/- The walk of wide's Parse: words whose digits are looked at. Printed by genparse.py plus. -/
import Derived.Test.YtmpbbodafenonaaParse1
import Derived.Lib.Hide
import Derived.WalkSpells
set_option linter.unusedVariables false
set_option linter.unusedSimpArgs false
namespace Go.Proofs.Ytmpbbodafenonaa
open Go Go.Proofs Go.RowKit Go.Shelf Go.Proofs.YtmpbbodafenonaaW.PrintWords Go.Proofs.YtmpbbodafenonaaW.PrintLast Go.Proofs.YtmpbbodafenonaaW.PrintMore

abbrev limbsV (v : Int) : Value := .agg #[.int .u64 (spl0 v), .int .u64 (spl1 v), .int .u64 (spl2 v), .int .u64 (spl3 v)]
abbrev wideV (m : Bool) (v : Int) : Value := .agg #[.bool m, .int .u64 (spl0 v), .int .u64 (spl1 v), .int .u64 (spl2 v), .int .u64 (spl3 v)]
/-- What Parse's callees do. -/
structure ParseCalls : Prop where
  hof : ∀ (x d : Int) (w : World), x = d → 0 ≤ d → d ≤ 10 → Calls Try.prog 38 #[.int .i64 x] w fun e w' => e = .returned (wideV false d) ∧ Below w.heap.size w w'
  hmul : ∀ (v : Int) (w : World), 0 ≤ v → v < top4 → Calls Try.prog 66 #[wideV false v, wideV false 10] w fun e w' => e = .returned (.tuple #[wideV false ((v * 10) % top4), .bool (decide (v * 10 < top4))]) ∧ Below w.heap.size w w'
  hadd : ∀ (v d : Int) (w : World), 0 ≤ v → v < top4 → 0 ≤ d → d ≤ 10 → Calls Try.prog 76 #[wideV false v, wideV false d] w fun e w' => e = .returned (.tuple #[wideV false ((v + d) % top4), .bool (decide (v + d < top4))]) ∧ Below w.heap.size w w'
  hsgn : ∀ (m : Bool) (v : Int) (w : World), 0 ≤ v → v < top4 → Calls Try.prog 67 #[.bool m, limbsV v] w fun e w' => e = .returned (wideV (m && !decide (v = 0)) v) ∧ Below w.heap.size w w'
theorem BoxV.zero {W : World} {B : Nat} {m : Bool} {v : Int} (h : BoxV W B m v) : (((((W.setCell ⟨B, 0, none⟩ (.bool false)).setCell ⟨B, 1, none⟩ (.int .u64 0)).setCell ⟨B, 2, none⟩ (.int .u64 0)).setCell ⟨B, 3, none⟩ (.int .u64 0)).setCell ⟨B, 4, none⟩ (.int .u64 0)).heap[B]? = some (.cells #[.bool false, .int .u64 0, .int .u64 0, .int .u64 0, .int .u64 0] 27 (0, 0)) := by
  have x := h.setAll false 0
  unfold BoxV at x
  rw [show spl0 0 = 0 from rfl, show spl1 0 = 0 from rfl, show spl2 0 = 0 from rfl, show spl3 0 = 0 from rfl] at x
  exact x
theorem bset5 {w W : World} {g : Nat} (h : Below w.heap.size w W) (hg : w.heap.size ≤ g) (a b c d e : Value) : Below w.heap.size w (((((W.setCell ⟨g, 0, none⟩ a).setCell ⟨g, 1, none⟩ b).setCell ⟨g, 2, none⟩ c).setCell ⟨g, 3, none⟩ d).setCell ⟨g, 4, none⟩ e) :=
  bset (bset (bset (bset (bset h _ _ _ hg) _ _ _ hg) _ _ _ hg) _ _ _ hg) _ _ _ hg
/-- Behind the second loop: what is held. -/
structure PFin (w W : World) (B n : Nat) (v : Int) : Prop where
  hb : Below w.heap.size w W
  xr : ∃ m u, BoxV W B m u
  xn : BoxV W n false v
  gB : w.heap.size ≤ B
  ne : n ≠ B
theorem PFS.fin {w W : World} {B n : Nat} {v : Int} (h : W.cell? ⟨n, 1, none⟩ = some (.int .u64 (spl0 v)) ∧ W.cell? ⟨n, 2, none⟩ = some (.int .u64 (spl1 v)) ∧ W.cell? ⟨n, 3, none⟩ = some (.int .u64 (spl2 v)) ∧ W.cell? ⟨n, 4, none⟩ = some (.int .u64 (spl3 v)) ∧ PFin w W B n v) : PFin w W B n v := h.2.2.2.2
theorem PFin.ps {w W : World} {B n : Nat} {v : Int} (h : PFin w W B n v) : W.cell? ⟨n, 1, none⟩ = some (.int .u64 (spl0 v)) ∧ W.cell? ⟨n, 2, none⟩ = some (.int .u64 (spl1 v)) ∧ W.cell? ⟨n, 3, none⟩ = some (.int .u64 (spl2 v)) ∧ W.cell? ⟨n, 4, none⟩ = some (.int .u64 (spl3 v)) ∧ PFin w W B n v := ⟨h.xn.cells.2.1, h.xn.cells.2.2.1, h.xn.cells.2.2.2.1, h.xn.cells.2.2.2.2, h⟩
theorem PFin.later {w W W' : World} {B n : Nat} {v : Int} (h : PFin w W B n v) (hb : Below W.heap.size W W') : PFin w W' B n v := by
  obtain ⟨m, u, hx⟩ := h.xr
  exact ⟨h.hb.trans (hb.mono h.hb.size), ⟨m, u, hx.later hb⟩, h.xn.later hb, h.gB, h.ne⟩
theorem PFin.store {w W : World} {B n : Nat} {v : Int} (h : PFin w W B n v) (m : Bool) (u : Int) :
    PFin w (((((W.setCell ⟨B, 0, none⟩ (.bool m)).setCell ⟨B, 1, none⟩ (.int .u64 (spl0 u))).setCell ⟨B, 2, none⟩ (.int .u64 (spl1 u))).setCell ⟨B, 3, none⟩ (.int .u64 (spl2 u))).setCell ⟨B, 4, none⟩ (.int .u64 (spl3 u))) B n v := by
  obtain ⟨m0, u0, hx⟩ := h.xr
  exact ⟨bset5 h.hb h.gB _ _ _ _ _, ⟨m, u, hx.setAll m u⟩, h.xn.farAll h.ne _ _ _ _ _, h.gB, h.ne⟩
theorem PInv.fin {w W : World} {B n i : Nat} {ds : ByteArray} {k : Nat} {v : Int} (h : PInv w W B n i ds k v) : PFin w W B n v := ⟨h.hb, ⟨_, _, h.xr⟩, h.xn, h.gB, fun e => h.nBn e.symm⟩
theorem iterPos_of {W : World} {i : Nat} {s : ByteArray} {p : Nat} (h : W.heap[i]? = some (.stringIter s p)) : W.iterPos i = p := by simp [World.iterPos, h]
theorem wrap_dig32 {x : Int} (h0 : 0 ≤ x) (h1 : x ≤ 10) : IntKind.i32.wrap x = x := by
  have h : IntKind.i32.wrap x = (if (true && decide (x % 4294967296 ≥ 2147483648)) = true then x % 4294967296 - 4294967296 else x % 4294967296) := rfl
  rw [h]
  simp
  omega
theorem wrap_dig64 {x : Int} (h0 : 0 ≤ x) (h1 : x ≤ 10) : IntKind.i64.wrap x = x := by
  have h : IntKind.i64.wrap x = (if (true && decide (x % 18446744073709551616 ≥ 9223372036854775808)) = true then x % 18446744073709551616 - 18446744073709551616 else x % 18446744073709551616) := rfl
  rw [h]
  simp
  omega
theorem top_mod (x : Int) : 0 ≤ x % top4 ∧ x % top4 < top4 := ⟨Int.emod_nonneg _ (by decide), Int.emod_lt_of_pos _ (by decide)⟩
def P1 (w : World) (ds : ByteArray) (W : World) : Prop :=
  ∃ k : Nat, k ≤ ds.size ∧ W = (w.alloc (.cells #[.bool false, .int .u64 0, .int .u64 0, .int .u64 0, .int .u64 0] 27)).iter ds k ∧ isD ((bytesOf ds).take k) = true
def P2 (w : World) (ds : ByteArray) (W : World) : Prop :=
  ∃ k : Nat, k ≤ ds.size ∧ PInv w W w.heap.size (w.heap.size + 1 + 1) (w.heap.size + 1 + 1 + 1) ds k (valD ((bytesOf ds).take k)) ∧ Aside0 (valD ((bytesOf ds).take k) < top4)
theorem valD_take {s : ByteArray} (k : Nat) (h : isD (bytesOf s) = true) : 0 ≤ valD ((bytesOf s).take k) ∧ valD ((bytesOf s).take k) ≤ valD (bytesOf s) := by
  have h1 : isD ((bytesOf s).take k ++ (bytesOf s).drop k) = true := by rw [List.take_append_drop]; exact h
  have h2 := valD_mono h1
  rw [List.take_append_drop] at h2
  exact ⟨valD_nonneg (isD_of_prefix h1).1, h2⟩
theorem take_digit {s : ByteArray} {k : Nat} (h : k < s.size) (hd : isD (bytesOf s) = true) : 48 ≤ (s[k]'h).toNat ∧ (s[k]'h).toNat ≤ 57 := by
  have h1 : isD ((bytesOf s).take (k + 1) ++ (bytesOf s).drop (k + 1)) = true := by rw [List.take_append_drop]; exact hd
  have h2 := (isD_of_prefix h1).1
  rw [bytesOf_take_succ s k h, isD_snoc] at h2
  simp at h2
  omega
set_option maxHeartbeats 8000000 in
set_option maxRecDepth 100000 in
theorem parse_plus (HC : Hid ParseCalls) (s : ByteArray) (w : World) (h0 : 0 < s.size) (h1 : s.size ≤ 9223372036854775807)
    (h45 : (((s[0]'h0).toNat : Int) == 45) = false) (h48 : (((s[0]'h0).toNat : Int) == 48) = false) :
    Calls Try.prog 31 #[.string s] w fun e w' => e = .returned (wideRes (wparseS (bytesOf s))) ∧ Below w.heap.size w w' := by
  have hE := not_nil_toList s h0
  have hE2 : ¬ s.toList = [] := by intro h; rw [h] at hE; cases hE
  have hh := bytesOf_head s h0
  have H45 : Hid (decide ((bytesOf s).head? = some 45) = false) := Lib.hid (by rw [hh]; simpa using h45)
  have HDG : Hid (digsOf (bytesOf s) = bytesOf s) := Lib.hid (by unfold digsOf; rw [if_neg (of_decide_eq_false H45.out)])
  have HNE : Hid (¬ bytesOf s = []) := Lib.hid (by intro h; rw [h] at hh; cases hh)
  have H48 : Hid (¬ ((bytesOf s).head? = some 48 ∧ bytesOf s ≠ [48])) := Lib.hid (by rw [hh]; intro h; simp at h h48; omega)
  clear hh
  have hBad : Hid (isD (bytesOf (s)) = false → wparseS (bytesOf s) = (false, 0, 0, 0, 0, 11)) := Lib.hid fun h => wparse_bad (.inr (.inr (by rw [HDG.out]; exact h)))
  have hNo : Hid (isD (bytesOf (s)) = true → ¬ (digsOf (bytesOf s) = [] ∨ ((digsOf (bytesOf s)).head? = some 48 ∧ bytesOf s ≠ [48]) ∨ isD (digsOf (bytesOf s)) = false)) := Lib.hid fun h => by
    rintro (h' | h' | h')
    · rw [HDG.out] at h'; exact HNE.out h'
    · rw [HDG.out] at h'; exact H48.out h'
    · rw [HDG.out, h] at h'; cases h'
  have hFar : Hid (isD (bytesOf (s)) = true → top4 ≤ valD (bytesOf (s)) → wparseS (bytesOf s) = (false, 0, 0, 0, 0, 10)) := Lib.hid fun h hf => wparse_far (hNo.out h) (by rw [HDG.out]; exact hf)
  have hOk : Hid (isD (bytesOf (s)) = true → valD (bytesOf (s)) < top4 → wparseS (bytesOf s) = ((false && !decide (valD (bytesOf s) = 0)), spl0 (valD (bytesOf s)), spl1 (valD (bytesOf s)), spl2 (valD (bytesOf s)), spl3 (valD (bytesOf s)), 0)) := Lib.hid fun h hf => by
    rw [wparse_ok (hNo.out h) (by rw [HDG.out]; exact hf), HDG.out, H45.out]
  have HE1 : (w.alloc (.cells #[.bool false, .int .u64 0, .int .u64 0, .int .u64 0, .int .u64 0] 27)).heap.size = w.heap.size + 1 := by
    show (w.heap.push _).size = _
    rw [Array.size_push]
  have HF := Lib.hid (fun k : Nat => (BoxV.new w false).later (below_alloc (Below.refl (w.alloc (.cells #[.bool false, .int .u64 0, .int .u64 0, .int .u64 0, .int .u64 0] 27)).heap.size (w.alloc (.cells #[.bool false, .int .u64 0, .int .u64 0, .int .u64 0, .int .u64 0] 27))) (.stringIter s k)))
  go_enter Try.func31, Try.ntmps31
  go_wp2
  go_loopw [] (fun W => P1 w s W) (fun W => s.size - W.iterPos (w.heap.size + 1))
  case atStart => exact ⟨0, Nat.zero_le _, rfl, rfl⟩
  case round =>
    obtain ⟨k, hk, rfl, hD⟩ := hrel
    by_cases hlt : k < s.size
    · have hbt := s[k].toNat_lt
      by_cases hdig : 48 ≤ s[k].toNat ∧ s[k].toNat ≤ 57
      · obtain ⟨hd1, hd2⟩ := hdig
        have hnx := fun ty => run_next_ascii (P := Try.prog) (w.alloc (.cells #[.bool false, .int .u64 0, .int .u64 0, .int .u64 0, .int .u64 0] 27)) s k ty hlt (by omega)
        have htk := Lib.hid (bytesOf_take_succ s k hlt)
        have hDn : Hid (isD ((bytesOf s).take (k + 1)) = true) := Lib.hid (by rw [htk.out, isD_snoc, hD]; simp; omega)
        obtain ⟨b, hb⟩ : ∃ b : Nat, b = s[k].toNat := ⟨_, rfl⟩
        rw [← hb] at hnx htk hd1 hd2 hbt
        clear hb hD htk
        rw [HE1] at hnx
        go_wp2
        go_roundw
        case rel => exact ⟨k + 1, by omega, rfl, hDn.out⟩
        case measure => rw [← HE1, World.iterPos_iter, World.iterPos_iter]; omega
      · have HBAD := Lib.hid (hBad.out (isD_take_byte hlt hdig))
        by_cases h128 : s[k].toNat < 128
        · have hnx := fun ty => run_next_ascii (P := Try.prog) (w.alloc (.cells #[.bool false, .int .u64 0, .int .u64 0, .int .u64 0, .int .u64 0] 27)) s k ty hlt h128
          obtain ⟨b, hb⟩ : ∃ b : Nat, b = s[k].toNat := ⟨_, rfl⟩
          rw [← hb] at hnx hdig hbt
          clear hb h128 hD
          rw [HE1] at hnx
          have hx : BoxV ((w.alloc (.cells #[.bool false, .int .u64 0, .int .u64 0, .int .u64 0, .int .u64 0] 27)).iter s (k + 1)) w.heap.size false 0 := HF.out (k + 1)
          obtain ⟨f0, f1, f2, f3, f4⟩ := hx.fr
          obtain ⟨c0, c1, c2, c3, c4⟩ := hx.cells
          by_cases hl : b < 48
          · go_wp2
            refine bodyPost_ret (v := .tuple #[.agg #[.bool false, .int .u64 0, .int .u64 0, .int .u64 0, .int .u64 0], .int .i64 11]) (results_ct (fn := Try.f31) (p := 2) (u := 3) (ty := 27) rfl _ _ w.heap.size 27 _ (0, 0) _ rfl hx.zero Try.underlying27 rfl (by kernel_rfl)) rfl ⟨by rw [HBAD.out]; rfl, bset5 (below_alloc (below_alloc (Below.refl _ _) _) _) (Nat.le_refl _) _ _ _ _ _⟩
          · have hl2 : 57 < b := by omega
            go_wp2
            refine bodyPost_ret (v := .tuple #[.agg #[.bool false, .int .u64 0, .int .u64 0, .int .u64 0, .int .u64 0], .int .i64 11]) (results_ct (fn := Try.f31) (p := 2) (u := 3) (ty := 27) rfl _ _ w.heap.size 27 _ (0, 0) _ rfl hx.zero Try.underlying27 rfl (by kernel_rfl)) rfl ⟨by rw [HBAD.out]; rfl, bset5 (below_alloc (below_alloc (Below.refl _ _) _) _) (Nat.le_refl _) _ _ _ _ _⟩
        · have hnx := fun ty => run_next_any (P := Try.prog) (w.alloc (.cells #[.bool false, .int .u64 0, .int .u64 0, .int .u64 0, .int .u64 0] 27)) s k ty hlt
          have hr := (decode_high s k hlt (by omega)).1
          generalize Utf8.decode s k = rp at hnx hr
          obtain ⟨r, rl⟩ := rp
          dsimp only at hnx hr
          clear h128 hD
          rw [HE1] at hnx
          have hx : BoxV ((w.alloc (.cells #[.bool false, .int .u64 0, .int .u64 0, .int .u64 0, .int .u64 0] 27)).iter s (k + rl)) w.heap.size false 0 := HF.out (k + rl)
          obtain ⟨f0, f1, f2, f3, f4⟩ := hx.fr
          obtain ⟨c0, c1, c2, c3, c4⟩ := hx.cells
          go_wp2
          refine bodyPost_ret (v := .tuple #[.agg #[.bool false, .int .u64 0, .int .u64 0, .int .u64 0, .int .u64 0], .int .i64 11]) (results_ct (fn := Try.f31) (p := 2) (u := 3) (ty := 27) rfl _ _ w.heap.size 27 _ (0, 0) _ rfl hx.zero Try.underlying27 rfl (by kernel_rfl)) rfl ⟨by rw [HBAD.out]; rfl, bset5 (below_alloc (below_alloc (Below.refl _ _) _) _) (Nat.le_refl _) _ _ _ _ _⟩
    · obtain rfl : k = s.size := by omega
      have htk : (bytesOf s).take s.size = bytesOf s := List.take_of_length_le (by rw [bytesOf_length]; exact Nat.le_refl _)
      rw [htk] at hD
      have hnx := fun ty => run_next_end (P := Try.prog) (w.alloc (.cells #[.bool false, .int .u64 0, .int .u64 0, .int .u64 0, .int .u64 0] 27)) s s.size ty (Nat.lt_irrefl _)
      rw [HE1] at hnx
      have HD := Lib.hid hD
      have HTK := Lib.hid htk
      clear hD htk
      have e2 : ((w.alloc (.cells #[.bool false, .int .u64 0, .int .u64 0, .int .u64 0, .int .u64 0] 27)).iter s s.size).heap.size = w.heap.size + 1 + 1 := by
        show ((w.heap.push _).push _).size = _
        rw [Array.size_push, Array.size_push]
      go_wp2
      go_loopw [] (fun W => P2 w s W) (fun W => s.size - W.iterPos (w.heap.size + 1 + 1 + 1))
      case atStart =>
        have e3 : (((w.alloc (.cells #[.bool false, .int .u64 0, .int .u64 0, .int .u64 0, .int .u64 0] 27)).iter s s.size).alloc (.cells #[.bool false, .int .u64 0, .int .u64 0, .int .u64 0, .int .u64 0] 27)).heap.size = w.heap.size + 1 + 1 + 1 := by
          show (((w.heap.push _).push _).push _).size = _
          rw [Array.size_push, Array.size_push, Array.size_push]
        have x2 := BoxV.new ((w.alloc (.cells #[.bool false, .int .u64 0, .int .u64 0, .int .u64 0, .int .u64 0] 27)).iter s s.size) false
        rw [e2] at x2
        have x3 := World.iter_heap (((w.alloc (.cells #[.bool false, .int .u64 0, .int .u64 0, .int .u64 0, .int .u64 0] 27)).iter s s.size).alloc (.cells #[.bool false, .int .u64 0, .int .u64 0, .int .u64 0, .int .u64 0] 27)) s 0
        rw [e3] at x3
        exact ⟨0, Nat.zero_le _, ⟨below_alloc (below_alloc (below_alloc (below_alloc (Below.refl _ _) _) _) _) _, ((HF.out s.size).later (below_alloc (Below.refl _ _) _)).later (below_alloc (Below.refl _ _) _), x2.later (below_alloc (Below.refl _ _) _), x3, by omega, by omega, by omega, by omega, by omega, by omega⟩, ⟨by rw [show (bytesOf s).take 0 = [] from rfl]; decide⟩⟩
      case round =>
        obtain ⟨k, hk, PI0, hvt⟩ := hrel
        clear hnx hlt
        by_cases hlt : k < s.size
        · have hdig := take_digit hlt HD.out
          have hbt := s[k].toNat_lt
          have hnx0 := fun ty => next_at (P := Try.prog) PI0.it hlt (by omega) ty
          have htk := Lib.hid (bytesOf_take_succ s k hlt)
          obtain ⟨b, hb⟩ : ∃ b : Nat, b = s[k].toNat := ⟨_, rfl⟩
          rw [← hb] at hnx0 htk hdig hbt
          obtain ⟨hd1, hd2⟩ := hdig
          have hdl : 0 ≤ (b : Int) - 48 := by omega
          have hdh : (b : Int) - 48 ≤ 10 := by omega
          have hwa : IntKind.i32.wrap ((b : Int) - 48) = (b : Int) - 48 := wrap_dig32 hdl hdh
          have hwb : IntKind.i64.wrap ((b : Int) - 48) = (b : Int) - 48 := wrap_dig64 hdl hdh
          have hwc : IntKind.i64.wrap (IntKind.i32.wrap ((b : Int) - 48)) = (b : Int) - 48 := by rw [hwa]; exact hwb
          have hval := valD_snoc ((bytesOf s).take k) (b : Int)
          rw [← htk.out] at hval
          have hv0 := Lib.hid (valD_take k HD.out).1
          obtain ⟨v, hv⟩ : ∃ v, v = valD ((bytesOf s).take k) := ⟨_, rfl⟩
          rw [← hv] at hval PI0 hvt hv0
          have HVAL := Lib.hid hval
          obtain ⟨W1, hW1⟩ : ∃ W1, W1 = itSet wr (w.heap.size + 1 + 1 + 1) s (k + 1) := ⟨_, rfl⟩
          have PI := Aside0.mk (PI0.next (k + 1))
          rw [← hW1] at PI hnx0
          have PIR := Lib.hid PI0
          clear hval hv hb htk PI0 hW1
          obtain ⟨c0, c1, c2, c3, c4⟩ := PI.out.xn.cells
          go_wp2
          have hP0 := PI.out.dr.ps
          go_region_held3 (fun w' => w'.cell? ⟨w.heap.size + 1 + 1, 0, none⟩ = some (.bool false) ∧ w'.cell? ⟨w.heap.size + 1 + 1, 1, none⟩ = some (.int .u64 (spl0 v)) ∧ w'.cell? ⟨w.heap.size + 1 + 1, 2, none⟩ = some (.int .u64 (spl1 v)) ∧ w'.cell? ⟨w.heap.size + 1 + 1, 3, none⟩ = some (.int .u64 (spl2 v)) ∧ w'.cell? ⟨w.heap.size + 1 + 1, 4, none⟩ = some (.int .u64 (spl3 v)) ∧ PInv w w' w.heap.size (w.heap.size + 1 + 1) (w.heap.size + 1 + 1 + 1) s (k + 1) v) (first | with_reducible exact hP0 | with_reducible exact ps_store hS7 hG _ _ _ _ _ | with_reducible exact ps_later (by assumption) hB7 | with_reducible exact ps_later hS7 (below_alloc (Below.refl _ _) _) | with_reducible exact ps_later (by assumption) (below_alloc (Below.refl _ _) _) | with_reducible exact ps_later (by assumption) (below_drew (Below.refl _ _))  | (trace_state; fail)) (first | (go_at_call 38; refine (HC.out.hof _ 10 _ rfl (by decide) (by decide)).mono ?_; rintro e w7 ⟨rfl, hB7⟩; with_reducible have hS7 := ps_later (w := w) (B := w.heap.size) (n := w.heap.size + 1 + 1) (i := w.heap.size + 1 + 1 + 1) (ds := s) (k := k + 1) (v := v) (by assumption) hB7; (try (first | with_reducible have hG := ps_new (w := w) (B := w.heap.size) (n := w.heap.size + 1 + 1) (i := w.heap.size + 1 + 1 + 1) (ds := s) (k := k + 1) (v := v) (by assumption) hB7 | with_reducible have hG := ps_newd PI.out hB7 | with_reducible have hG := NewBox.later hG hB7)); (try (obtain ⟨f0, f1, f2, f3, f4⟩ := hG.bx.fr; obtain ⟨c0, c1, c2, c3, c4⟩ := hG.bx.cells))) | (go_at_call 66; refine (HC.out.hmul v _ hv0.out hvt.out).mono ?_; rintro e w7 ⟨rfl, hB7⟩; with_reducible have hS7 := ps_later (w := w) (B := w.heap.size) (n := w.heap.size + 1 + 1) (i := w.heap.size + 1 + 1 + 1) (ds := s) (k := k + 1) (v := v) (by assumption) hB7; (try (first | with_reducible have hG := ps_new (w := w) (B := w.heap.size) (n := w.heap.size + 1 + 1) (i := w.heap.size + 1 + 1 + 1) (ds := s) (k := k + 1) (v := v) (by assumption) hB7 | with_reducible have hG := ps_newd PI.out hB7 | with_reducible have hG := NewBox.later hG hB7)); (try (obtain ⟨f0, f1, f2, f3, f4⟩ := hG.bx.fr; obtain ⟨c0, c1, c2, c3, c4⟩ := hG.bx.cells))))
          all_goals
            first
              | have hN := nb_store hS7.2.2.2.2.2 hG ((v * 10) % top4)
              | have hN := nb_alloc hS7.2.2.2.2.2 ((v * 10) % top4)
            obtain ⟨W2, hW2⟩ := hN.exW
            rw [← hW2] at hN ⊢
            clear hW2
            obtain ⟨g, hg⟩ := hN.exg
            rw [← hg] at hN ⊢
            clear hg
            try clear hG f0 f1 f2 f3 f4
            clear c0 c1 c2 c3 c4 hP0 PI
            have hu := top_mod (v * 10)
            obtain ⟨u, hU⟩ : ∃ u, u = v * 10 % top4 := ⟨_, rfl⟩
            rw [← hU] at hN hu ⊢
            have HU := Lib.hid hU
            clear hU
            have hH0 := hN.dr.ps
            obtain ⟨c0, c1, c2, c3, c4⟩ := hN.nb.bx.cells
            go_wp2
            go_region_held3 (fun w' => w'.cell? ⟨g, 0, none⟩ = some (.bool false) ∧ w'.cell? ⟨g, 1, none⟩ = some (.int .u64 (spl0 u)) ∧ w'.cell? ⟨g, 2, none⟩ = some (.int .u64 (spl1 u)) ∧ w'.cell? ⟨g, 3, none⟩ = some (.int .u64 (spl2 u)) ∧ w'.cell? ⟨g, 4, none⟩ = some (.int .u64 (spl3 u)) ∧ Held w w' g w.heap.size (w.heap.size + 1 + 1) (w.heap.size + 1 + 1 + 1) u s (k + 1) v) (first | with_reducible exact (hs_store hS8.2.2.2.2.2 hG _).2.ps | with_reducible exact hs_later (by assumption) hB8 | with_reducible exact hs_later hS8 (below_alloc (Below.refl _ _) _) | with_reducible exact hs_later (by assumption) (below_alloc (Below.refl _ _) _) | with_reducible exact hs_later (by assumption) (below_drew (Below.refl _ _)) | with_reducible exact hH0 | fail) (first | (go_at_call 38; refine (HC.out.hof _ ((b : Int) - 48) _ (by first | exact hwb | exact hwc | with_reducible rfl) hdl hdh).mono ?_; rintro e w8 ⟨rfl, hB8⟩; with_reducible have hS8 := hs_later (w := w) (B := w.heap.size) (n := w.heap.size + 1 + 1) (i := w.heap.size + 1 + 1 + 1) (g := g) (u := u) (ds := s) (k := k + 1) (v := v) (by assumption) hB8; (try (first | with_reducible have hG := hs_new (w := w) (B := w.heap.size) (n := w.heap.size + 1 + 1) (i := w.heap.size + 1 + 1 + 1) (g := g) (u := u) (ds := s) (k := k + 1) (v := v) (by assumption) hB8 | with_reducible have hG := hs_newd hN hB8 | with_reducible have hG := Two.later hG hB8)); (try (obtain ⟨f0, f1, f2, f3, f4⟩ := hG.nb.bx.fr; obtain ⟨c0, c1, c2, c3, c4⟩ := hG.nb.bx.cells))) | (go_at_call 76; refine (HC.out.hadd u ((b : Int) - 48) _ hu.1 hu.2 hdl hdh).mono ?_; rintro e w8 ⟨rfl, hB8⟩; with_reducible have hS8 := hs_later (w := w) (B := w.heap.size) (n := w.heap.size + 1 + 1) (i := w.heap.size + 1 + 1 + 1) (g := g) (u := u) (ds := s) (k := k + 1) (v := v) (by assumption) hB8; (try (first | with_reducible have hG := hs_new (w := w) (B := w.heap.size) (n := w.heap.size + 1 + 1) (i := w.heap.size + 1 + 1 + 1) (g := g) (u := u) (ds := s) (k := k + 1) (v := v) (by assumption) hB8 | with_reducible have hG := hs_newd hN hB8 | with_reducible have hG := Two.later hG hB8)); (try (obtain ⟨f0, f1, f2, f3, f4⟩ := hG.nb.bx.fr; obtain ⟨c0, c1, c2, c3, c4⟩ := hG.nb.bx.cells))))
            all_goals
              first
                | have hT := hs_store hS8.2.2.2.2.2 hG ((u + ((b : Int) - 48)) % top4)
                | have hT := hs_alloc hS8.2.2.2.2.2 ((u + ((b : Int) - 48)) % top4)
              obtain ⟨hT1, hT2⟩ := hT
              obtain ⟨W3, hW3⟩ := hT1.exW
              rw [← hW3] at hT1 hT2 ⊢
              clear hW3
              obtain ⟨g2, hg2⟩ := hT1.exg
              rw [← hg2] at hT1 ⊢
              clear hg2
              try clear hG f0 f1 f2 f3 f4
              clear c0 c1 c2 c3 c4 hH0
              have hvv := hv0.out
              by_cases hlt1 : v * 10 < top4
              · have hu' : u = v * 10 := HU.out.trans (Int.emod_eq_of_lt (by omega) hlt1)
                by_cases hlt2 : u + ((b : Int) - 48) < top4
                · have hmod : (u + ((b : Int) - 48)) % top4 = u + ((b : Int) - 48) := Int.emod_eq_of_lt (by omega) hlt2
                  rw [hmod] at hT1
                  rw [hmod]
                  rw [decide_eq_true hlt1, decide_eq_true hlt2]
                  have HF2 := Lib.hid hlt2
                  have HU2 := Lib.hid hu'
                  clear hlt1 hlt2 hu' hmod hvv
                  obtain ⟨c0, c1, c2, c3, c4⟩ := hT1.nb.bx.cells
                  obtain ⟨d0, d1, d2, d3, d4⟩ := hT2.pi.xn.cells
                  obtain ⟨f0, f1, f2, f3, f4⟩ := hT2.pi.xn.fr
                  go_wp2
                  have hput := hT2.pi.put (u + ((b : Int) - 48))
                  go_roundw
                  case rel => exact ⟨k + 1, by omega, by rw [HVAL.out, show 10 * v + ((b : Int) - 48) = u + ((b : Int) - 48) by have := HU2.out; omega]; exact hput, ⟨by have := HVAL.out; have := HU2.out; have := HF2.out; omega⟩⟩
                  case measure => rw [iterPos_of hput.it, iterPos_of PIR.out.it]; omega
                · rw [decide_eq_true hlt1, decide_eq_false hlt2]
                  have HFAR := Lib.hid (hFar.out HD.out (by have := HVAL.out; have := (valD_take (k + 1) HD.out).2; omega))
                  clear hlt1 hlt2 hu' hvv
                  obtain ⟨c0, c1, c2, c3, c4⟩ := hT2.pi.xr.cells
                  obtain ⟨f0, f1, f2, f3, f4⟩ := hT2.pi.xr.fr
                  go_wp2
                  refine bodyPost_ret (v := .tuple #[.agg #[.bool false, .int .u64 0, .int .u64 0, .int .u64 0, .int .u64 0], .int .i64 10]) (results_ct (fn := Try.f31) (p := 2) (u := 3) (ty := 27) rfl _ _ w.heap.size 27 _ (0, 0) _ rfl hT2.pi.xr.zero Try.underlying27 rfl (by kernel_rfl)) rfl ⟨by rw [HFAR.out]; rfl, bset5 hT2.pi.hb (Nat.le_refl _) _ _ _ _ _⟩
              · rw [decide_eq_false hlt1]
                have HFAR := Lib.hid (hFar.out HD.out (by have := HVAL.out; have := (valD_take (k + 1) HD.out).2; omega))
                clear hlt1 hvv
                obtain ⟨c0, c1, c2, c3, c4⟩ := hT2.pi.xr.cells
                obtain ⟨f0, f1, f2, f3, f4⟩ := hT2.pi.xr.fr
                go_wp2
                refine bodyPost_ret (v := .tuple #[.agg #[.bool false, .int .u64 0, .int .u64 0, .int .u64 0, .int .u64 0], .int .i64 10]) (results_ct (fn := Try.f31) (p := 2) (u := 3) (ty := 27) rfl _ _ w.heap.size 27 _ (0, 0) _ rfl hT2.pi.xr.zero Try.underlying27 rfl (by kernel_rfl)) rfl ⟨by rw [HFAR.out]; rfl, bset5 hT2.pi.hb (Nat.le_refl _) _ _ _ _ _⟩
        · obtain rfl : k = s.size := by omega
          have hnx0 := fun ty => next_end (P := Try.prog) PI0.it hlt ty
          rw [HTK.out] at PI0 hvt
          have hv0 := valD_nonneg HD.out
          have HR := Lib.hid (hOk.out HD.out hvt.out)
          have P0 := PI0.fin
          obtain ⟨v, hv⟩ : ∃ v, v = valD (bytesOf s) := ⟨_, rfl⟩
          rw [← hv] at P0 hvt hv0 HR
          clear PI0 hlt hv hk
          have hP0 := (P0.later (below_drew (Below.refl _ _))).ps
          go_wp2
          go_region_held3 (fun w' => w'.cell? ⟨w.heap.size + 1 + 1, 1, none⟩ = some (.int .u64 (spl0 v)) ∧ w'.cell? ⟨w.heap.size + 1 + 1, 2, none⟩ = some (.int .u64 (spl1 v)) ∧ w'.cell? ⟨w.heap.size + 1 + 1, 3, none⟩ = some (.int .u64 (spl2 v)) ∧ w'.cell? ⟨w.heap.size + 1 + 1, 4, none⟩ = some (.int .u64 (spl3 v)) ∧ PFin w w' w.heap.size (w.heap.size + 1 + 1) v) (first | with_reducible exact hP0 | with_reducible exact (PFin.store hS9 _ _).ps | with_reducible exact hS9.ps | with_reducible assumption) (first | (go_at_call 67; refine (HC.out.hsgn _ v _ hv0 hvt.out).mono ?_; rintro e w9 ⟨rfl, hB9⟩; have hS9 : PFin w w9 w.heap.size (w.heap.size + 1 + 1) v := PFin.later (PFS.fin (by assumption)) hB9; obtain ⟨m0, u0, hx9⟩ := hS9.xr; obtain ⟨f0, f1, f2, f3, f4⟩ := hx9.fr; obtain ⟨c0, c1, c2, c3, c4⟩ := hx9.cells))
          go_wp2
          exact bodyPost_ret (v := .tuple #[wideV (false && !decide (v = 0)) v, .int .i64 0]) (results_ct (fn := Try.f31) (p := 2) (u := 3) (ty := 27) rfl _ _ w.heap.size 27 _ (0, 0) _ rfl (hx9.setAll _ v) Try.underlying27 rfl (by kernel_rfl)) rfl ⟨by rw [HR.out]; rfl, bset5 hS9.hb (Nat.le_refl _) _ _ _ _ _⟩
end Go.Proofs.Ytmpbbodafenonaa

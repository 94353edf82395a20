/- The functions of the given program told as Lean functions, each with its contract proved; no condition. -/
import Derived.Test.YtajfaieiabnknaaMT0
import Derived.Test.YtajfaieiabnknaaMT1
import Derived.Test.YtajfaieiabnknaaMT5
namespace Go.Proofs.Ytajfaieiabnknaa.MT
open Go.RowKit Go.Proofs.YtajfaieiabnknaaW.PrintWords Go.Proofs.YtajfaieiabnknaaW.PrintLast Go.Proofs.YtajfaieiabnknaaW.PrintMore
attribute [local go_sem] max2_int min2_int max_two min_two max_three min_three max_four min_four   -- for this text's walks alone
set_option linter.unusedVariables false
set_option linter.unusedSimpArgs false

/-! ### parquetlaw02_TokenNumbers: function 5 -/
def parquetlaw02_TokenNumbers.f (k : Nat) (a0 : ByteArray) (a1 : Int) : Option (Bool) := if (a0.size : Int) > 200 then ((parquetlaw02_known.f).bind fun t220 => (some t220)) else ((token_Number.f a0 a1).bind fun bt221 => ((parquetref02_Number.f k a0 a1).bind fun bt223 => (if bt221.1 = bt223.1 then (if bt221.2 = bt223.2 then ((parquetlaw02_known.f).bind fun t225 => (some t225)) else (some false)) else (some false))))
theorem parquetlaw02_TokenNumbers.mono : ∀ a0 a1 k, LeO (parquetlaw02_TokenNumbers.f k a0 a1) (parquetlaw02_TokenNumbers.f (k + 1) a0 a1) := by
  intro a0 a1 k
  unfold parquetlaw02_TokenNumbers.f
  repeat' first
      | (with_reducible exact parquetref02_Number.mono _ _ _)
      | (with_reducible exact LeO.refl _)
      | (with_reducible exact LeO.none _)
      | (with_reducible refine LeO.ite ?_ ?_)
      | (with_reducible refine LeO.bind ?_ (fun _ => ?_))
      | exact parquetref02_Number.mono _ _ _
      | exact LeO.none _
      | refine LeO.ite ?_ ?_
      | refine LeO.bind ?_ (fun _ => ?_)
set_option maxHeartbeats 8000000 in
set_option maxRecDepth 100000 in
theorem parquetlaw02_TokenNumbers.calls (k : Nat) (a0 : ByteArray) (a1 : Int) (r : Bool) (w : World) (h : parquetlaw02_TokenNumbers.f k a0 a1 = some r) :
    Calls Try.prog 5 #[.string a0, .int .i64 a1] w fun e w' => e = .returned (.bool r) ∧ Below w.heap.size w w' := by
  have HB := Aside0.mk (Below.refl w.heap.size w)
  have H : (if (a0.size : Int) > 200 then ((parquetlaw02_known.f).bind fun t220 => (some t220)) else ((token_Number.f a0 a1).bind fun bt221 => ((parquetref02_Number.f k a0 a1).bind fun bt223 => (if bt221.1 = bt223.1 then (if bt221.2 = bt223.2 then ((parquetlaw02_known.f).bind fun t225 => (some t225)) else (some false)) else (some false))))) = some r := h
  clear h
  by_cases c3 : (a0.size : Int) > 200
  · rw [if_pos c3] at H
    have c3b0 : decide (200 < (a0.size : Int)) = true := decide_eq_true c3
    have c3b1 : decide (200 < a0.size) = true := decide_eq_true (by omega)
    clear c3
    replace H := Option.bind_eq_some_iff.mp H
    obtain ⟨t220, A40, H⟩ := H
    replace H : (some t220) = some r := H
    have A4 := Aside0.mk A40
    clear A40
    obtain rfl := Option.some.inj H
    go_enter Try.func5, Try.ntmps5
    go_wp2_with (first | ((with_reducible refine gate_callee (f := 16) rfl ?_); refine goesL_ (some 12) rfl rfl Try.func16 (by kernel_rfl) rfl #[] rfl (by (try simp only [List.map_toArray, List.map_cons, List.map_nil]); first | done | rfl | (simp only [List.length_drop, List.length_take]; rfl)) ?_; (with_reducible refine (parquetlaw02_known.calls  t220 _ A4.out).mono ?_); rintro e w5 ⟨rfl, hb⟩; refine ⟨_, rfl, ?_⟩; have n0_ := Aside0.mk (below_step (by repeat (first | (with_reducible first | exact HB.out | apply below_alloc | apply pw_below_drewN | apply below_drew1) | exact HB.out)) hb); clear HB; have HB := n0_; clear n0_; (try clear hb); (try clear hb2); (try clear hk); (try clear hi)))
    go_ret
    exact ⟨by first | rfl | (simp [errW_none, errW_some] <;> rfl) | (simp [*, errW_none, errW_some] <;> rfl), by repeat (first | (with_reducible first | exact HB.out | apply below_alloc | apply pw_below_drewN | apply below_drew1) | exact HB.out)⟩
  · rw [if_neg c3] at H
    have c3b0 : decide (200 < (a0.size : Int)) = false := decide_eq_false c3
    have c3b1 : decide (200 < a0.size) = false := decide_eq_false (by omega)
    clear c3
    replace H := Option.bind_eq_some_iff.mp H
    obtain ⟨⟨t221, t222⟩, A60, H⟩ := H
    replace H : ((parquetref02_Number.f k a0 a1).bind fun bt223 => (if t221 = bt223.1 then (if t222 = bt223.2 then ((parquetlaw02_known.f).bind fun t225 => (some t225)) else (some false)) else (some false))) = some r := H
    have A6 := Aside0.mk A60
    clear A60
    replace H := Option.bind_eq_some_iff.mp H
    obtain ⟨⟨t223, t224⟩, A70, H⟩ := H
    replace H : (if t221 = t223 then (if t222 = t224 then ((parquetlaw02_known.f).bind fun t225 => (some t225)) else (some false)) else (some false)) = some r := H
    have A7 := Aside0.mk A70
    clear A70
    by_cases c8 : t221 = t223
    · rw [if_pos c8] at H
      have c8b0 : (t221 == t223) = true := beq_iff_eq.mpr c8
      have c8b1 : (t221 != t223) = false := bne_eq_false_iff_eq.mpr c8
      clear c8
      by_cases c9 : t222 = t224
      · rw [if_pos c9] at H
        have c9b0 : (t222 == t224) = true := beq_iff_eq.mpr c9
        have c9b1 : (t222 != t224) = false := bne_eq_false_iff_eq.mpr c9
        clear c9
        replace H := Option.bind_eq_some_iff.mp H
        obtain ⟨t225, A100, H⟩ := H
        replace H : (some t225) = some r := H
        have A10 := Aside0.mk A100
        clear A100
        obtain rfl := Option.some.inj H
        go_enter Try.func5, Try.ntmps5
        go_wp2_with (first | ((with_reducible refine gate_callee (f := 21) rfl ?_); refine goesL_ (some 16) rfl rfl Try.func21 (by kernel_rfl) rfl #[.string a0, .int .i64 a1] rfl (by (try simp only [List.map_toArray, List.map_cons, List.map_nil]); first | done | rfl | (simp only [List.length_drop, List.length_take]; rfl)) ?_; (with_reducible refine (token_Number.calls a0 a1 t221 t222 _ A6.out).mono ?_); rintro e w11 ⟨rfl, hb⟩; refine ⟨_, rfl, ?_⟩; have n0_ := Aside0.mk (below_step (by repeat (first | (with_reducible first | exact HB.out | apply below_alloc | apply pw_below_drewN | apply below_drew1) | exact HB.out)) hb); clear HB; have HB := n0_; clear n0_; (try clear hb); (try clear hb2); (try clear hk); (try clear hi)) | ((with_reducible refine gate_callee (f := 22) rfl ?_); refine goesL_ (some 22) rfl rfl Try.func22 (by kernel_rfl) rfl #[.string a0, .int .i64 a1] rfl (by (try simp only [List.map_toArray, List.map_cons, List.map_nil]); first | done | rfl | (simp only [List.length_drop, List.length_take]; rfl)) ?_; (with_reducible refine (parquetref02_Number.calls k a0 a1 t223 t224 _ A7.out).mono ?_); rintro e w12 ⟨rfl, hb⟩; refine ⟨_, rfl, ?_⟩; have n0_ := Aside0.mk (below_step (by repeat (first | (with_reducible first | exact HB.out | apply below_alloc | apply pw_below_drewN | apply below_drew1) | exact HB.out)) hb); clear HB; have HB := n0_; clear n0_; (try clear hb); (try clear hb2); (try clear hk); (try clear hi)) | (go_at_call 16; (with_reducible refine (parquetlaw02_known.calls  t225 _ A10.out).mono ?_); rintro e w13 ⟨rfl, hb⟩; have n0_ := Aside0.mk (below_step (by repeat (first | (with_reducible first | exact HB.out | apply below_alloc | apply pw_below_drewN | apply below_drew1) | exact HB.out)) hb); clear HB; have HB := n0_; clear n0_; (try clear hb); (try clear hb2); (try clear hk); (try clear hi)))
        go_ret
        exact ⟨by first | rfl | (simp [errW_none, errW_some] <;> rfl) | (simp [*, errW_none, errW_some] <;> rfl), by repeat (first | (with_reducible first | exact HB.out | apply below_alloc | apply pw_below_drewN | apply below_drew1) | exact HB.out)⟩
      · rw [if_neg c9] at H
        have c9b0 : (t222 == t224) = false := beq_eq_false_iff_ne.mpr c9
        have c9b1 : (t222 != t224) = true := bne_iff_ne.mpr c9
        obtain rfl := Option.some.inj H
        go_enter Try.func5, Try.ntmps5
        go_wp2_with (first | ((with_reducible refine gate_callee (f := 21) rfl ?_); refine goesL_ (some 16) rfl rfl Try.func21 (by kernel_rfl) rfl #[.string a0, .int .i64 a1] rfl (by (try simp only [List.map_toArray, List.map_cons, List.map_nil]); first | done | rfl | (simp only [List.length_drop, List.length_take]; rfl)) ?_; (with_reducible refine (token_Number.calls a0 a1 t221 t222 _ A6.out).mono ?_); rintro e w14 ⟨rfl, hb⟩; refine ⟨_, rfl, ?_⟩; have n0_ := Aside0.mk (below_step (by repeat (first | (with_reducible first | exact HB.out | apply below_alloc | apply pw_below_drewN | apply below_drew1) | exact HB.out)) hb); clear HB; have HB := n0_; clear n0_; (try clear hb); (try clear hb2); (try clear hk); (try clear hi)) | ((with_reducible refine gate_callee (f := 22) rfl ?_); refine goesL_ (some 22) rfl rfl Try.func22 (by kernel_rfl) rfl #[.string a0, .int .i64 a1] rfl (by (try simp only [List.map_toArray, List.map_cons, List.map_nil]); first | done | rfl | (simp only [List.length_drop, List.length_take]; rfl)) ?_; (with_reducible refine (parquetref02_Number.calls k a0 a1 t223 t224 _ A7.out).mono ?_); rintro e w15 ⟨rfl, hb⟩; refine ⟨_, rfl, ?_⟩; have n0_ := Aside0.mk (below_step (by repeat (first | (with_reducible first | exact HB.out | apply below_alloc | apply pw_below_drewN | apply below_drew1) | exact HB.out)) hb); clear HB; have HB := n0_; clear n0_; (try clear hb); (try clear hb2); (try clear hk); (try clear hi)))
        go_ret
        exact ⟨by first | rfl | (simp [errW_none, errW_some] <;> rfl) | (simp [*, errW_none, errW_some] <;> rfl), by repeat (first | (with_reducible first | exact HB.out | apply below_alloc | apply pw_below_drewN | apply below_drew1) | exact HB.out)⟩
    · rw [if_neg c8] at H
      have c8b0 : (t221 == t223) = false := beq_eq_false_iff_ne.mpr c8
      have c8b1 : (t221 != t223) = true := bne_iff_ne.mpr c8
      obtain rfl := Option.some.inj H
      go_enter Try.func5, Try.ntmps5
      go_wp2_with (first | ((with_reducible refine gate_callee (f := 21) rfl ?_); refine goesL_ (some 16) rfl rfl Try.func21 (by kernel_rfl) rfl #[.string a0, .int .i64 a1] rfl (by (try simp only [List.map_toArray, List.map_cons, List.map_nil]); first | done | rfl | (simp only [List.length_drop, List.length_take]; rfl)) ?_; (with_reducible refine (token_Number.calls a0 a1 t221 t222 _ A6.out).mono ?_); rintro e w16 ⟨rfl, hb⟩; refine ⟨_, rfl, ?_⟩; have n0_ := Aside0.mk (below_step (by repeat (first | (with_reducible first | exact HB.out | apply below_alloc | apply pw_below_drewN | apply below_drew1) | exact HB.out)) hb); clear HB; have HB := n0_; clear n0_; (try clear hb); (try clear hb2); (try clear hk); (try clear hi)) | ((with_reducible refine gate_callee (f := 22) rfl ?_); refine goesL_ (some 22) rfl rfl Try.func22 (by kernel_rfl) rfl #[.string a0, .int .i64 a1] rfl (by (try simp only [List.map_toArray, List.map_cons, List.map_nil]); first | done | rfl | (simp only [List.length_drop, List.length_take]; rfl)) ?_; (with_reducible refine (parquetref02_Number.calls k a0 a1 t223 t224 _ A7.out).mono ?_); rintro e w17 ⟨rfl, hb⟩; refine ⟨_, rfl, ?_⟩; have n0_ := Aside0.mk (below_step (by repeat (first | (with_reducible first | exact HB.out | apply below_alloc | apply pw_below_drewN | apply below_drew1) | exact HB.out)) hb); clear HB; have HB := n0_; clear n0_; (try clear hb); (try clear hb2); (try clear hk); (try clear hi)))
      go_ret
      exact ⟨by first | rfl | (simp [errW_none, errW_some] <;> rfl) | (simp [*, errW_none, errW_some] <;> rfl), by repeat (first | (with_reducible first | exact HB.out | apply below_alloc | apply pw_below_drewN | apply below_drew1) | exact HB.out)⟩

/-- THE ONE PURE STATEMENT of parquetlaw02_TokenNumbers: yours. -/
def parquetlaw02_TokenNumbers.Pure : Prop := ∀ (a0 : ByteArray) (a1 : Int), a0.size ≤ 140737488351232 → (Lit.int .i64 a1).wf = true → ∃ k, parquetlaw02_TokenNumbers.f k a0 a1 = some true
theorem parquetlaw02_TokenNumbers.walk (P : parquetlaw02_TokenNumbers.Pure) (a0 : ByteArray) (a1 : Int) (w : World) (w0 : a0.size ≤ 140737488351232) (w1 : (Lit.int .i64 a1).wf = true) :
    Calls Try.prog 5 #[.string a0, .int .i64 a1] w fun e w' => e = .returned (.bool true) ∧ Below w.heap.size w w' := by
  obtain ⟨k, h⟩ := P a0 a1 w0 w1
  refine (parquetlaw02_TokenNumbers.calls k a0 a1 true w h).mono ?_
  rintro e w' ⟨rfl, hd⟩
  exact ⟨rfl, hd⟩

/-! ### parquetref01_tenth: function 44 -/
def parquetref01_tenth.l0 : Nat → List Int → List Int → Int → Int → Option (List Int × Int)
  | 0, _, _, _, _ => none
  | k + 1, x0, x4, x5, x6 => if x6 ≥ 0 then (if 0 ≤ x6 then (if x6 < (x0.length : Int) then (if x6 < (x4.length : Int) then (parquetref01_tenth.l0 k x0 (x4.set (x6 : Int).toNat (wrap64 (Int.tdiv (wrap64 ((wrap64 (x5 * 65536)) + (rd x0 x6))) 10))) (Int.tmod (wrap64 ((wrap64 (x5 * 65536)) + (rd x0 x6))) 10) (wrap64 (x6 - 1))) else (none)) else (none)) else (none)) else ((parquetref01_trim.f k false x4).bind fun bt231 => (some (bt231.2, x5)))
def parquetref01_tenth.f (k : Nat) (l0 : List Int) : Option (List Int × Int) := if 0 ≤ (l0.length : Int) then (if ((l0.length : Int) : Int).toNat ≤ 35184372088832 then (parquetref01_tenth.l0 k l0 (List.replicate ((l0.length : Int) : Int).toNat 0) 0 (wrap64 ((l0.length : Int) - 1))) else (none)) else (none)
theorem parquetref01_tenth.mono_l : ∀ k, (∀ y0 y1 y2 y3, LeO (parquetref01_tenth.l0 k y0 y1 y2 y3) (parquetref01_tenth.l0 (k + 1) y0 y1 y2 y3))
  | 0 => fun _ _ _ _ r h => by simp [parquetref01_tenth.l0] at h
  | k + 1 => by
    have ih0 := parquetref01_tenth.mono_l k
    · intro y0 y1 y2 y3
      unfold parquetref01_tenth.l0
      repeat' first
      | (with_reducible exact ih0 _ _ _ _)
      | (with_reducible exact parquetref01_trim.mono _ _ _)
      | (with_reducible exact LeO.refl _)
      | (with_reducible exact LeO.none _)
      | (with_reducible refine LeO.ite ?_ ?_)
      | (with_reducible refine LeO.bind ?_ (fun _ => ?_))
      | exact ih0 _ _ _ _
      | exact parquetref01_trim.mono _ _ _
      | exact LeO.none _
      | refine LeO.ite ?_ ?_
      | refine LeO.bind ?_ (fun _ => ?_)
theorem parquetref01_tenth.mono : ∀ a0 k, LeO (parquetref01_tenth.f k a0) (parquetref01_tenth.f (k + 1) a0) := by
  intro a0 k
  have ih0 := parquetref01_tenth.mono_l k
  unfold parquetref01_tenth.f
  repeat' first
      | (with_reducible exact ih0 _ _ _ _)
      | (with_reducible exact parquetref01_trim.mono _ _ _)
      | (with_reducible exact LeO.refl _)
      | (with_reducible exact LeO.none _)
      | (with_reducible refine LeO.ite ?_ ?_)
      | (with_reducible refine LeO.bind ?_ (fun _ => ?_))
      | exact ih0 _ _ _ _
      | exact parquetref01_trim.mono _ _ _
      | exact LeO.none _
      | refine LeO.ite ?_ ?_
      | refine LeO.bind ?_ (fun _ => ?_)
set_option maxHeartbeats 8000000 in
set_option maxRecDepth 100000 in
theorem parquetref01_tenth.calls (k : Nat) (A0 : Option Addr) (c0 : Nat) (l0 : List Int) (r1 : List Int) (r2 : Int) (w : World) (hr0 : Kd.C (Kd.int .i64) w A0 l0.length l0) (hc0 : l0.length ≤ c0) (h : parquetref01_tenth.f k l0 = some (r1, r2)) :
    Calls Try.prog 44 #[.slice A0 l0.length c0] w fun e w' => ∃ v0_ : Value, e = .returned (.tuple #[v0_, .int .i64 r2]) ∧ Kd.V (Kd.int .i64) 3 w' w.heap.size (fun k_ => (w.heap.size ≤ k_)) v0_ r1 ∧ Below w.heap.size w w' := by
  have hu46 := Try.underlying46
  have hfd46_1 : ∀ (x0_ : Bool) (A1_ : Option Addr) (n1_ c1_ : Nat) (W_ : World), (Instr.field 46 (.agg #[.bool x0_, .slice A1_ n1_ c1_]) 1).run Try.prog W_ = .ok (.slice A1_ n1_ c1_) W_ := fun _ _ _ _ _ => by kernel_rfl
  have HR0 := Aside0.mk hr0
  have HC0 := Aside0.mk hc0
  clear hr0 hc0
  have HB := Aside0.mk (Below.refl w.heap.size w)
  have H : (if 0 ≤ (l0.length : Int) then (if ((l0.length : Int) : Int).toNat ≤ 35184372088832 then (parquetref01_tenth.l0 k l0 (List.replicate ((l0.length : Int) : Int).toNat 0) 0 (wrap64 ((l0.length : Int) - 1))) else (none)) else (none)) = some (r1, r2) := h
  clear h
  by_cases c2 : 0 ≤ (l0.length : Int)
  · rw [if_pos c2] at H
    have c2b0 := eq_true c2
    have c2b1 : decide (0 ≤ (l0.length : Int)) = true := decide_eq_true c2
    clear c2
    by_cases c3 : ((l0.length : Int) : Int).toNat ≤ 35184372088832
    · rw [if_pos c3] at H
      have c3b0 := eq_true c3
      have c3b1 : decide (((l0.length : Int) : Int).toNat ≤ 35184372088832) = true := decide_eq_true c3
      clear c3
      obtain ⟨y226, hy226⟩ : ∃ y_ : List Int, y_ = (List.replicate ((l0.length : Int) : Int).toNat 0) := ⟨_, rfl⟩
      replace H : (parquetref01_tenth.l0 k l0 y226 0 (wrap64 ((l0.length : Int) - 1))) = some (r1, r2) := by first | (rw [hy226]; with_reducible exact H) | (have H2_ := (Option.bind_some _ _).symm.trans H; rw [hy226]; with_reducible exact H2_) | (have H2_ := (Option.bind_some _ _).symm.trans H; with_reducible exact H2_) | with_reducible exact H | (rw [hy226]; exact H) | exact H
      have Ny226 := Aside0.mk hy226
      clear hy226
      have H' := Aside0.mk H
      clear H
      go_enter Try.func44, Try.ntmps44
      go_wp2_with (first | ((with_reducible refine gate_dst (N := 10) rfl ?_); refine Kd.R_make (Kd.int .i64) _ 3 rfl (N := 10) rfl 44 _ _ rfl (l0.length : Int) rfl rfl Try.underlying44 (.int .i64 0) 8 info3 rfl (by decide) (by omega) 0 (ok := fun _ => True) (okp := fun _ => True) rfl (fun _ hk => hk) trivial (of_decide_eq_true (by first | (with_reducible assumption) | assumption)) (Nat.le_trans (Nat.mul_le_mul_right _ (of_decide_eq_true (by first | (with_reducible assumption) | assumption) : (l0.length : Int).toNat ≤ 35184372088832)) (by omega)) (Below.refl _ _) (Nat.le_refl _) ?_; intro v227 w4 ho5 hb hg_ hnew_; clear hg_ hnew_; (first | rw [← Ny226.out] at ho5 | (simp only [Int.reduceToNat] at ho5; rw [← Ny226.out] at ho5)); have n0_ := Aside0.mk (Kd.R_lower (Kd.R_newM (M := fun k_ => (w.heap.size ≤ k_)) ho5 (below_size (by repeat (first | (with_reducible first | exact HB.out | apply below_alloc | apply pw_below_drewN | apply below_drew1) | exact HB.out))) (fun k_ h_ => h_)) (below_size (by repeat (first | (with_reducible first | exact HB.out | apply below_alloc | apply pw_below_drewN | apply below_drew1) | exact HB.out)))); have n1_ := Aside0.mk (below_step (by repeat (first | (with_reducible first | exact HB.out | apply below_alloc | apply pw_below_drewN | apply below_drew1) | exact HB.out)) hb); clear HB; have HO228 := n0_; have HB := n1_; clear n0_ n1_; clear hb ho5))
      go_loopg [5, 6] k (fun kq v5 v6 w' => ∃ (x4_1 : List Int) (x5_1 : Int) (x6_1 : Int), v5 = .int .i64 x5_1 ∧ v6 = .int .i64 x6_1 ∧ Aside0 (parquetref01_tenth.l0 kq l0 x4_1 x5_1 x6_1 = some (r1, r2)) ∧ Aside0 (kq ≤ k) ∧ Aside0 (Kd.R (Kd.int .i64) 3 w' w.heap.size (fun k_ => (w.heap.size ≤ k_)) v227 x4_1) ∧ Aside0 (Below w.heap.size w w'))
      case atStart => exact ⟨(y226), (0), (wrap64 ((l0.length : Int) - 1)), (by first | rfl | (simp; done) | (simp [*]; done)), (by first | rfl | (simp; done) | (simp [*]; done)), H', ⟨Nat.le_refl _⟩, ⟨by (with_reducible repeat (first | apply Kd.R_alloc | apply Kd.R_drewN | apply Kd.R_drew)); exact Kd.R_mono HO228.out (fun _ hk => hk.1)⟩, ⟨by repeat (first | (with_reducible first | exact HB.out | apply below_alloc | apply pw_below_drewN | apply below_drew1) | exact HB.out)⟩⟩
      case round =>
        clear H'
        try clear c2
        try clear c2b0
        try clear c2b1
        try clear p2
        try clear c3
        try clear c3b0
        try clear c3b1
        try clear c4
        obtain ⟨x4_1, x5_1, x6_1, rfl, rfl, HA, HK1, HO_4, HB⟩ := hrel
        cases gk with
        | zero => exact absurd HA.out (by simp [parquetref01_tenth.l0])
        | succ k1 =>
          have H := HA.out
          clear HA
          simp only [parquetref01_tenth.l0] at H
          by_cases c6 : x6_1 ≥ 0
          · rw [if_pos c6] at H
            have c6b0 : decide (0 ≤ x6_1) = true := decide_eq_true c6
            clear c6
            by_cases c7 : 0 ≤ x6_1
            · rw [if_pos c7] at H
              have c7b0 : decide (0 ≤ x6_1) = true := decide_eq_true c7
              clear c7
              by_cases c8 : x6_1 < (l0.length : Int)
              · rw [if_pos c8] at H
                have c8b0 : decide (x6_1 < (l0.length : Int)) = true := decide_eq_true c8
                clear c8
                by_cases c9 : x6_1 < (x4_1.length : Int)
                · rw [if_pos c9] at H
                  have c9b0 : decide (x6_1 < (x4_1.length : Int)) = true := decide_eq_true c9
                  clear c9
                  obtain ⟨y230, hy230⟩ : ∃ y_ : List Int, y_ = (x4_1.set (x6_1 : Int).toNat (wrap64 (Int.tdiv (wrap64 ((wrap64 (x5_1 * 65536)) + (rd l0 x6_1))) 10))) := ⟨_, rfl⟩
                  replace H : (parquetref01_tenth.l0 k1 l0 y230 (Int.tmod (wrap64 ((wrap64 (x5_1 * 65536)) + (rd l0 x6_1))) 10) (wrap64 (x6_1 - 1))) = some (r1, r2) := by first | (rw [hy230]; with_reducible exact H) | (have H2_ := (Option.bind_some _ _).symm.trans H; rw [hy230]; with_reducible exact H2_) | (have H2_ := (Option.bind_some _ _).symm.trans H; with_reducible exact H2_) | with_reducible exact H | (rw [hy230]; exact H) | exact H
                  have Ny230 := Aside0.mk hy230
                  clear hy230
                  have H' := Aside0.mk H
                  clear H
                  have p229 : 0 ≤ (x6_1 : Int) := of_decide_eq_true (by first | (with_reducible assumption) | assumption)
                  have q229 : x6_1 < (l0.length : Int) := of_decide_eq_true (by first | (with_reducible assumption) | assumption)
                  obtain ⟨ad229, e229, hx229_0⟩ := Kd.at_int HR0.out x6_1 p229 q229
                  cases e229
                  replace hx229_0 := (HB.out.cell (World.block_lt_of_cell? w _ hx229_0)).trans hx229_0
                  replace p229 := eq_true p229
                  replace q229 := eq_true q229
                  have p10 : 0 ≤ (x6_1 : Int) := of_decide_eq_true (by first | (with_reducible assumption) | assumption)
                  have q10 : (x6_1 : Int) < ((x4_1.length : Int) : Int) := of_decide_eq_true (by first | (with_reducible assumption) | assumption)
                  obtain ⟨go10, co10, eo10, gb10, gl10, cl10, HG10⟩ := Kd.R_form HO_4.out (by omega)
                  (first | cases eo10 | (injection eo10 with ea_ en_ ec_; (first | subst ea_ | (injection ea_ with ea_; subst ea_)); subst ec_; clear en_))
                  have GB10 := Aside0.mk gb10
                  have GG10 := Aside0.mk HG10
                  clear gb10 gl10 HG10
                  obtain ⟨hx10_0, hf10_0⟩ := Kd.R_celln 0 HO_4.out (x6_1 : Int) p10 q10
                  replace p10 := eq_true p10
                  replace q10 := eq_true q10
                  have HP11 := Kd.R_putg HO_4.out (x6_1 : Int) (wrap64 (Int.tdiv (wrap64 ((wrap64 (x5_1 * 65536)) + (rd l0 x6_1))) 10))
                  go_wp2_with (first | ((with_reducible refine gate_store (t := 3) (p := 29) rfl ?_); refine store_event (t := 3) (p := 29) (v := ?vo_w12) (w1 := (wr.setCell ⟨go10, (x6_1 : Int).toNat, none⟩ (.int .i64 (wrap64 (Int.tdiv (wrap64 ((wrap64 (x5_1 * 65536)) + (rd l0 x6_1))) 10))))) ?hg ?ho ?hn ?hr ?_; (case ho => rfl); (case hg => rfl); (case hn => rfl); (case hr => first | (go_simp; done) | (go_simp; rfl)); intro w12 hw; have hg : wr.grownBy w12 (some go10) := (by rw [hw]; exact HP11.2); have hp_ : Kd.R (Kd.int .i64) 3 w12 w.heap.size (fun k_ => (w.heap.size ≤ k_)) (.slice (some ⟨go10, 0, none⟩) x4_1.length co10) y230 := (by rw [hw, Ny230.out]; exact HP11.1); clear HP11; have n0_ := Aside0.mk (hp_); have n1_ := Aside0.mk ((by rw [hw]; exact below_set (HB.out) GB10.out : Below w.heap.size w w12)); clear HO_4; clear HB; have HO_4 := n0_; have HB := n1_; clear n0_ n1_; clear hg hw hp_))
                  go_roundg k1
                  case measure => have := HK1.out; omega
                  case rel => exact ⟨(y230), (Int.tmod (wrap64 ((wrap64 (x5_1 * 65536)) + (rd l0 x6_1))) 10), (wrap64 (x6_1 - 1)), (by first | rfl | (simp; done) | (simp [*]; done)), (by first | rfl | (simp; done) | (simp [*]; done)), H', ⟨by have := HK1.out; omega⟩, ⟨by (with_reducible repeat (first | apply Kd.R_alloc | apply Kd.R_drewN | apply Kd.R_drew)); exact HO_4.out⟩, ⟨by repeat (first | (with_reducible first | exact HB.out | apply below_alloc | apply pw_below_drewN | apply below_drew1) | exact HB.out)⟩⟩
                · rw [if_neg c9] at H
                  exact absurd H (by simp)
              · rw [if_neg c8] at H
                exact absurd H (by simp)
            · rw [if_neg c7] at H
              exact absurd H (by simp)
          · rw [if_neg c6] at H
            have c6b0 : decide (0 ≤ x6_1) = false := decide_eq_false c6
            clear c6
            replace H := Option.bind_eq_some_iff.mp H
            obtain ⟨⟨t231, t232⟩, A130, H⟩ := H
            replace H : (some (t232, x5_1)) = some (r1, r2) := H
            have A13 := Aside0.mk A130
            clear A130
            simp only [Option.some.injEq, Prod.mk.injEq] at H
            obtain ⟨rfl, rfl⟩ := H
            obtain ⟨Ao14, co14, eo14⟩ := Kd.R_slice HO_4.out
            subst eo14
            go_wp2_with (first | ((with_reducible refine gate_callee (f := 43) rfl ?_); refine goesL_ (some 33) rfl rfl Try.func43 (by kernel_rfl) rfl #[.bool false, .slice Ao14 x4_1.length co14] rfl (by (try simp only [List.map_toArray, List.map_cons, List.map_nil]); first | done | rfl | (simp only [List.length_drop, List.length_take]; rfl)) ?_; (with_reducible refine (parquetref01_trim.calls k1 false (fun k_ => some k_ = (.slice Ao14 x4_1.length co14 : Value).ownBlock) _ _ x4_1 t231 t232 _ ?side1 A13.out).mono ?_); (case side1 => exact Kd.R_V (Kd.R_tight rfl (HO_4.out))); rintro e w15 ⟨v233, rfl, ho0, hb⟩; refine ⟨_, rfl, ?_⟩; have n0_ := Aside0.mk (Kd.R_below (by (with_reducible repeat (first | apply Kd.R_alloc | apply Kd.R_drewN | apply Kd.R_drew)); exact HO_4.out) hb); have n1_ := Aside0.mk (Kd.V_lower (Kd.V_mono (ok' := fun k_ => (w.heap.size ≤ k_)) ho0 (fun k_ hk_ => Or.elim hk_ (fun hs_ => ((HO_4.out).1 k_ hs_.symm)) (fun hn_ => (Nat.le_trans (below_size (by repeat (first | (with_reducible first | exact HB.out | apply below_alloc | apply pw_below_drewN | apply below_drew1) | exact HB.out))) hn_)))) (below_size (by repeat (first | (with_reducible first | exact HB.out | apply below_alloc | apply pw_below_drewN | apply below_drew1) | exact HB.out)))); have n2_ := Aside0.mk (below_step (by repeat (first | (with_reducible first | exact HB.out | apply below_alloc | apply pw_below_drewN | apply below_drew1) | exact HB.out)) hb); clear HO_4; clear HB; have HO_4 := n0_; have HO234 := n1_; have HB := n2_; clear n0_ n1_ n2_; (try clear hb); (try clear hb2); (try clear hk); (try clear hi); (try clear ho0); obtain ⟨Ao16, co16, eo16⟩ := Kd.V_slice HO234.out; subst eo16))
            go_ret2
            exact ⟨_, by first | rfl | (simp [errW_none, errW_some] <;> rfl) | (simp [*, errW_none, errW_some] <;> rfl), by (with_reducible repeat (first | apply Kd.V_alloc | apply Kd.V_drewN | apply Kd.V_drew)); exact HO234.out, by repeat (first | (with_reducible first | exact HB.out | apply below_alloc | apply pw_below_drewN | apply below_drew1) | exact HB.out)⟩
    · rw [if_neg c3] at H
      exact absurd H (by simp)
  · rw [if_neg c2] at H
    exact absurd H (by simp)

/-! ### parquetref01_Num_Text: function 24 -/
def parquetref01_Num_Text.l0 : Nat → ByteArray → List Int → Bool → List Int → Option (ByteArray)
  | 0, _, _, _, _ => none
  | k + 1, x3, x4, x236000, x236001 => if (x4.length : Int) > 0 then ((parquetref01_tenth.f k x4).bind fun bt236 => ((some (([(wrap64 (48 + bt236.2)) % 256] : List Int) : List Int)).bind fun y240 => (if (strOfNums y240).size + x3.size ≤ 9223372036854775807 then (parquetref01_Num_Text.l0 k ((strOfNums y240) ++ x3) bt236.1 x236000 x236001) else (none)))) else (if x236000 = true then (if 1 + x3.size ≤ 9223372036854775807 then (some ((⟨#[45]⟩ : ByteArray) ++ x3)) else (none)) else (some x3))
def parquetref01_Num_Text.f (k : Nat) (a0_0 : Bool) (l0_1 : List Int) : Option (ByteArray) := if (l0_1.length : Int) = 0 then (some (⟨#[48]⟩ : ByteArray)) else (parquetref01_Num_Text.l0 k (⟨#[]⟩ : ByteArray) l0_1 a0_0 l0_1)
theorem parquetref01_Num_Text.mono_l : ∀ k, (∀ y0 y1 y2 y3, LeO (parquetref01_Num_Text.l0 k y0 y1 y2 y3) (parquetref01_Num_Text.l0 (k + 1) y0 y1 y2 y3))
  | 0 => fun _ _ _ _ r h => by simp [parquetref01_Num_Text.l0] at h
  | k + 1 => by
    have ih0 := parquetref01_Num_Text.mono_l k
    · intro y0 y1 y2 y3
      unfold parquetref01_Num_Text.l0
      repeat' first
      | (with_reducible exact ih0 _ _ _ _)
      | (with_reducible exact parquetref01_tenth.mono _ _)
      | (with_reducible exact LeO.refl _)
      | (with_reducible exact LeO.none _)
      | (with_reducible refine LeO.ite ?_ ?_)
      | (with_reducible refine LeO.bind ?_ (fun _ => ?_))
      | exact ih0 _ _ _ _
      | exact parquetref01_tenth.mono _ _
      | exact LeO.none _
      | refine LeO.ite ?_ ?_
      | refine LeO.bind ?_ (fun _ => ?_)
theorem parquetref01_Num_Text.mono : ∀ a0 a1 k, LeO (parquetref01_Num_Text.f k a0 a1) (parquetref01_Num_Text.f (k + 1) a0 a1) := by
  intro a0 a1 k
  have ih0 := parquetref01_Num_Text.mono_l k
  unfold parquetref01_Num_Text.f
  repeat' first
      | (with_reducible exact ih0 _ _ _ _)
      | (with_reducible exact parquetref01_tenth.mono _ _)
      | (with_reducible exact LeO.refl _)
      | (with_reducible exact LeO.none _)
      | (with_reducible refine LeO.ite ?_ ?_)
      | (with_reducible refine LeO.bind ?_ (fun _ => ?_))
      | exact ih0 _ _ _ _
      | exact parquetref01_tenth.mono _ _
      | exact LeO.none _
      | refine LeO.ite ?_ ?_
      | refine LeO.bind ?_ (fun _ => ?_)
set_option maxHeartbeats 8000000 in
set_option maxRecDepth 100000 in
theorem parquetref01_Num_Text.calls (k : Nat) (a0_0 : Bool) (P0_1_ : Nat → Prop) (A0_1 : Option Addr) (c0_1 : Nat) (l0_1 : List Int) (r : ByteArray) (w : World) (hs0_1 : Kd.V (Kd.int .i64) 3 w w.heap.size (fun k_ => P0_1_ k_) (.slice A0_1 l0_1.length c0_1) l0_1) (h : parquetref01_Num_Text.f k a0_0 l0_1 = some r) :
    Calls Try.prog 24 #[.agg #[.bool a0_0, .slice A0_1 l0_1.length c0_1]] w fun e w' => e = .returned (.string r) ∧ Below w.heap.size w w' := by
  have hu46 := Try.underlying46
  have HO0_1 := Aside0.mk (show Kd.V (Kd.int .i64) 3 w w.heap.size (fun k_ => (P0_1_ k_ ∨ w.heap.size ≤ k_)) (.slice A0_1 l0_1.length c0_1) l0_1 from Kd.V_mono hs0_1 (fun k_ hk => .inl hk))
  have HB := Aside0.mk (Below.refl w.heap.size w)
  have H : (if (l0_1.length : Int) = 0 then (some (⟨#[48]⟩ : ByteArray)) else (parquetref01_Num_Text.l0 k (⟨#[]⟩ : ByteArray) l0_1 a0_0 l0_1)) = some r := h
  clear h
  by_cases c2 : (l0_1.length : Int) = 0
  · rw [if_pos c2] at H
    have c2b0 : ((l0_1.length : Int) == 0) = true := beq_iff_eq.mpr c2
    have c2b1 : ((l0_1.length : Int) != 0) = false := bne_eq_false_iff_eq.mpr c2
    clear c2
    obtain rfl := Option.some.inj H
    go_enter Try.func24, Try.ntmps24
    go_wp2_with (first | ((with_reducible refine gate_dst (N := 1) rfl ?_); refine box_event ?hg (N := 1) ?hd (cs := #[.bool a0_0, .slice A0_1 l0_1.length c0_1]) (t := 46) ?hr ?_; (case hd => rfl); (case hg => rfl); (case hr => first | (go_simp; done) | (go_simp; rfl)); intro gb235 hg w3 hbox hb; have n0_ := Aside0.mk (Kd.V_below (Kd.V_elderB (by (with_reducible repeat (first | apply Kd.V_alloc | apply Kd.V_drewN | apply Kd.V_drew)); exact HO0_1.out) gb235 (Nat.le_of_eq hg.symm)) hb); have n1_ := Aside0.mk (below_step (by repeat (first | (with_reducible first | exact HB.out | apply below_alloc | apply pw_below_drewN | apply below_drew1) | exact HB.out)) hb); have n2_ := Aside0.mk (hbox); have n3_ := Aside0.mk ((by rw [hg]; exact (below_size (by repeat (first | (with_reducible first | exact HB.out | apply below_alloc | apply pw_below_drewN | apply below_drew1) | exact HB.out))) : w.heap.size ≤ gb235)); have n4_ := Aside0.mk ((by rw [hg]; exact (below_size (by repeat (first | (with_reducible first | exact HB.out | apply below_alloc | apply pw_below_drewN | apply below_drew1) | exact HB.out))) : w.heap.size ≤ gb235)); clear HO0_1; clear HB; have HO0_1 := n0_; have HB := n1_; have BK235 := n2_; have GW235 := n3_; have GE235 := n4_; clear n0_ n1_ n2_ n3_ n4_; clear hb hbox hg; have hcz4_0 : w3.cell? ⟨gb235, 0, none⟩ = some (.bool a0_0) := (blk_cell BK235.out 0).trans rfl; have hcz4_1 : w3.cell? ⟨gb235, 1, none⟩ = some (.slice A0_1 l0_1.length c0_1) := (blk_cell BK235.out 1).trans rfl; have hfz4_0 := blk_frozen BK235.out 0; have hfz4_1 := blk_frozen BK235.out 1))
    go_ret
    exact ⟨by first | rfl | (simp [errW_none, errW_some] <;> rfl) | (simp [*, errW_none, errW_some] <;> rfl), by repeat (first | (with_reducible first | exact HB.out | apply below_alloc | apply pw_below_drewN | apply below_drew1 | refine below_set ?_ GE235.out) | exact HB.out)⟩
  · rw [if_neg c2] at H
    have c2b0 : ((l0_1.length : Int) == 0) = false := beq_eq_false_iff_ne.mpr c2
    have c2b1 : ((l0_1.length : Int) != 0) = true := bne_iff_ne.mpr c2
    have c2b2 : ¬ (l0_1 = []) := fun h_ => c2 (by rw [h_]; rfl)
    have H' := Aside0.mk H
    clear H
    go_enter Try.func24, Try.ntmps24
    go_wp2_with (first | ((with_reducible refine gate_dst (N := 1) rfl ?_); refine box_event ?hg (N := 1) ?hd (cs := #[.bool a0_0, .slice A0_1 l0_1.length c0_1]) (t := 46) ?hr ?_; (case hd => rfl); (case hg => rfl); (case hr => first | (go_simp; done) | (go_simp; rfl)); intro gb235 hg w5 hbox hb; have n0_ := Aside0.mk (Kd.V_below (Kd.V_elderB (by (with_reducible repeat (first | apply Kd.V_alloc | apply Kd.V_drewN | apply Kd.V_drew)); exact HO0_1.out) gb235 (Nat.le_of_eq hg.symm)) hb); have n1_ := Aside0.mk (below_step (by repeat (first | (with_reducible first | exact HB.out | apply below_alloc | apply pw_below_drewN | apply below_drew1) | exact HB.out)) hb); have n2_ := Aside0.mk (hbox); have n3_ := Aside0.mk ((by rw [hg]; exact (below_size (by repeat (first | (with_reducible first | exact HB.out | apply below_alloc | apply pw_below_drewN | apply below_drew1) | exact HB.out))) : w.heap.size ≤ gb235)); have n4_ := Aside0.mk ((by rw [hg]; exact (below_size (by repeat (first | (with_reducible first | exact HB.out | apply below_alloc | apply pw_below_drewN | apply below_drew1) | exact HB.out))) : w.heap.size ≤ gb235)); clear HO0_1; clear HB; have HO0_1 := n0_; have HB := n1_; have BK235 := n2_; have GW235 := n3_; have GE235 := n4_; clear n0_ n1_ n2_ n3_ n4_; clear hb hbox hg; have hcz6_0 : w5.cell? ⟨gb235, 0, none⟩ = some (.bool a0_0) := (blk_cell BK235.out 0).trans rfl; have hcz6_1 : w5.cell? ⟨gb235, 1, none⟩ = some (.slice A0_1 l0_1.length c0_1) := (blk_cell BK235.out 1).trans rfl; have hfz6_0 := blk_frozen BK235.out 0; have hfz6_1 := blk_frozen BK235.out 1))
    go_loopg [3, 4] k (fun kq v3 v4 w' => ∃ (x3_1 : ByteArray) (x4_1 : List Int), v3 = .string x3_1 ∧ Aside0 (parquetref01_Num_Text.l0 kq x3_1 x4_1 a0_0 l0_1 = some r) ∧ Aside0 (kq ≤ k) ∧ Aside0 (Kd.V (Kd.int .i64) 3 w' w.heap.size (fun k_ => (P0_1_ k_ ∨ w.heap.size ≤ k_) ∧ k_ ≠ gb235) v4 x4_1) ∧ Aside0 (Kd.V (Kd.int .i64) 3 w' w.heap.size (fun k_ => (P0_1_ k_ ∨ w.heap.size ≤ k_) ∧ k_ ≠ gb235) (.slice A0_1 l0_1.length c0_1) l0_1) ∧ Aside0 (w'.heap[gb235]? = some (.cells #[.bool a0_0, (.slice A0_1 l0_1.length c0_1)] 46 (0, 0))) ∧ Aside0 (Below w.heap.size w w'))
    case atStart => exact ⟨((⟨#[]⟩ : ByteArray)), (l0_1), (by first | rfl | (simp; done) | (simp [*]; done)), H', ⟨Nat.le_refl _⟩, ⟨by (with_reducible repeat (first | apply Kd.V_alloc | apply Kd.V_drewN | apply Kd.V_drew)); exact HO0_1.out⟩, ⟨by (with_reducible repeat (first | apply Kd.V_alloc | apply Kd.V_drewN | apply Kd.V_drew)); exact HO0_1.out⟩, ⟨by (with_reducible repeat (first | refine blk_drewN ?_ _ | refine blk_drew ?_ | refine blk_alloc ?_ _)); exact BK235.out⟩, ⟨by repeat (first | (with_reducible first | exact HB.out | apply below_alloc | apply pw_below_drewN | apply below_drew1 | refine below_set ?_ GE235.out) | exact HB.out)⟩⟩
    case round =>
      clear H'
      try clear c2
      try clear c2b0
      try clear c2b1
      try clear c2b2
      try clear p2
      try clear hcz4_0
      try clear hcz4_1
      try clear hcz6_0
      try clear hcz6_1
      try clear hfz4_0
      try clear hfz4_1
      try clear hfz6_0
      try clear hfz6_1
      obtain ⟨x3_1, x4_1, rfl, HA, HK1, HO_4, HO_236001, BK235, HB⟩ := hrel
      cases gk with
      | zero => exact absurd HA.out (by simp [parquetref01_Num_Text.l0])
      | succ k1 =>
        have H := HA.out
        clear HA
        simp only [parquetref01_Num_Text.l0] at H
        by_cases c7 : (x4_1.length : Int) > 0
        · rw [if_pos c7] at H
          have c7b0 : decide (0 < (x4_1.length : Int)) = true := decide_eq_true c7
          have c7b1 : decide (0 < x4_1.length) = true := decide_eq_true (by omega)
          clear c7
          replace H := Option.bind_eq_some_iff.mp H
          obtain ⟨⟨t236, t239⟩, A80, H⟩ := H
          replace H : ((some (([(wrap64 (48 + t239)) % 256] : List Int) : List Int)).bind fun y240 => (if (strOfNums y240).size + x3_1.size ≤ 9223372036854775807 then (parquetref01_Num_Text.l0 k1 ((strOfNums y240) ++ x3_1) t236 a0_0 l0_1) else (none))) = some r := H
          have A8 := Aside0.mk A80
          clear A80
          obtain ⟨y240, hy240⟩ : ∃ y_ : List Int, y_ = (([(wrap64 (48 + t239)) % 256] : List Int)) := ⟨_, rfl⟩
          replace H : (if (strOfNums y240).size + x3_1.size ≤ 9223372036854775807 then (parquetref01_Num_Text.l0 k1 ((strOfNums y240) ++ x3_1) t236 a0_0 l0_1) else (none)) = some r := by first | (rw [hy240]; with_reducible exact H) | (have H2_ := (Option.bind_some _ _).symm.trans H; rw [hy240]; with_reducible exact H2_) | (have H2_ := (Option.bind_some _ _).symm.trans H; with_reducible exact H2_) | with_reducible exact H | (rw [hy240]; exact H) | exact H
          have Ny240 := Aside0.mk hy240
          clear hy240
          by_cases c9 : (strOfNums y240).size + x3_1.size ≤ 9223372036854775807
          · rw [if_pos c9] at H
            have c9b0 := eq_true c9
            have c9b1 : decide ((strOfNums y240).size + x3_1.size ≤ 9223372036854775807) = true := decide_eq_true c9
            try have c9b2 : (9223372036854775807 < (strOfNums y240).size + x3_1.size) = False := eq_false (Nat.not_lt.2 c9)
            have H' := Aside0.mk H
            clear H
            obtain ⟨Ao10, co10, eo10⟩ := Kd.V_slice HO_4.out
            subst eo10
            go_wp2_with (first | ((with_reducible refine gate_callee (f := 44) rfl ?_); refine goesL_ (some 18) rfl rfl Try.func44 (by kernel_rfl) rfl #[.slice Ao10 x4_1.length co10] rfl (by (try simp only [List.map_toArray, List.map_cons, List.map_nil]); first | done | rfl | (simp only [List.length_drop, List.length_take]; rfl)) ?_; (with_reducible refine (parquetref01_tenth.calls k1 _ _ x4_1 t236 t239 _ ?side1 ?side2 A8.out).mono ?_); (case side1 => repeat (first | exact (Kd.V_reads' HO_4.out).2.2 | (with_reducible refine Kd.C_alloc ?_ _) | (with_reducible refine Kd.C_drewN ?_ _) | (with_reducible refine Kd.C_drew ?_))); (case side2 => exact (Kd.V_reads' HO_4.out).2.1); rintro e w11 ⟨v237, rfl, ho0, hb⟩; refine ⟨_, rfl, ?_⟩; have n0_ := Aside0.mk (Kd.V_below (by (with_reducible repeat (first | apply Kd.V_alloc | apply Kd.V_drewN | apply Kd.V_drew)); exact HO_4.out) hb); have n1_ := Aside0.mk (Kd.V_below (by (with_reducible repeat (first | apply Kd.V_alloc | apply Kd.V_drewN | apply Kd.V_drew)); exact HO_236001.out) hb); have n2_ := Aside0.mk (Kd.V_lower (Kd.V_mono (ok' := fun k_ => (P0_1_ k_ ∨ w.heap.size ≤ k_) ∧ k_ ≠ gb235) ho0 (fun k_ hk_ => ⟨(.inr (Nat.le_trans (below_size (by repeat (first | (with_reducible first | exact HB.out | apply below_alloc | apply pw_below_drewN | apply below_drew1 | refine below_set ?_ GE235.out) | exact HB.out))) hk_)), (Kd.freshB (g := gb235) (o := .cells #[.bool a0_0, .slice A0_1 l0_1.length c0_1] 46 (0, 0)) (by (with_reducible repeat (first | refine blk_drewN ?_ _ | refine blk_drew ?_ | refine blk_alloc ?_ _)); exact BK235.out) k_ hk_)⟩)) (below_size (by repeat (first | (with_reducible first | exact HB.out | apply below_alloc | apply pw_below_drewN | apply below_drew1 | refine below_set ?_ GE235.out) | exact HB.out)))); have n3_ := Aside0.mk (blk_below (g := gb235) (o := .cells #[.bool a0_0, .slice A0_1 l0_1.length c0_1] 46 (0, 0)) (by (with_reducible repeat (first | refine blk_drewN ?_ _ | refine blk_drew ?_ | refine blk_alloc ?_ _)); exact BK235.out) hb); have n4_ := Aside0.mk (below_step (by repeat (first | (with_reducible first | exact HB.out | apply below_alloc | apply pw_below_drewN | apply below_drew1 | refine below_set ?_ GE235.out) | exact HB.out)) hb); clear HO_4; clear HO_236001; clear BK235; clear HB; have HO_4 := n0_; have HO_236001 := n1_; have HO238 := n2_; have BK235 := n3_; have HB := n4_; clear n0_ n1_ n2_ n3_ n4_; (try clear hb); (try clear hb2); (try clear hk); (try clear hi); (try clear ho0)) | ((with_reducible refine gate_dst (N := 24) rfl ?_); refine Kd.R_lit (Kd.int .u8) _ 5 ?hg (N := 24) ?hd (xs := ([(wrap64 (48 + t239)) % 256] : List Int)) (inner := [.int .u8 ((wrap64 (48 + t239)) % 256)]) (ok := fun _ => True) (okp := fun _ => True) ?hr ?hp (fun _ hk => hk) trivial (Below.refl _ _) (Nat.le_refl _) (by simp) ?_; (case hd => rfl); (case hg => rfl); (case hr => first | (go_simp; done) | (go_simp; rfl)); (case hp => exact (Reps.one (show Kd.M (Kd.int .u8) _ _ _ ((wrap64 (48 + t239)) % 256) [.int .u8 ((wrap64 (48 + t239)) % 256)] from rfl) (Reps.none _ _))); intro v241 w12 ho13 hb hg_ hnew_; clear hg_ hnew_; (first | rw [← Ny240.out] at ho13 | (simp only [Int.reduceToNat] at ho13; rw [← Ny240.out] at ho13)); have n0_ := Aside0.mk (Kd.V_elder' (by (with_reducible repeat (first | apply Kd.V_alloc | apply Kd.V_drewN | apply Kd.V_drew)); exact HO_4.out) (Kd.R_base ho13) hb); have n1_ := Aside0.mk (Kd.V_elder' (by (with_reducible repeat (first | apply Kd.V_alloc | apply Kd.V_drewN | apply Kd.V_drew)); exact HO_236001.out) (Kd.R_base ho13) hb); have n2_ := Aside0.mk (Kd.V_elder' (by (with_reducible repeat (first | apply Kd.V_alloc | apply Kd.V_drewN | apply Kd.V_drew)); exact HO238.out) (Kd.R_base ho13) hb); have n3_ := Aside0.mk (Kd.R_lower (Kd.R_newM (M := fun k_ => (w.heap.size ≤ k_)) ho13 (below_size (by repeat (first | (with_reducible first | exact HB.out | apply below_alloc | apply pw_below_drewN | apply below_drew1 | refine below_set ?_ GE235.out) | exact HB.out))) (fun k_ h_ => h_)) (below_size (by repeat (first | (with_reducible first | exact HB.out | apply below_alloc | apply pw_below_drewN | apply below_drew1 | refine below_set ?_ GE235.out) | exact HB.out)))); have n4_ := Aside0.mk (blk_below (g := gb235) (o := .cells #[.bool a0_0, .slice A0_1 l0_1.length c0_1] 46 (0, 0)) (by (with_reducible repeat (first | refine blk_drewN ?_ _ | refine blk_drew ?_ | refine blk_alloc ?_ _)); exact BK235.out) hb); have n5_ := Aside0.mk (below_step (by repeat (first | (with_reducible first | exact HB.out | apply below_alloc | apply pw_below_drewN | apply below_drew1 | refine below_set ?_ GE235.out) | exact HB.out)) hb); clear HO_4; clear HO_236001; clear HO238; clear BK235; clear HB; have HO_4 := n0_; have HO_236001 := n1_; have HO238 := n2_; have HO242 := n3_; have BK235 := n4_; have HB := n5_; clear n0_ n1_ n2_ n3_ n4_ n5_; clear hb ho13; have hcv14 := own_string (P := Try.prog) Try.underlying22 Try.underlying5 Try.underlying9 (Kd.own_of_R HO242.out)))
            go_roundg k1
            case measure => have := HK1.out; omega
            case rel => exact ⟨((strOfNums y240) ++ x3_1), (t236), (by first | rfl | (simp; done) | (simp [*]; done)), H', ⟨by have := HK1.out; omega⟩, ⟨by (with_reducible repeat (first | apply Kd.V_alloc | apply Kd.V_drewN | apply Kd.V_drew)); exact Kd.V_mono HO238.out (fun _ hk => ⟨hk.1.1, hk.1.2⟩)⟩, ⟨by (with_reducible repeat (first | apply Kd.V_alloc | apply Kd.V_drewN | apply Kd.V_drew)); exact Kd.V_mono HO_236001.out (fun _ hk => ⟨hk.1.1, hk.1.2⟩)⟩, ⟨by (with_reducible repeat (first | refine blk_drewN ?_ _ | refine blk_drew ?_ | refine blk_alloc ?_ _)); exact BK235.out⟩, ⟨by repeat (first | (with_reducible first | exact HB.out | apply below_alloc | apply pw_below_drewN | apply below_drew1 | refine below_set ?_ GE235.out) | exact HB.out)⟩⟩
          · rw [if_neg c9] at H
            exact absurd H (by simp)
        · rw [if_neg c7] at H
          have c7b0 : decide (0 < (x4_1.length : Int)) = false := decide_eq_false c7
          have c7b1 : decide (0 < x4_1.length) = false := decide_eq_false (by omega)
          clear c7
          by_cases c15 : a0_0 = true
          · subst c15
            have H1 : (if 1 + x3_1.size ≤ 9223372036854775807 then (some ((⟨#[45]⟩ : ByteArray) ++ x3_1)) else (none)) = some r := by rw [if_pos rfl] at H; exact H
            clear H
            have H := H1
            clear H1
            by_cases c16 : 1 + x3_1.size ≤ 9223372036854775807
            · rw [if_pos c16] at H
              have c16b0 := eq_true c16
              have c16b1 : decide (1 + x3_1.size ≤ 9223372036854775807) = true := decide_eq_true c16
              try have c16b2 : (9223372036854775807 < 1 + x3_1.size) = False := eq_false (Nat.not_lt.2 c16)
              obtain rfl := Option.some.inj H
              obtain ⟨Ao17, co17, eo17⟩ := Kd.V_slice HO_4.out
              subst eo17
              have hcz18_0 : wr.cell? ⟨gb235, 0, none⟩ = some (.bool true) := (blk_cell BK235.out 0).trans rfl
              have hcz18_1 : wr.cell? ⟨gb235, 1, none⟩ = some (.slice A0_1 l0_1.length c0_1) := (blk_cell BK235.out 1).trans rfl
              have hfz18_0 := blk_frozen BK235.out 0
              have hfz18_1 := blk_frozen BK235.out 1
              go_wp2
              go_ret
              exact ⟨by first | rfl | (simp [errW_none, errW_some] <;> rfl) | (simp [*, errW_none, errW_some] <;> rfl), by repeat (first | (with_reducible first | exact HB.out | apply below_alloc | apply pw_below_drewN | apply below_drew1 | refine below_set ?_ GE235.out) | exact HB.out)⟩
            · rw [if_neg c16] at H
              exact absurd H (by simp)
          · replace c15 := Bool.eq_false_iff.mpr c15
            subst c15
            have H1 : (some x3_1) = some r := by rw [if_neg (show ¬ (false = true) by decide)] at H; exact H
            clear H
            have H := H1
            clear H1
            obtain rfl := Option.some.inj H
            obtain ⟨Ao19, co19, eo19⟩ := Kd.V_slice HO_4.out
            subst eo19
            have hcz20_0 : wr.cell? ⟨gb235, 0, none⟩ = some (.bool false) := (blk_cell BK235.out 0).trans rfl
            have hcz20_1 : wr.cell? ⟨gb235, 1, none⟩ = some (.slice A0_1 l0_1.length c0_1) := (blk_cell BK235.out 1).trans rfl
            have hfz20_0 := blk_frozen BK235.out 0
            have hfz20_1 := blk_frozen BK235.out 1
            go_wp2
            go_ret
            exact ⟨by first | rfl | (simp [errW_none, errW_some] <;> rfl) | (simp [*, errW_none, errW_some] <;> rfl), by repeat (first | (with_reducible first | exact HB.out | apply below_alloc | apply pw_below_drewN | apply below_drew1 | refine below_set ?_ GE235.out) | exact HB.out)⟩

/-! ### parquetlaw02_TokenBack: function 6 -/
mutual
def parquetlaw02_TokenBack.j0 : Nat → Int → Int → ByteArray → Int → Int → Bool → Option (Bool)
  | 0, _, _, _, _, _, _ => none
  | k + 1, x0, x1, x5, x6, x7, x8 => if x8 = true then (if x6 = x0 then (if x7 = 0 then (parquetlaw02_TokenBack.j1 k x1 x5 false) else (parquetlaw02_TokenBack.j1 k x1 x5 true)) else (parquetlaw02_TokenBack.j1 k x1 x5 true)) else (if x6 = 0 then (parquetlaw02_TokenBack.j1 k x1 x5 (x7 != 10)) else (parquetlaw02_TokenBack.j1 k x1 x5 true))
def parquetlaw02_TokenBack.j1 : Nat → Int → ByteArray → Bool → Option (Bool)
  | 0, _, _, _ => none
  | k + 1, x1, x5, x58 => if x58 = true then (some false) else (if 1 + x5.size ≤ 9223372036854775807 then ((token_Number.f ((⟨#[48]⟩ : ByteArray) ++ x5) x1).bind fun bt250 => (if 2 + x5.size ≤ 9223372036854775807 then ((token_Number.f ((⟨#[45, 45]⟩ : ByteArray) ++ x5) x1).bind fun bt252 => ((token_Number.f ((⟨#[43]⟩ : ByteArray) ++ x5) x1).bind fun bt254 => (if bt250.2 = 11 then (if bt252.2 = 11 then (if bt254.2 = 11 then ((parquetlaw02_known.f).bind fun t256 => (some t256)) else (some false)) else (some false)) else (some false)))) else (none))) else (none))
end
def parquetlaw02_TokenBack.f (k : Nat) (a0 : Int) (a1 : Int) : Option (Bool) := (parquetref01_Small.f k a0).bind fun bt243 => ((parquetref01_Num_Text.f k bt243.1 bt243.2).bind fun t247 => ((token_Number.f t247 a1).bind fun bt248 => (if a0 ≤ a1 then (if a0 ≥ (wrap64 (-a1)) then (parquetlaw02_TokenBack.j0 k a0 a1 t247 bt248.1 bt248.2 (decide (a1 ≥ 0))) else (parquetlaw02_TokenBack.j0 k a0 a1 t247 bt248.1 bt248.2 false)) else (parquetlaw02_TokenBack.j0 k a0 a1 t247 bt248.1 bt248.2 false))))
theorem parquetlaw02_TokenBack.mono_l : ∀ k, (∀ y0 y1 y2 y3 y4 y5, LeO (parquetlaw02_TokenBack.j0 k y0 y1 y2 y3 y4 y5) (parquetlaw02_TokenBack.j0 (k + 1) y0 y1 y2 y3 y4 y5)) ∧ (∀ y0 y1 y2, LeO (parquetlaw02_TokenBack.j1 k y0 y1 y2) (parquetlaw02_TokenBack.j1 (k + 1) y0 y1 y2))
  | 0 => ⟨fun _ _ _ _ _ _ r h => by simp [parquetlaw02_TokenBack.j0] at h, fun _ _ _ r h => by simp [parquetlaw02_TokenBack.j1] at h⟩
  | k + 1 => by
    obtain ⟨ih0, ih1⟩ := parquetlaw02_TokenBack.mono_l k
    refine ⟨?_, ?_⟩
    · intro y0 y1 y2 y3 y4 y5
      unfold parquetlaw02_TokenBack.j0
      repeat' first
      | (with_reducible exact ih0 _ _ _ _ _ _)
      | (with_reducible exact ih1 _ _ _)
      | (with_reducible exact parquetref01_Num_Text.mono _ _ _)
      | (with_reducible exact parquetref01_Small.mono _ _)
      | (with_reducible exact LeO.refl _)
      | (with_reducible exact LeO.none _)
      | (with_reducible refine LeO.ite ?_ ?_)
      | (with_reducible refine LeO.bind ?_ (fun _ => ?_))
      | exact ih0 _ _ _ _ _ _
      | exact ih1 _ _ _
      | exact parquetref01_Num_Text.mono _ _ _
      | exact parquetref01_Small.mono _ _
      | exact LeO.none _
      | refine LeO.ite ?_ ?_
      | refine LeO.bind ?_ (fun _ => ?_)
    · intro y0 y1 y2
      unfold parquetlaw02_TokenBack.j1
      repeat' first
      | (with_reducible exact ih0 _ _ _ _ _ _)
      | (with_reducible exact ih1 _ _ _)
      | (with_reducible exact parquetref01_Num_Text.mono _ _ _)
      | (with_reducible exact parquetref01_Small.mono _ _)
      | (with_reducible exact LeO.refl _)
      | (with_reducible exact LeO.none _)
      | (with_reducible refine LeO.ite ?_ ?_)
      | (with_reducible refine LeO.bind ?_ (fun _ => ?_))
      | exact ih0 _ _ _ _ _ _
      | exact ih1 _ _ _
      | exact parquetref01_Num_Text.mono _ _ _
      | exact parquetref01_Small.mono _ _
      | exact LeO.none _
      | refine LeO.ite ?_ ?_
      | refine LeO.bind ?_ (fun _ => ?_)
theorem parquetlaw02_TokenBack.mono : ∀ a0 a1 k, LeO (parquetlaw02_TokenBack.f k a0 a1) (parquetlaw02_TokenBack.f (k + 1) a0 a1) := by
  intro a0 a1 k
  obtain ⟨ih0, ih1⟩ := parquetlaw02_TokenBack.mono_l k
  unfold parquetlaw02_TokenBack.f
  repeat' first
      | (with_reducible exact ih0 _ _ _ _ _ _)
      | (with_reducible exact ih1 _ _ _)
      | (with_reducible exact parquetref01_Num_Text.mono _ _ _)
      | (with_reducible exact parquetref01_Small.mono _ _)
      | (with_reducible exact LeO.refl _)
      | (with_reducible exact LeO.none _)
      | (with_reducible refine LeO.ite ?_ ?_)
      | (with_reducible refine LeO.bind ?_ (fun _ => ?_))
      | exact ih0 _ _ _ _ _ _
      | exact ih1 _ _ _
      | exact parquetref01_Num_Text.mono _ _ _
      | exact parquetref01_Small.mono _ _
      | exact LeO.none _
      | refine LeO.ite ?_ ?_
      | refine LeO.bind ?_ (fun _ => ?_)
set_option maxHeartbeats 8000000 in
set_option maxRecDepth 100000 in
theorem parquetlaw02_TokenBack.calls (k : Nat) (a0 : Int) (a1 : Int) (r : Bool) (w : World) (h : parquetlaw02_TokenBack.f k a0 a1 = some r) :
    Calls Try.prog 6 #[.int .i64 a0, .int .i64 a1] w fun e w' => e = .returned (.bool r) ∧ Below w.heap.size w w' := by
  have HB := Aside0.mk (Below.refl w.heap.size w)
  have H : ((parquetref01_Small.f k a0).bind fun bt243 => ((parquetref01_Num_Text.f k bt243.1 bt243.2).bind fun t247 => ((token_Number.f t247 a1).bind fun bt248 => (if a0 ≤ a1 then (if a0 ≥ (wrap64 (-a1)) then (parquetlaw02_TokenBack.j0 k a0 a1 t247 bt248.1 bt248.2 (decide (a1 ≥ 0))) else (parquetlaw02_TokenBack.j0 k a0 a1 t247 bt248.1 bt248.2 false)) else (parquetlaw02_TokenBack.j0 k a0 a1 t247 bt248.1 bt248.2 false))))) = some r := h
  clear h
  replace H := Option.bind_eq_some_iff.mp H
  obtain ⟨⟨t243, t244⟩, A30, H⟩ := H
  replace H : ((parquetref01_Num_Text.f k t243 t244).bind fun t247 => ((token_Number.f t247 a1).bind fun bt248 => (if a0 ≤ a1 then (if a0 ≥ (wrap64 (-a1)) then (parquetlaw02_TokenBack.j0 k a0 a1 t247 bt248.1 bt248.2 (decide (a1 ≥ 0))) else (parquetlaw02_TokenBack.j0 k a0 a1 t247 bt248.1 bt248.2 false)) else (parquetlaw02_TokenBack.j0 k a0 a1 t247 bt248.1 bt248.2 false)))) = some r := H
  have A3 := Aside0.mk A30
  clear A30
  replace H := Option.bind_eq_some_iff.mp H
  obtain ⟨t247, A40, H⟩ := H
  replace H : ((token_Number.f t247 a1).bind fun bt248 => (if a0 ≤ a1 then (if a0 ≥ (wrap64 (-a1)) then (parquetlaw02_TokenBack.j0 k a0 a1 t247 bt248.1 bt248.2 (decide (a1 ≥ 0))) else (parquetlaw02_TokenBack.j0 k a0 a1 t247 bt248.1 bt248.2 false)) else (parquetlaw02_TokenBack.j0 k a0 a1 t247 bt248.1 bt248.2 false))) = some r := H
  have A4 := Aside0.mk A40
  clear A40
  replace H := Option.bind_eq_some_iff.mp H
  obtain ⟨⟨t248, t249⟩, A50, H⟩ := H
  replace H : (if a0 ≤ a1 then (if a0 ≥ (wrap64 (-a1)) then (parquetlaw02_TokenBack.j0 k a0 a1 t247 t248 t249 (decide (a1 ≥ 0))) else (parquetlaw02_TokenBack.j0 k a0 a1 t247 t248 t249 false)) else (parquetlaw02_TokenBack.j0 k a0 a1 t247 t248 t249 false)) = some r := H
  have A5 := Aside0.mk A50
  clear A50
  have HC6 := Aside0.mk H
  clear H
  go_enter Try.func6, Try.ntmps6
  go_upto_region 3 with (first | ((with_reducible refine gate_callee (f := 23) rfl ?_); refine goesL_ (some 16) rfl rfl Try.func23 (by kernel_rfl) rfl #[.int .i64 a0] rfl (by (try simp only [List.map_toArray, List.map_cons, List.map_nil]); first | done | rfl | (simp only [List.length_drop, List.length_take]; rfl)) ?_; (with_reducible refine (parquetref01_Small.calls k a0 t243 t244 _ A3.out).mono ?_); rintro e w7 ⟨v245, rfl, ho0, hb⟩; refine ⟨_, rfl, ?_⟩; have n0_ := Aside0.mk (Kd.V_lower (Kd.V_mono (ok' := fun k_ => True) ho0 (fun k_ hk_ => trivial)) (below_size (by repeat (first | (with_reducible first | exact HB.out | apply below_alloc | apply pw_below_drewN | apply below_drew1) | exact HB.out)))); have n1_ := Aside0.mk (below_step (by repeat (first | (with_reducible first | exact HB.out | apply below_alloc | apply pw_below_drewN | apply below_drew1) | exact HB.out)) hb); clear HB; have HO246 := n0_; have HB := n1_; clear n0_ n1_; (try clear hb); (try clear hb2); (try clear hk); (try clear hi); (try clear ho0); obtain ⟨Ao8, co8, eo8⟩ := Kd.V_slice HO246.out; subst eo8) | ((with_reducible refine gate_callee (f := 24) rfl ?_); refine goesL_ (some 17) rfl rfl Try.func24 (by kernel_rfl) rfl #[.agg #[.bool t243, .slice Ao8 t244.length co8]] rfl (by (try simp only [List.map_toArray, List.map_cons, List.map_nil]); first | done | rfl | (simp only [List.length_drop, List.length_take]; rfl)) ?_; (with_reducible refine (parquetref01_Num_Text.calls k t243 (fun k_ => True) _ _ t244 t247 _ ?side1 A4.out).mono ?_); (case side1 => exact HO246.out); rintro e w9 ⟨rfl, hb⟩; refine ⟨_, rfl, ?_⟩; have n0_ := Aside0.mk (Kd.V_below (by (with_reducible repeat (first | apply Kd.V_alloc | apply Kd.V_drewN | apply Kd.V_drew)); exact HO246.out) hb); have n1_ := Aside0.mk (below_step (by repeat (first | (with_reducible first | exact HB.out | apply below_alloc | apply pw_below_drewN | apply below_drew1) | exact HB.out)) hb); clear HO246; clear HB; have HO246 := n0_; have HB := n1_; clear n0_ n1_; (try clear hb); (try clear hb2); (try clear hk); (try clear hi)) | ((with_reducible refine gate_callee (f := 21) rfl ?_); refine goesL_ (some 21) rfl rfl Try.func21 (by kernel_rfl) rfl #[.string t247, .int .i64 a1] rfl (by (try simp only [List.map_toArray, List.map_cons, List.map_nil]); first | done | rfl | (simp only [List.length_drop, List.length_take]; rfl)) ?_; (with_reducible refine (token_Number.calls t247 a1 t248 t249 _ A5.out).mono ?_); rintro e w10 ⟨rfl, hb⟩; refine ⟨_, rfl, ?_⟩; have n0_ := Aside0.mk (Kd.V_below (by (with_reducible repeat (first | apply Kd.V_alloc | apply Kd.V_drewN | apply Kd.V_drew)); exact HO246.out) hb); have n1_ := Aside0.mk (below_step (by repeat (first | (with_reducible first | exact HB.out | apply below_alloc | apply pw_below_drewN | apply below_drew1) | exact HB.out)) hb); clear HO246; clear HB; have HO246 := n0_; have HB := n1_; clear n0_ n1_; (try clear hb); (try clear hb2); (try clear hk); (try clear hi)))
  (try simp only [Act.put, List.setIfInBounds_toArray, List.set_cons_zero, List.set_cons_succ])
  go_cut [8] (fun v8 wc => ∃ (kq : Nat) (x8_5 : Bool), v8 = .bool x8_5 ∧ Aside0 (parquetlaw02_TokenBack.j0 kq a0 a1 t247 t248 t249 x8_5 = some r) ∧ Aside0 (kq ≤ k) ∧ Aside0 (Below w.heap.size w wc))
  case first =>
    have H := HC6.out
    clear HC6
    by_cases c11 : a0 ≤ a1
    · rw [if_pos c11] at H
      have c11b0 : decide (a0 ≤ a1) = true := decide_eq_true c11
      clear c11
      (first | rw [c11b0] | (simp only [i64_w, i32_w]; rw [c11b0]) | skip)
      by_cases c12 : a0 ≥ (wrap64 (-a1))
      · rw [if_pos c12] at H
        have c12b0 : decide ((wrap64 (-a1)) ≤ a0) = true := decide_eq_true c12
        clear c12
        have H' := Aside0.mk H
        clear H
        go_wp2
        go_meet
        case rel => exact ⟨_, (decide (a1 ≥ 0)), (by first | rfl | (simp; done) | (simp [*]; done)), H', ⟨by first | omega | exact Nat.le_refl _⟩, ⟨by repeat (first | (with_reducible first | exact HB.out | apply below_alloc | apply pw_below_drewN | apply below_drew1) | exact HB.out)⟩⟩
      · rw [if_neg c12] at H
        have c12b0 : decide ((wrap64 (-a1)) ≤ a0) = false := decide_eq_false c12
        clear c12
        have H' := Aside0.mk H
        clear H
        go_wp2
        go_meet
        case rel => exact ⟨_, (false), (by first | rfl | (simp; done) | (simp [*]; done)), H', ⟨by first | omega | exact Nat.le_refl _⟩, ⟨by repeat (first | (with_reducible first | exact HB.out | apply below_alloc | apply pw_below_drewN | apply below_drew1) | exact HB.out)⟩⟩
    · rw [if_neg c11] at H
      have c11b0 : decide (a0 ≤ a1) = false := decide_eq_false c11
      clear c11
      (first | rw [c11b0] | (simp only [i64_w, i32_w]; rw [c11b0]) | skip)
      have H' := Aside0.mk H
      clear H
      go_wp2
      go_meet
      case rel => exact ⟨_, (false), (by first | rfl | (simp; done) | (simp [*]; done)), H', ⟨by first | omega | exact Nat.le_refl _⟩, ⟨by repeat (first | (with_reducible first | exact HB.out | apply below_alloc | apply pw_below_drewN | apply below_drew1) | exact HB.out)⟩⟩
  case rest =>
    clear HC6
    try clear c1
    try clear c2
    try clear p2
    try clear c6
    try clear p6
    try clear c11
    try clear c11b0
    try clear c12
    try clear c12b0
    obtain ⟨kq, x8_5, rfl, HA, HJ5, HB⟩ := hcut
    cases kq with
    | zero => exact absurd HA.out (by simp [parquetlaw02_TokenBack.j0])
    | succ kj5 =>
      have H := HA.out
      clear HA
      simp only [parquetlaw02_TokenBack.j0] at H
      have HC13 := Aside0.mk H
      clear H
      go_upto_region 4 with (fail)
      go_cut [58] (fun v58 wc => ∃ (kq : Nat) (x58_12 : Bool), v58 = .bool x58_12 ∧ Aside0 (parquetlaw02_TokenBack.j1 kq a1 t247 x58_12 = some r) ∧ Aside0 (kq ≤ kj5) ∧ Aside0 (Below w.heap.size w wc))
      case first =>
        have H := HC13.out
        clear HC13
        by_cases c14 : x8_5 = true
        · subst c14
          have H1 : (if t248 = a0 then (if t249 = 0 then (parquetlaw02_TokenBack.j1 kj5 a1 t247 false) else (parquetlaw02_TokenBack.j1 kj5 a1 t247 true)) else (parquetlaw02_TokenBack.j1 kj5 a1 t247 true)) = some r := by rw [if_pos rfl] at H; exact H
          clear H
          have H := H1
          clear H1
          by_cases c15 : t248 = a0
          · rw [if_pos c15] at H
            have c15b0 : (t248 == a0) = true := beq_iff_eq.mpr c15
            have c15b1 : (t248 != a0) = false := bne_eq_false_iff_eq.mpr c15
            clear c15
            (first | rw [c15b0] | (simp only [i64_w, i32_w]; rw [c15b0]) | skip)
            by_cases c16 : t249 = 0
            · rw [if_pos c16] at H
              have c16b0 : (t249 == 0) = true := beq_iff_eq.mpr c16
              have c16b1 : (t249 != 0) = false := bne_eq_false_iff_eq.mpr c16
              clear c16
              have H' := Aside0.mk H
              clear H
              go_wp2
              go_meet
              case rel => exact ⟨_, (false), (by first | rfl | (simp; done) | (simp [*]; done)), H', ⟨by have := HJ5.out; first | omega | exact Nat.le_refl _⟩, ⟨by repeat (first | (with_reducible first | exact HB.out | apply below_alloc | apply pw_below_drewN | apply below_drew1) | exact HB.out)⟩⟩
            · rw [if_neg c16] at H
              have c16b0 : (t249 == 0) = false := beq_eq_false_iff_ne.mpr c16
              have c16b1 : (t249 != 0) = true := bne_iff_ne.mpr c16
              have H' := Aside0.mk H
              clear H
              go_wp2
              go_meet
              case rel => exact ⟨_, (true), (by first | rfl | (simp; done) | (simp [*]; done)), H', ⟨by have := HJ5.out; first | omega | exact Nat.le_refl _⟩, ⟨by repeat (first | (with_reducible first | exact HB.out | apply below_alloc | apply pw_below_drewN | apply below_drew1) | exact HB.out)⟩⟩
          · rw [if_neg c15] at H
            have c15b0 : (t248 == a0) = false := beq_eq_false_iff_ne.mpr c15
            have c15b1 : (t248 != a0) = true := bne_iff_ne.mpr c15
            (first | rw [c15b0] | (simp only [i64_w, i32_w]; rw [c15b0]) | skip)
            have H' := Aside0.mk H
            clear H
            go_wp2
            go_meet
            case rel => exact ⟨_, (true), (by first | rfl | (simp; done) | (simp [*]; done)), H', ⟨by have := HJ5.out; first | omega | exact Nat.le_refl _⟩, ⟨by repeat (first | (with_reducible first | exact HB.out | apply below_alloc | apply pw_below_drewN | apply below_drew1) | exact HB.out)⟩⟩
        · replace c14 := Bool.eq_false_iff.mpr c14
          subst c14
          have H1 : (if t248 = 0 then (parquetlaw02_TokenBack.j1 kj5 a1 t247 (t249 != 10)) else (parquetlaw02_TokenBack.j1 kj5 a1 t247 true)) = some r := by rw [if_neg (show ¬ (false = true) by decide)] at H; exact H
          clear H
          have H := H1
          clear H1
          by_cases c17 : t248 = 0
          · rw [if_pos c17] at H
            have c17b0 : (t248 == 0) = true := beq_iff_eq.mpr c17
            have c17b1 : (t248 != 0) = false := bne_eq_false_iff_eq.mpr c17
            clear c17
            have H' := Aside0.mk H
            clear H
            go_wp2
            go_meet
            case rel => exact ⟨_, ((t249 != 10)), (by first | rfl | (simp; done) | (simp [*]; done)), H', ⟨by have := HJ5.out; first | omega | exact Nat.le_refl _⟩, ⟨by repeat (first | (with_reducible first | exact HB.out | apply below_alloc | apply pw_below_drewN | apply below_drew1) | exact HB.out)⟩⟩
          · rw [if_neg c17] at H
            have c17b0 : (t248 == 0) = false := beq_eq_false_iff_ne.mpr c17
            have c17b1 : (t248 != 0) = true := bne_iff_ne.mpr c17
            have H' := Aside0.mk H
            clear H
            go_wp2
            go_meet
            case rel => exact ⟨_, (true), (by first | rfl | (simp; done) | (simp [*]; done)), H', ⟨by have := HJ5.out; first | omega | exact Nat.le_refl _⟩, ⟨by repeat (first | (with_reducible first | exact HB.out | apply below_alloc | apply pw_below_drewN | apply below_drew1) | exact HB.out)⟩⟩
      case rest =>
        clear HC13
        try clear c1
        try clear c2
        try clear p2
        try clear c6
        try clear p6
        try clear c11
        try clear c11b0
        try clear c12
        try clear c12b0
        try clear c14
        try clear c15
        try clear c15b0
        try clear c15b1
        try clear c16
        try clear c16b0
        try clear c16b1
        try clear c17
        try clear c17b0
        try clear c17b1
        try clear p2
        try clear p6
        obtain ⟨kq, x58_12, rfl, HA, HJ12, HB⟩ := hcut
        cases kq with
        | zero => exact absurd HA.out (by simp [parquetlaw02_TokenBack.j1])
        | succ kj12 =>
          have H := HA.out
          clear HA
          simp only [parquetlaw02_TokenBack.j1] at H
          by_cases c18 : x58_12 = true
          · subst c18
            have H1 : (some false) = some r := by rw [if_pos rfl] at H; exact H
            clear H
            have H := H1
            clear H1
            obtain rfl := Option.some.inj H
            go_wp2
            go_ret
            exact ⟨by first | rfl | (simp [errW_none, errW_some] <;> rfl) | (simp [*, errW_none, errW_some] <;> rfl), by repeat (first | (with_reducible first | exact HB.out | apply below_alloc | apply pw_below_drewN | apply below_drew1) | exact HB.out)⟩
          · replace c18 := Bool.eq_false_iff.mpr c18
            subst c18
            have H1 : (if 1 + t247.size ≤ 9223372036854775807 then ((token_Number.f ((⟨#[48]⟩ : ByteArray) ++ t247) a1).bind fun bt250 => (if 2 + t247.size ≤ 9223372036854775807 then ((token_Number.f ((⟨#[45, 45]⟩ : ByteArray) ++ t247) a1).bind fun bt252 => ((token_Number.f ((⟨#[43]⟩ : ByteArray) ++ t247) a1).bind fun bt254 => (if bt250.2 = 11 then (if bt252.2 = 11 then (if bt254.2 = 11 then ((parquetlaw02_known.f).bind fun t256 => (some t256)) else (some false)) else (some false)) else (some false)))) else (none))) else (none)) = some r := by rw [if_neg (show ¬ (false = true) by decide)] at H; exact H
            clear H
            have H := H1
            clear H1
            by_cases c19 : 1 + t247.size ≤ 9223372036854775807
            · rw [if_pos c19] at H
              have c19b0 := eq_true c19
              have c19b1 : decide (1 + t247.size ≤ 9223372036854775807) = true := decide_eq_true c19
              try have c19b2 : (9223372036854775807 < 1 + t247.size) = False := eq_false (Nat.not_lt.2 c19)
              replace H := Option.bind_eq_some_iff.mp H
              obtain ⟨⟨t250, t251⟩, A200, H⟩ := H
              replace H : (if 2 + t247.size ≤ 9223372036854775807 then ((token_Number.f ((⟨#[45, 45]⟩ : ByteArray) ++ t247) a1).bind fun bt252 => ((token_Number.f ((⟨#[43]⟩ : ByteArray) ++ t247) a1).bind fun bt254 => (if t251 = 11 then (if bt252.2 = 11 then (if bt254.2 = 11 then ((parquetlaw02_known.f).bind fun t256 => (some t256)) else (some false)) else (some false)) else (some false)))) else (none)) = some r := H
              have A20 := Aside0.mk A200
              clear A200
              by_cases c21 : 2 + t247.size ≤ 9223372036854775807
              · rw [if_pos c21] at H
                have c21b0 := eq_true c21
                have c21b1 : decide (2 + t247.size ≤ 9223372036854775807) = true := decide_eq_true c21
                try have c21b2 : (9223372036854775807 < 2 + t247.size) = False := eq_false (Nat.not_lt.2 c21)
                replace H := Option.bind_eq_some_iff.mp H
                obtain ⟨⟨t252, t253⟩, A220, H⟩ := H
                replace H : ((token_Number.f ((⟨#[43]⟩ : ByteArray) ++ t247) a1).bind fun bt254 => (if t251 = 11 then (if t253 = 11 then (if bt254.2 = 11 then ((parquetlaw02_known.f).bind fun t256 => (some t256)) else (some false)) else (some false)) else (some false))) = some r := H
                have A22 := Aside0.mk A220
                clear A220
                replace H := Option.bind_eq_some_iff.mp H
                obtain ⟨⟨t254, t255⟩, A230, H⟩ := H
                replace H : (if t251 = 11 then (if t253 = 11 then (if t255 = 11 then ((parquetlaw02_known.f).bind fun t256 => (some t256)) else (some false)) else (some false)) else (some false)) = some r := H
                have A23 := Aside0.mk A230
                clear A230
                by_cases c24 : t251 = 11
                · rw [if_pos c24] at H
                  have c24b0 : (t251 == 11) = true := beq_iff_eq.mpr c24
                  have c24b1 : (t251 != 11) = false := bne_eq_false_iff_eq.mpr c24
                  clear c24
                  by_cases c25 : t253 = 11
                  · rw [if_pos c25] at H
                    have c25b0 : (t253 == 11) = true := beq_iff_eq.mpr c25
                    have c25b1 : (t253 != 11) = false := bne_eq_false_iff_eq.mpr c25
                    clear c25
                    by_cases c26 : t255 = 11
                    · rw [if_pos c26] at H
                      have c26b0 : (t255 == 11) = true := beq_iff_eq.mpr c26
                      have c26b1 : (t255 != 11) = false := bne_eq_false_iff_eq.mpr c26
                      clear c26
                      replace H := Option.bind_eq_some_iff.mp H
                      obtain ⟨t256, A270, H⟩ := H
                      replace H : (some t256) = some r := H
                      have A27 := Aside0.mk A270
                      clear A270
                      obtain rfl := Option.some.inj H
                      go_wp2_with (first | ((with_reducible refine gate_callee (f := 21) rfl ?_); refine goesL_ (some 63) rfl rfl Try.func21 (by kernel_rfl) rfl #[.string ((⟨#[48]⟩ : ByteArray) ++ t247), .int .i64 a1] rfl (by (try simp only [List.map_toArray, List.map_cons, List.map_nil]); first | done | rfl | (simp only [List.length_drop, List.length_take]; rfl)) ?_; (with_reducible refine (token_Number.calls ((⟨#[48]⟩ : ByteArray) ++ t247) a1 t250 t251 _ A20.out).mono ?_); rintro e w28 ⟨rfl, hb⟩; refine ⟨_, rfl, ?_⟩; have n0_ := Aside0.mk (below_step (by repeat (first | (with_reducible first | exact HB.out | apply below_alloc | apply pw_below_drewN | apply below_drew1) | exact HB.out)) hb); clear HB; have HB := n0_; clear n0_; (try clear hb); (try clear hb2); (try clear hk); (try clear hi)) | ((with_reducible refine gate_callee (f := 21) rfl ?_); refine goesL_ (some 70) rfl rfl Try.func21 (by kernel_rfl) rfl #[.string ((⟨#[45, 45]⟩ : ByteArray) ++ t247), .int .i64 a1] rfl (by (try simp only [List.map_toArray, List.map_cons, List.map_nil]); first | done | rfl | (simp only [List.length_drop, List.length_take]; rfl)) ?_; (with_reducible refine (token_Number.calls ((⟨#[45, 45]⟩ : ByteArray) ++ t247) a1 t252 t253 _ A22.out).mono ?_); rintro e w29 ⟨rfl, hb⟩; refine ⟨_, rfl, ?_⟩; have n0_ := Aside0.mk (below_step (by repeat (first | (with_reducible first | exact HB.out | apply below_alloc | apply pw_below_drewN | apply below_drew1) | exact HB.out)) hb); clear HB; have HB := n0_; clear n0_; (try clear hb); (try clear hb2); (try clear hk); (try clear hi)) | ((with_reducible refine gate_callee (f := 21) rfl ?_); refine goesL_ (some 77) rfl rfl Try.func21 (by kernel_rfl) rfl #[.string ((⟨#[43]⟩ : ByteArray) ++ t247), .int .i64 a1] rfl (by (try simp only [List.map_toArray, List.map_cons, List.map_nil]); first | done | rfl | (simp only [List.length_drop, List.length_take]; rfl)) ?_; (with_reducible refine (token_Number.calls ((⟨#[43]⟩ : ByteArray) ++ t247) a1 t254 t255 _ A23.out).mono ?_); rintro e w30 ⟨rfl, hb⟩; refine ⟨_, rfl, ?_⟩; have n0_ := Aside0.mk (below_step (by repeat (first | (with_reducible first | exact HB.out | apply below_alloc | apply pw_below_drewN | apply below_drew1) | exact HB.out)) hb); clear HB; have HB := n0_; clear n0_; (try clear hb); (try clear hb2); (try clear hk); (try clear hi)) | (go_at_call 16; (with_reducible refine (parquetlaw02_known.calls  t256 _ A27.out).mono ?_); rintro e w31 ⟨rfl, hb⟩; have n0_ := Aside0.mk (below_step (by repeat (first | (with_reducible first | exact HB.out | apply below_alloc | apply pw_below_drewN | apply below_drew1) | exact HB.out)) hb); clear HB; have HB := n0_; clear n0_; (try clear hb); (try clear hb2); (try clear hk); (try clear hi)))
                      go_ret
                      exact ⟨by first | rfl | (simp [errW_none, errW_some] <;> rfl) | (simp [*, errW_none, errW_some] <;> rfl), by repeat (first | (with_reducible first | exact HB.out | apply below_alloc | apply pw_below_drewN | apply below_drew1) | exact HB.out)⟩
                    · rw [if_neg c26] at H
                      have c26b0 : (t255 == 11) = false := beq_eq_false_iff_ne.mpr c26
                      have c26b1 : (t255 != 11) = true := bne_iff_ne.mpr c26
                      obtain rfl := Option.some.inj H
                      go_wp2_with (first | ((with_reducible refine gate_callee (f := 21) rfl ?_); refine goesL_ (some 63) rfl rfl Try.func21 (by kernel_rfl) rfl #[.string ((⟨#[48]⟩ : ByteArray) ++ t247), .int .i64 a1] rfl (by (try simp only [List.map_toArray, List.map_cons, List.map_nil]); first | done | rfl | (simp only [List.length_drop, List.length_take]; rfl)) ?_; (with_reducible refine (token_Number.calls ((⟨#[48]⟩ : ByteArray) ++ t247) a1 t250 t251 _ A20.out).mono ?_); rintro e w32 ⟨rfl, hb⟩; refine ⟨_, rfl, ?_⟩; have n0_ := Aside0.mk (below_step (by repeat (first | (with_reducible first | exact HB.out | apply below_alloc | apply pw_below_drewN | apply below_drew1) | exact HB.out)) hb); clear HB; have HB := n0_; clear n0_; (try clear hb); (try clear hb2); (try clear hk); (try clear hi)) | ((with_reducible refine gate_callee (f := 21) rfl ?_); refine goesL_ (some 70) rfl rfl Try.func21 (by kernel_rfl) rfl #[.string ((⟨#[45, 45]⟩ : ByteArray) ++ t247), .int .i64 a1] rfl (by (try simp only [List.map_toArray, List.map_cons, List.map_nil]); first | done | rfl | (simp only [List.length_drop, List.length_take]; rfl)) ?_; (with_reducible refine (token_Number.calls ((⟨#[45, 45]⟩ : ByteArray) ++ t247) a1 t252 t253 _ A22.out).mono ?_); rintro e w33 ⟨rfl, hb⟩; refine ⟨_, rfl, ?_⟩; have n0_ := Aside0.mk (below_step (by repeat (first | (with_reducible first | exact HB.out | apply below_alloc | apply pw_below_drewN | apply below_drew1) | exact HB.out)) hb); clear HB; have HB := n0_; clear n0_; (try clear hb); (try clear hb2); (try clear hk); (try clear hi)) | ((with_reducible refine gate_callee (f := 21) rfl ?_); refine goesL_ (some 77) rfl rfl Try.func21 (by kernel_rfl) rfl #[.string ((⟨#[43]⟩ : ByteArray) ++ t247), .int .i64 a1] rfl (by (try simp only [List.map_toArray, List.map_cons, List.map_nil]); first | done | rfl | (simp only [List.length_drop, List.length_take]; rfl)) ?_; (with_reducible refine (token_Number.calls ((⟨#[43]⟩ : ByteArray) ++ t247) a1 t254 t255 _ A23.out).mono ?_); rintro e w34 ⟨rfl, hb⟩; refine ⟨_, rfl, ?_⟩; have n0_ := Aside0.mk (below_step (by repeat (first | (with_reducible first | exact HB.out | apply below_alloc | apply pw_below_drewN | apply below_drew1) | exact HB.out)) hb); clear HB; have HB := n0_; clear n0_; (try clear hb); (try clear hb2); (try clear hk); (try clear hi)))
                      go_ret
                      exact ⟨by first | rfl | (simp [errW_none, errW_some] <;> rfl) | (simp [*, errW_none, errW_some] <;> rfl), by repeat (first | (with_reducible first | exact HB.out | apply below_alloc | apply pw_below_drewN | apply below_drew1) | exact HB.out)⟩
                  · rw [if_neg c25] at H
                    have c25b0 : (t253 == 11) = false := beq_eq_false_iff_ne.mpr c25
                    have c25b1 : (t253 != 11) = true := bne_iff_ne.mpr c25
                    obtain rfl := Option.some.inj H
                    go_wp2_with (first | ((with_reducible refine gate_callee (f := 21) rfl ?_); refine goesL_ (some 63) rfl rfl Try.func21 (by kernel_rfl) rfl #[.string ((⟨#[48]⟩ : ByteArray) ++ t247), .int .i64 a1] rfl (by (try simp only [List.map_toArray, List.map_cons, List.map_nil]); first | done | rfl | (simp only [List.length_drop, List.length_take]; rfl)) ?_; (with_reducible refine (token_Number.calls ((⟨#[48]⟩ : ByteArray) ++ t247) a1 t250 t251 _ A20.out).mono ?_); rintro e w35 ⟨rfl, hb⟩; refine ⟨_, rfl, ?_⟩; have n0_ := Aside0.mk (below_step (by repeat (first | (with_reducible first | exact HB.out | apply below_alloc | apply pw_below_drewN | apply below_drew1) | exact HB.out)) hb); clear HB; have HB := n0_; clear n0_; (try clear hb); (try clear hb2); (try clear hk); (try clear hi)) | ((with_reducible refine gate_callee (f := 21) rfl ?_); refine goesL_ (some 70) rfl rfl Try.func21 (by kernel_rfl) rfl #[.string ((⟨#[45, 45]⟩ : ByteArray) ++ t247), .int .i64 a1] rfl (by (try simp only [List.map_toArray, List.map_cons, List.map_nil]); first | done | rfl | (simp only [List.length_drop, List.length_take]; rfl)) ?_; (with_reducible refine (token_Number.calls ((⟨#[45, 45]⟩ : ByteArray) ++ t247) a1 t252 t253 _ A22.out).mono ?_); rintro e w36 ⟨rfl, hb⟩; refine ⟨_, rfl, ?_⟩; have n0_ := Aside0.mk (below_step (by repeat (first | (with_reducible first | exact HB.out | apply below_alloc | apply pw_below_drewN | apply below_drew1) | exact HB.out)) hb); clear HB; have HB := n0_; clear n0_; (try clear hb); (try clear hb2); (try clear hk); (try clear hi)) | ((with_reducible refine gate_callee (f := 21) rfl ?_); refine goesL_ (some 77) rfl rfl Try.func21 (by kernel_rfl) rfl #[.string ((⟨#[43]⟩ : ByteArray) ++ t247), .int .i64 a1] rfl (by (try simp only [List.map_toArray, List.map_cons, List.map_nil]); first | done | rfl | (simp only [List.length_drop, List.length_take]; rfl)) ?_; (with_reducible refine (token_Number.calls ((⟨#[43]⟩ : ByteArray) ++ t247) a1 t254 t255 _ A23.out).mono ?_); rintro e w37 ⟨rfl, hb⟩; refine ⟨_, rfl, ?_⟩; have n0_ := Aside0.mk (below_step (by repeat (first | (with_reducible first | exact HB.out | apply below_alloc | apply pw_below_drewN | apply below_drew1) | exact HB.out)) hb); clear HB; have HB := n0_; clear n0_; (try clear hb); (try clear hb2); (try clear hk); (try clear hi)))
                    go_ret
                    exact ⟨by first | rfl | (simp [errW_none, errW_some] <;> rfl) | (simp [*, errW_none, errW_some] <;> rfl), by repeat (first | (with_reducible first | exact HB.out | apply below_alloc | apply pw_below_drewN | apply below_drew1) | exact HB.out)⟩
                · rw [if_neg c24] at H
                  have c24b0 : (t251 == 11) = false := beq_eq_false_iff_ne.mpr c24
                  have c24b1 : (t251 != 11) = true := bne_iff_ne.mpr c24
                  obtain rfl := Option.some.inj H
                  go_wp2_with (first | ((with_reducible refine gate_callee (f := 21) rfl ?_); refine goesL_ (some 63) rfl rfl Try.func21 (by kernel_rfl) rfl #[.string ((⟨#[48]⟩ : ByteArray) ++ t247), .int .i64 a1] rfl (by (try simp only [List.map_toArray, List.map_cons, List.map_nil]); first | done | rfl | (simp only [List.length_drop, List.length_take]; rfl)) ?_; (with_reducible refine (token_Number.calls ((⟨#[48]⟩ : ByteArray) ++ t247) a1 t250 t251 _ A20.out).mono ?_); rintro e w38 ⟨rfl, hb⟩; refine ⟨_, rfl, ?_⟩; have n0_ := Aside0.mk (below_step (by repeat (first | (with_reducible first | exact HB.out | apply below_alloc | apply pw_below_drewN | apply below_drew1) | exact HB.out)) hb); clear HB; have HB := n0_; clear n0_; (try clear hb); (try clear hb2); (try clear hk); (try clear hi)) | ((with_reducible refine gate_callee (f := 21) rfl ?_); refine goesL_ (some 70) rfl rfl Try.func21 (by kernel_rfl) rfl #[.string ((⟨#[45, 45]⟩ : ByteArray) ++ t247), .int .i64 a1] rfl (by (try simp only [List.map_toArray, List.map_cons, List.map_nil]); first | done | rfl | (simp only [List.length_drop, List.length_take]; rfl)) ?_; (with_reducible refine (token_Number.calls ((⟨#[45, 45]⟩ : ByteArray) ++ t247) a1 t252 t253 _ A22.out).mono ?_); rintro e w39 ⟨rfl, hb⟩; refine ⟨_, rfl, ?_⟩; have n0_ := Aside0.mk (below_step (by repeat (first | (with_reducible first | exact HB.out | apply below_alloc | apply pw_below_drewN | apply below_drew1) | exact HB.out)) hb); clear HB; have HB := n0_; clear n0_; (try clear hb); (try clear hb2); (try clear hk); (try clear hi)) | ((with_reducible refine gate_callee (f := 21) rfl ?_); refine goesL_ (some 77) rfl rfl Try.func21 (by kernel_rfl) rfl #[.string ((⟨#[43]⟩ : ByteArray) ++ t247), .int .i64 a1] rfl (by (try simp only [List.map_toArray, List.map_cons, List.map_nil]); first | done | rfl | (simp only [List.length_drop, List.length_take]; rfl)) ?_; (with_reducible refine (token_Number.calls ((⟨#[43]⟩ : ByteArray) ++ t247) a1 t254 t255 _ A23.out).mono ?_); rintro e w40 ⟨rfl, hb⟩; refine ⟨_, rfl, ?_⟩; have n0_ := Aside0.mk (below_step (by repeat (first | (with_reducible first | exact HB.out | apply below_alloc | apply pw_below_drewN | apply below_drew1) | exact HB.out)) hb); clear HB; have HB := n0_; clear n0_; (try clear hb); (try clear hb2); (try clear hk); (try clear hi)))
                  go_ret
                  exact ⟨by first | rfl | (simp [errW_none, errW_some] <;> rfl) | (simp [*, errW_none, errW_some] <;> rfl), by repeat (first | (with_reducible first | exact HB.out | apply below_alloc | apply pw_below_drewN | apply below_drew1) | exact HB.out)⟩
              · rw [if_neg c21] at H
                exact absurd H (by simp)
            · rw [if_neg c19] at H
              exact absurd H (by simp)

/-- THE ONE PURE STATEMENT of parquetlaw02_TokenBack: yours. -/
def parquetlaw02_TokenBack.Pure : Prop := ∀ (a0 : Int) (a1 : Int), (Lit.int .i64 a0).wf = true → (Lit.int .i64 a1).wf = true → ∃ k, parquetlaw02_TokenBack.f k a0 a1 = some true
theorem parquetlaw02_TokenBack.walk (P : parquetlaw02_TokenBack.Pure) (a0 : Int) (a1 : Int) (w : World) (w0 : (Lit.int .i64 a0).wf = true) (w1 : (Lit.int .i64 a1).wf = true) :
    Calls Try.prog 6 #[.int .i64 a0, .int .i64 a1] w fun e w' => e = .returned (.bool true) ∧ Below w.heap.size w w' := by
  obtain ⟨k, h⟩ := P a0 a1 w0 w1
  refine (parquetlaw02_TokenBack.calls k a0 a1 true w h).mono ?_
  rintro e w' ⟨rfl, hd⟩
  exact ⟨rfl, hd⟩

end Go.Proofs.Ytajfaieiabnknaa.MT

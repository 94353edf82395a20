/- The walk of wide's divide. -/
import Derived.Test.YtmpbbodafenonaaLimb2
set_option linter.unusedVariables false
set_option linter.unusedSimpArgs false
namespace Go.Proofs.Ytmpbbodafenonaa
open Go Go.Proofs Go.RowKit Go.Proofs.YtmpbbodafenonaaW.PrintWords

theorem Box4.new (W : World) (a b c d : Int) : Box4 (W.alloc (.cells #[.int .u64 a, .int .u64 b, .int .u64 c, .int .u64 d] 25)) W.heap.size a b c d := by
  show (W.heap.push _)[W.heap.size]? = _
  simp
theorem Box4.new' (W : World) (B : Nat) (a b c d : Int) (h : W.heap.size = B) : Box4 (W.alloc (.cells #[.int .u64 a, .int .u64 b, .int .u64 c, .int .u64 d] 25)) B a b c d := h ▸ Box4.new W a b c d
theorem Box4.alloc {W : World} {B : Nat} {a b c d : Int} (h : Box4 W B a b c d) (o : Obj) : Box4 (W.alloc o) B a b c d := h.below (below_alloc (Below.refl W.heap.size W) o) h.lt
theorem box4_mk {W : World} {B i : Nat} {a b c d x a' b' c' d' : Int} (h : Box4 W B a b c d) (hs : set4 a b c d i x = (a', b', c', d')) (hi : i < 4) : Box4 (W.setCell ⟨B, i, none⟩ (.int .u64 x)) B a' b' c' d' := by
  have h1 := h.set i x
  unfold Box4
  rw [h1]
  match i, hi with
  | 0, _ => simp [set4] at hs; obtain ⟨rfl, rfl, rfl, rfl⟩ := hs; rfl
  | 1, _ => simp [set4] at hs; obtain ⟨rfl, rfl, rfl, rfl⟩ := hs; rfl
  | 2, _ => simp [set4] at hs; obtain ⟨rfl, rfl, rfl, rfl⟩ := hs; rfl
  | 3, _ => simp [set4] at hs; obtain ⟨rfl, rfl, rfl, rfl⟩ := hs; rfl

theorem Box4.dr {W : World} {B : Nat} {a b c d : Int} (h : Box4 W B a b c d) : Box4 W.drew B a b c d := h
theorem Box4.setAll {W : World} {B : Nat} {a b c d : Int} (h : Box4 W B a b c d) (x y z t : Int) : Box4 ((((W.setCell ⟨B, 0, none⟩ (.int .u64 x)).setCell ⟨B, 1, none⟩ (.int .u64 y)).setCell ⟨B, 2, none⟩ (.int .u64 z)).setCell ⟨B, 3, none⟩ (.int .u64 t)) B x y z t :=
  box4_mk (box4_mk (box4_mk (box4_mk h rfl (by decide)) rfl (by decide)) rfl (by decide)) rfl (by decide)
theorem Box4.farAll {W : World} {B B' : Nat} {a b c d : Int} (h : Box4 W B a b c d) (hn : B ≠ B') (x y z t : Value) : Box4 ((((W.setCell ⟨B', 0, none⟩ x).setCell ⟨B', 1, none⟩ y).setCell ⟨B', 2, none⟩ z).setCell ⟨B', 3, none⟩ t) B a b c d :=
  (((h.far hn _).far hn _).far hn _).far hn _
/-- The boxes of the walk. -/
structure Boxes (w W : World) (a0 a1 a2 a3 b0 b1 b2 b3 q0 q1 q2 q3 r0 r1 r2 r3 : Int) : Prop where
  hb : Below w.heap.size w W
  xa : Box4 W w.heap.size a0 a1 a2 a3
  xb : Box4 W (w.heap.size + 1) b0 b1 b2 b3
  xq : Box4 W (w.heap.size + 1 + 1 + 1 + 1) q0 q1 q2 q3
  xr : Box4 W (w.heap.size + 1 + 1 + 1 + 1 + 1) r0 r1 r2 r3
  xx : ∃ x y z t : Int, Box4 W (w.heap.size + 1 + 1) x y z t
  xy : ∃ x y z t : Int, Box4 W (w.heap.size + 1 + 1 + 1) x y z t
theorem Boxes.later {w W W' : World} {a0 a1 a2 a3 b0 b1 b2 b3 q0 q1 q2 q3 r0 r1 r2 r3 : Int} (h : Boxes w W a0 a1 a2 a3 b0 b1 b2 b3 q0 q1 q2 q3 r0 r1 r2 r3) (hb : Below W.heap.size W W') : Boxes w W' a0 a1 a2 a3 b0 b1 b2 b3 q0 q1 q2 q3 r0 r1 r2 r3 := by
  obtain ⟨h1, h2, h3, h4, h5, ⟨x, y, z, t, h6⟩, ⟨x', y', z', t', h7⟩⟩ := h
  exact ⟨h1.trans (hb.mono h1.size), h2.below hb h2.lt, h3.below hb h3.lt, h4.below hb h4.lt, h5.below hb h5.lt, ⟨x, y, z, t, h6.below hb h6.lt⟩, ⟨x', y', z', t', h7.below hb h7.lt⟩⟩
theorem Boxes.setr {w W : World} {a0 a1 a2 a3 b0 b1 b2 b3 q0 q1 q2 q3 r0 r1 r2 r3 : Int} (h : Boxes w W a0 a1 a2 a3 b0 b1 b2 b3 q0 q1 q2 q3 r0 r1 r2 r3) (i : Nat) (x : Int) (hi : i < 4) {s0 s1 s2 s3 : Int} (hs : set4 r0 r1 r2 r3 i x = (s0, s1, s2, s3)) :
    Boxes w (W.setCell ⟨w.heap.size + 1 + 1 + 1 + 1 + 1, i, none⟩ (.int .u64 x)) a0 a1 a2 a3 b0 b1 b2 b3 q0 q1 q2 q3 s0 s1 s2 s3 := by
  obtain ⟨h1, h2, h3, h4, h5, ⟨x1, y, z, t, h6⟩, ⟨x', y', z', t', h7⟩⟩ := h
  exact ⟨bset h1 _ _ _ (by omega), h2.far (by omega) _, h3.far (by omega) _, h4.far (by omega) _, box4_mk h5 hs hi, ⟨x1, y, z, t, h6.far (by omega) _⟩, ⟨x', y', z', t', h7.far (by omega) _⟩⟩
theorem Boxes.setq {w W : World} {a0 a1 a2 a3 b0 b1 b2 b3 q0 q1 q2 q3 r0 r1 r2 r3 : Int} (h : Boxes w W a0 a1 a2 a3 b0 b1 b2 b3 q0 q1 q2 q3 r0 r1 r2 r3) (i : Nat) (x : Int) (hi : i < 4) {s0 s1 s2 s3 : Int} (hs : set4 q0 q1 q2 q3 i x = (s0, s1, s2, s3)) :
    Boxes w (W.setCell ⟨w.heap.size + 1 + 1 + 1 + 1, i, none⟩ (.int .u64 x)) a0 a1 a2 a3 b0 b1 b2 b3 s0 s1 s2 s3 r0 r1 r2 r3 := by
  obtain ⟨h1, h2, h3, h4, h5, ⟨x1, y, z, t, h6⟩, ⟨x', y', z', t', h7⟩⟩ := h
  exact ⟨bset h1 _ _ _ (by omega), h2.far (by omega) _, h3.far (by omega) _, box4_mk h4 hs hi, h5.far (by omega) _, ⟨x1, y, z, t, h6.far (by omega) _⟩, ⟨x', y', z', t', h7.far (by omega) _⟩⟩
theorem Boxes.drew {w W : World} {a0 a1 a2 a3 b0 b1 b2 b3 q0 q1 q2 q3 r0 r1 r2 r3 : Int} (h : Boxes w W a0 a1 a2 a3 b0 b1 b2 b3 q0 q1 q2 q3 r0 r1 r2 r3) : Boxes w W.drew a0 a1 a2 a3 b0 b1 b2 b3 q0 q1 q2 q3 r0 r1 r2 r3 := h.later (below_drew (Below.refl _ _))
theorem Boxes.setr4 {w W : World} {a0 a1 a2 a3 b0 b1 b2 b3 q0 q1 q2 q3 r0 r1 r2 r3 : Int} (h : Boxes w W a0 a1 a2 a3 b0 b1 b2 b3 q0 q1 q2 q3 r0 r1 r2 r3) (s0 s1 s2 s3 : Int) :
    Boxes w ((((W.setCell ⟨w.heap.size + 1 + 1 + 1 + 1 + 1, 0, none⟩ (.int .u64 s0)).setCell ⟨w.heap.size + 1 + 1 + 1 + 1 + 1, 1, none⟩ (.int .u64 s1)).setCell ⟨w.heap.size + 1 + 1 + 1 + 1 + 1, 2, none⟩ (.int .u64 s2)).setCell ⟨w.heap.size + 1 + 1 + 1 + 1 + 1, 3, none⟩ (.int .u64 s3)) a0 a1 a2 a3 b0 b1 b2 b3 q0 q1 q2 q3 s0 s1 s2 s3 :=
  (((h.setr 0 s0 (by decide) rfl).setr 1 s1 (by decide) rfl).setr 2 s2 (by decide) rfl).setr 3 s3 (by decide) rfl
theorem Boxes.setr4' {w W : World} {a0 a1 a2 a3 b0 b1 b2 b3 q0 q1 q2 q3 r0 r1 r2 r3 : Int} (h : Boxes w W a0 a1 a2 a3 b0 b1 b2 b3 q0 q1 q2 q3 r0 r1 r2 r3) (s0 s1 s2 s3 : Int) :
    Boxes w ((((W.setCell ⟨w.heap.size + 1 + 1 + 1 + 1 + 1, 3, none⟩ (.int .u64 s3)).setCell ⟨w.heap.size + 1 + 1 + 1 + 1 + 1, 2, none⟩ (.int .u64 s2)).setCell ⟨w.heap.size + 1 + 1 + 1 + 1 + 1, 1, none⟩ (.int .u64 s1)).setCell ⟨w.heap.size + 1 + 1 + 1 + 1 + 1, 0, none⟩ (.int .u64 s0)) a0 a1 a2 a3 b0 b1 b2 b3 q0 q1 q2 q3 s0 s1 s2 s3 :=
  (((h.setr 3 s3 (by decide) rfl).setr 2 s2 (by decide) rfl).setr 1 s1 (by decide) rfl).setr 0 s0 (by decide) rfl

/-- The round's relation. -/
def DivRel (A B : Int) (w : World) (a0 a1 a2 a3 b0 b1 b2 b3 : Int) (v8 : Value) (W : World) : Prop :=
  ∃ (m : Nat) (q0 q1 q2 q3 r0 r1 r2 r3 : Int), v8 = .int .i64 ((m : Int) - 1) ∧ m ≤ 256 ∧ Boxes w W a0 a1 a2 a3 b0 b1 b2 b3 q0 q1 q2 q3 r0 r1 r2 r3 ∧
    (U q0 ∧ U q1 ∧ U q2 ∧ U q3) ∧ (U r0 ∧ U r1 ∧ U r2 ∧ U r3) ∧ Aside0 (DivInv A B m (val4 q0 q1 q2 q3) (val4 r0 r1 r2 r3))

theorem div_yes {A B : Int} {w w2 : World} {a0 a1 a2 a3 b0 b1 b2 b3 q0 q1 q2 q3 r0 r1 r2 r3 s0 s1 s2 s3 d0 d1 d2 d3 tp qx : Int} {n : Nat} (hn : n < 256) (uq0 : U q0) (uq1 : U q1) (uq2 : U q2) (uq3 : U q3) (us0 : U s0) (us1 : U s1) (us2 : U s2) (us3 : U s3) (ud0 : U d0) (ud1 : U d1) (ud2 : U d2) (ud3 : U d3)
    (hX : Boxes w w2 a0 a1 a2 a3 b0 b1 b2 b3 q0 q1 q2 q3 s0 s1 s2 s3) (hI : DivInv A B (n + 1) (val4 q0 q1 q2 q3) (val4 r0 r1 r2 r3)) (hv : val4 s0 s1 s2 s3 + top4 * tp = 2 * val4 r0 r1 r2 r3 + A / 2 ^ n % 2) (htp : 0 ≤ tp ∧ tp ≤ 1) (hc : tp = 1 ∨ B ≤ val4 s0 s1 s2 s3)
    (hB : B < top4) (hdv : val4 d0 d1 d2 d3 = (val4 s0 s1 s2 s3 - B) % top4) (hqx : qx = [q0, q1, q2, q3].getD (n / 64) 0) :
    DivRel A B w a0 a1 a2 a3 b0 b1 b2 b3 (.int .i64 ((n : Int) - 1)) (((((w2.setCell ⟨w.heap.size + 1 + 1 + 1 + 1 + 1, 0, none⟩ (.int .u64 d0)).setCell ⟨w.heap.size + 1 + 1 + 1 + 1 + 1, 1, none⟩ (.int .u64 d1)).setCell ⟨w.heap.size + 1 + 1 + 1 + 1 + 1, 2, none⟩ (.int .u64 d2)).setCell ⟨w.heap.size + 1 + 1 + 1 + 1 + 1, 3, none⟩ (.int .u64 d3)).setCell ⟨w.heap.size + 1 + 1 + 1 + 1, n / 64, none⟩ (.int .u64 (Go.bits .or .u64 qx (IntKind.u64.wrap (2 ^ (n % 64)))))).drew := by
  have hs := val4_bound us0 us1 us2 us3
  have hR1 : B ≤ 2 * val4 r0 r1 r2 r3 + A / 2 ^ n % 2 := by
    rcases hc with hc | hc
    · rw [← hv, hc]; omega
    · rw [← hv]; unfold top4 at *; omega
  have hy := hI.yes hR1
  have hd : val4 d0 d1 d2 d3 = 2 * val4 r0 r1 r2 r3 + A / 2 ^ n % 2 - B := by
    have h1 := hI.2.1
    have h0 := hI.1
    rw [hdv]
    rw [show val4 s0 s1 s2 s3 - B = (2 * val4 r0 r1 r2 r3 + A / 2 ^ n % 2 - B) + top4 * (-tp) by rw [Int.mul_neg]; omega, Int.add_mul_emod_self_left]
    exact Int.emod_eq_of_lt (by omega) (by omega)
  have hz := low_zero uq0 uq1 uq2 uq3 hn ⟨hI.2.2.choose, hI.2.2.choose_spec.1⟩
  rw [← hqx] at hz
  have hux : U qx := by rw [hqx]; exact getD_U uq0 uq1 uq2 uq3 _ (by omega)
  have ho : Go.bits .or .u64 qx (IntKind.u64.wrap (2 ^ (n % 64))) = qx + 2 ^ (n % 64) := by
    rw [u64_small _ (Int.le_of_lt (two_pow_pos _)) (two_pow_lt (by omega))]
    exact or_bit hux (by omega) hz
  have hu : U (qx + 2 ^ (n % 64)) := by rw [← ho]; exact bits_U _ _ _
  rw [ho]
  obtain ⟨q0', q1', q2', q3', hset⟩ : ∃ q0' q1' q2' q3', set4 q0 q1 q2 q3 (n / 64) (qx + 2 ^ (n % 64)) = (q0', q1', q2', q3') := ⟨_, _, _, _, rfl⟩
  have hq := set4_U uq0 uq1 uq2 uq3 hu _ hset
  have hqv : val4 q0' q1' q2' q3' = val4 q0 q1 q2 q3 + 2 ^ n := set4_val q0 q1 q2 q3 n hn (hqx ▸ hset)
  refine ⟨n, q0', q1', q2', q3', d0, d1, d2, d3, rfl, by omega, ((hX.setr4 d0 d1 d2 d3).setq (n / 64) _ (by omega) hset).drew, hq, ⟨ud0, ud1, ud2, ud3⟩, ⟨?_⟩⟩
  rw [hqv, hd]
  exact hy
theorem div_no {A B : Int} {w w2 : World} {a0 a1 a2 a3 b0 b1 b2 b3 q0 q1 q2 q3 r0 r1 r2 r3 s0 s1 s2 s3 tp : Int} {n : Nat} (hn : n < 256) (uq0 : U q0) (uq1 : U q1) (uq2 : U q2) (uq3 : U q3) (us0 : U s0) (us1 : U s1) (us2 : U s2) (us3 : U s3)
    (hX : Boxes w w2 a0 a1 a2 a3 b0 b1 b2 b3 q0 q1 q2 q3 s0 s1 s2 s3) (hI : DivInv A B (n + 1) (val4 q0 q1 q2 q3) (val4 r0 r1 r2 r3)) (hv : val4 s0 s1 s2 s3 + top4 * tp = 2 * val4 r0 r1 r2 r3 + A / 2 ^ n % 2) (htp : tp = 0) (hc : val4 s0 s1 s2 s3 < B) :
    DivRel A B w a0 a1 a2 a3 b0 b1 b2 b3 (.int .i64 ((n : Int) - 1)) w2 := by
  subst htp
  rw [Int.mul_zero, Int.add_zero] at hv
  refine ⟨n, q0, q1, q2, q3, s0, s1, s2, s3, rfl, by omega, hX, ⟨uq0, uq1, uq2, uq3⟩, ⟨us0, us1, us2, us3⟩, ⟨?_⟩⟩
  rw [hv] at hc ⊢
  exact hI.no hc
theorem cmpI_ge {x y : Int} : 0 ≤ cmpI x y ↔ y ≤ x := by unfold cmpI; split <;> (try split) <;> omega
theorem shift_step {a0 a1 a2 a3 r0 r1 r2 r3 ax bt s0 s1 s2 s3 tp : Int} {n : Nat} (ha0 : U a0) (ha1 : U a1) (ha2 : U a2) (ha3 : U a3) (hn : n < 256) (ur0 : U r0) (ur1 : U r1) (ur2 : U r2) (ur3 : U r3)
    (hax : ax = [a0, a1, a2, a3].getD (n / 64) 0) (hbt : Go.bits .and .u64 (ax / 2 ^ (n % 64)) 1 = bt) (hs0 : Go.bits .or .u64 (IntKind.u64.wrap (r0 * 2)) bt = s0) (hs1 : Go.bits .or .u64 (IntKind.u64.wrap (r1 * 2)) (r0 / 9223372036854775808) = s1)
    (hs2 : Go.bits .or .u64 (IntKind.u64.wrap (r2 * 2)) (r1 / 9223372036854775808) = s2) (hs3 : Go.bits .or .u64 (IntKind.u64.wrap (r3 * 2)) (r2 / 9223372036854775808) = s3) (htp : r3 / 9223372036854775808 = tp) :
    U s0 ∧ U s1 ∧ U s2 ∧ U s3 ∧ (0 ≤ tp ∧ tp ≤ 1) ∧ val4 s0 s1 s2 s3 + top4 * tp = 2 * val4 r0 r1 r2 r3 + val4 a0 a1 a2 a3 / 2 ^ n % 2 := by
  have hb := bit_at ha0 ha1 ha2 ha3 hn
  have hua := getD_U ha0 ha1 ha2 ha3 (n / 64) (by omega)
  rw [← hax] at hb hua
  have hux : U (ax / 2 ^ (n % 64)) := by
    unfold U at *
    exact ⟨Int.ediv_nonneg hua.1 (Int.le_of_lt (two_pow_pos _)), Int.lt_of_le_of_lt (Int.ediv_le_self _ hua.1) hua.2⟩
  have hbt2 : bt = ax / 2 ^ (n % 64) % 2 := by rw [← hbt, and1 hux]
  have hb01 : 0 ≤ bt ∧ bt ≤ 1 := by omega
  have h := shift_val ur0 ur1 ur2 ur3 hb01
  rw [join0 ur0 hb01] at hs0
  rw [join1 ur1 ur0] at hs1
  rw [join1 ur2 ur1] at hs2
  rw [join1 ur3 ur2] at hs3
  rw [hs0, hs1, hs2, hs3, htp] at h
  refine ⟨h.2.1, h.2.2.1, h.2.2.2.1, h.2.2.2.2, ?_, ?_⟩
  · unfold U at ur3
    omega
  · rw [hb, ← hbt2]
    exact h.1

set_option maxHeartbeats 2000000 in
set_option maxRecDepth 100000 in
theorem divide_any {a0 a1 a2 a3 b0 b1 b2 b3 : Int} (ha0 : U a0) (ha1 : U a1) (ha2 : U a2) (ha3 : U a3) (hb0 : U b0) (hb1 : U b1) (hb2 : U b2) (hb3 : U b3) (w : World) (hb : 0 < val4 b0 b1 b2 b3) :
    Calls Try.prog 70 #[.agg #[.int .u64 a0, .int .u64 a1, .int .u64 a2, .int .u64 a3], .agg #[.int .u64 b0, .int .u64 b1, .int .u64 b2, .int .u64 b3]] w fun e w' =>
      ∃ q0 q1 q2 q3 r0 r1 r2 r3 : Int, e = .returned (.tuple #[.agg #[.int .u64 q0, .int .u64 q1, .int .u64 q2, .int .u64 q3], .agg #[.int .u64 r0, .int .u64 r1, .int .u64 r2, .int .u64 r3]]) ∧
        (U q0 ∧ U q1 ∧ U q2 ∧ U q3) ∧ (U r0 ∧ U r1 ∧ U r2 ∧ U r3) ∧ Aside0 (val4 a0 a1 a2 a3 = val4 q0 q1 q2 q3 * val4 b0 b1 b2 b3 + val4 r0 r1 r2 r3 ∧ 0 ≤ val4 r0 r1 r2 r3 ∧ val4 r0 r1 r2 r3 < val4 b0 b1 b2 b3) ∧ Below w.heap.size w w' := by
  have hstart := Lib.hid (DivInv.start (val4_bound ha0 ha1 ha2 ha3).1 (val4_bound ha0 ha1 ha2 ha3).2 hb)
  have hbt := Lib.hid (val4_bound hb0 hb1 hb2 hb3).2
  clear hb
  go_enter Try.func70, Try.ntmps70
  go_wp2
  go_loopw [8] (fun v8 W => DivRel (val4 a0 a1 a2 a3) (val4 b0 b1 b2 b3) w a0 a1 a2 a3 b0 b1 b2 b3 v8 W) (fun v8 _ => (intOf v8 + 1).toNat)
  case atStart =>
    have h0 := Box4.new w a0 a1 a2 a3
    refine ⟨256, 0, 0, 0, 0, 0, 0, 0, 0, rfl, Nat.le_refl _, ⟨below_alloc (below_alloc (below_alloc (below_alloc (below_alloc (below_alloc (Below.refl _ _) _) _) _) _) _) _, ((((h0.alloc _).alloc _).alloc _).alloc _).alloc _,
      ((((Box4.new' _ _ b0 b1 b2 b3 ?_).alloc _).alloc _).alloc _).alloc _, (Box4.new' _ _ 0 0 0 0 ?_).alloc _, Box4.new' _ _ 0 0 0 0 ?_, ⟨0, 0, 0, 0, (((Box4.new' _ _ 0 0 0 0 ?_).alloc _).alloc _).alloc _⟩, ⟨0, 0, 0, 0, ((Box4.new' _ _ 0 0 0 0 ?_).alloc _).alloc _⟩⟩, ⟨U0, U0, U0, U0⟩, ⟨U0, U0, U0, U0⟩, ⟨hstart.out⟩⟩
    all_goals simp
  case round =>
    obtain ⟨m, q0, q1, q2, q3, r0, r1, r2, r3, rfl, hm, hX, ⟨uq0, uq1, uq2, uq3⟩, ⟨ur0, ur1, ur2, ur3⟩, hI⟩ := hrel
    cases m with
    | zero =>
      obtain ⟨k0, k1, k2, k3⟩ := hX.xr.cells
      obtain ⟨l0, l1, l2, l3⟩ := hX.xq.cells
      obtain ⟨x, y, z, t, xx⟩ := hX.xx
      obtain ⟨x', y', z', t', xy⟩ := hX.xy
      obtain ⟨m0, m1, m2, m3⟩ := xx.cells
      obtain ⟨n0, n1, n2, n3⟩ := xy.cells
      have f0 := xx.fr 0
      have f1 := xx.fr 1
      have f2 := xx.fr 2
      have f3 := xx.fr 3
      have g0 := xy.fr 0
      have g1 := xy.fr 1
      have g2 := xy.fr 2
      have g3 := xy.fr 3
      have hfin := Lib.hid hI.out.done
      clear hI
      go_wp2
      go_region
      go_wp2
      obtain ⟨W5, hW5⟩ : ∃ W5 : World, W5 = ((((((((wr.setCell ⟨w.heap.size + 1 + 1, 0, none⟩ (.int .u64 q0)).setCell ⟨w.heap.size + 1 + 1, 1, none⟩ (.int .u64 q1)).setCell ⟨w.heap.size + 1 + 1, 2, none⟩ (.int .u64 q2)).setCell ⟨w.heap.size + 1 + 1, 3, none⟩ (.int .u64 q3)).setCell ⟨w.heap.size + 1 + 1 + 1, 0, none⟩ (.int .u64 r0)).setCell ⟨w.heap.size + 1 + 1 + 1, 1, none⟩ (.int .u64 r1)).setCell ⟨w.heap.size + 1 + 1 + 1, 2, none⟩ (.int .u64 r2)).setCell ⟨w.heap.size + 1 + 1 + 1, 3, none⟩ (.int .u64 r3)).drew := ⟨_, rfl⟩
      rw [← hW5]
      have z0 : Below w.heap.size w W5 := by
        rw [hW5]
        exact below_drew (bset (bset (bset (bset (bset (bset (bset (bset hX.hb _ _ _ (by omega)) _ _ _ (by omega)) _ _ _ (by omega)) _ _ _ (by omega)) _ _ _ (by omega)) _ _ _ (by omega)) _ _ _ (by omega)) _ _ _ (by omega))
      have z1 : Box4 W5 (w.heap.size + 1 + 1) q0 q1 q2 q3 := by
        rw [hW5]
        exact ((xx.setAll q0 q1 q2 q3).farAll (B' := w.heap.size + 1 + 1 + 1) (by omega) (.int .u64 r0) (.int .u64 r1) (.int .u64 r2) (.int .u64 r3)).dr
      have z2 : Box4 W5 (w.heap.size + 1 + 1 + 1) r0 r1 r2 r3 := by
        rw [hW5]
        exact ((xy.farAll (B' := w.heap.size + 1 + 1) (by omega) (.int .u64 q0) (.int .u64 q1) (.int .u64 q2) (.int .u64 q3)).setAll r0 r1 r2 r3).dr
      clear hW5
      obtain ⟨c0, c1, c2, c3⟩ := z1.cells
      obtain ⟨d0, d1, d2, d3⟩ := z2.cells
      exact bodyPost_ret (v := .tuple #[.agg #[.int .u64 q0, .int .u64 q1, .int .u64 q2, .int .u64 q3], .agg #[.int .u64 r0, .int .u64 r1, .int .u64 r2, .int .u64 r3]]) (by simp [results, Try.results70, go_sem, c0, c1, c2, c3, d0, d1, d2, d3]) rfl ⟨q0, q1, q2, q3, r0, r1, r2, r3, rfl, ⟨uq0, uq1, uq2, uq3⟩, ⟨ur0, ur1, ur2, ur3⟩, ⟨hfin.out⟩, z0⟩
    | succ n =>
      have hn : (((n + 1 : Nat) : Int) - 1) = (n : Int) := by omega
      rw [hn]
      have hge : decide ((n : Int) ≥ 0) = true := decide_eq_true (by omega)
      have hn256 : n < 256 := by omega
      have ca := hX.xa.at (n / 64) (by omega)
      have hua := getD_U ha0 ha1 ha2 ha3 (n / 64) (by omega)
      have hbit := bit_at ha0 ha1 ha2 ha3 hn256
      obtain ⟨ax, hax⟩ : ∃ ax, ax = [a0, a1, a2, a3].getD (n / 64) 0 := ⟨_, rfl⟩
      rw [← hax] at ca hua hbit
      have HAX := Lib.hid hax
      clear hax
      obtain ⟨bt, hbt1⟩ : ∃ bt, Go.bits .and .u64 (ax / 2 ^ (n % 64)) 1 = bt := ⟨_, rfl⟩
      obtain ⟨s0, hs0⟩ : ∃ s, Go.bits .or .u64 (IntKind.u64.wrap (r0 * 2)) bt = s := ⟨_, rfl⟩
      obtain ⟨s1, hs1⟩ : ∃ s, Go.bits .or .u64 (IntKind.u64.wrap (r1 * 2)) (r0 / 9223372036854775808) = s := ⟨_, rfl⟩
      obtain ⟨s2, hs2⟩ : ∃ s, Go.bits .or .u64 (IntKind.u64.wrap (r2 * 2)) (r1 / 9223372036854775808) = s := ⟨_, rfl⟩
      obtain ⟨s3, hs3⟩ : ∃ s, Go.bits .or .u64 (IntKind.u64.wrap (r3 * 2)) (r2 / 9223372036854775808) = s := ⟨_, rfl⟩
      obtain ⟨tp, htp⟩ : ∃ tp, r3 / 9223372036854775808 = tp := ⟨_, rfl⟩
      have hshift := shift_step ha0 ha1 ha2 ha3 hn256 ur0 ur1 ur2 ur3 HAX.out hbt1 hs0 hs1 hs2 hs3 htp
      obtain ⟨us0, us1, us2, us3, htp1, hval⟩ := hshift
      have HV := Lib.hid hval
      clear hval hbit
      obtain ⟨k0, k1, k2, k3⟩ := hX.xr.cells
      obtain ⟨m0, m1, m2, m3⟩ := hX.xb.cells
      have f0 := hX.xr.fr 0
      have f1 := hX.xr.fr 1
      have f2 := hX.xr.fr 2
      have f3 := hX.xr.fr 3
      have hXs := Lib.hid ((((hX.setr4' s0 s1 s2 s3).drew).drew).drew).drew
      by_cases h1 : tp = 1
      · have ht : (tp == 1) = true := beq_iff_eq.2 h1
        have HT := Lib.hid h1
        clear h1
        go_wp2
        refine wp_loop_rounds 4 ?_
        iterate 3
          rw [rounds_succ]
          go_wp2
          go_region
          go_wp2
        rw [rounds_succ]
        go_wp2
        go_region
        go_wp2_with fail
        refine (less_any us0 us1 us2 us3 hb0 hb1 hb2 hb3 _).mono ?_
        rintro e w2 ⟨d0, d1, d2, d3, rfl, ud0, ud1, ud2, ud3, hdv, hB2⟩
        have HDV := Lib.hid hdv
        clear hdv
        have hX2 := hXs.out.later hB2
        clear hB2 k0 k1 k2 k3 m0 m1 m2 m3 f0 f1 f2 f3 ca hXs hX
        obtain ⟨k0, k1, k2, k3⟩ := hX2.xr.cells
        have f0 := hX2.xr.fr 0
        have f1 := hX2.xr.fr 1
        have f2 := hX2.xr.fr 2
        have f3 := hX2.xr.fr 3
        have fq := hX2.xq.fr (n / 64)
        have cq := hX2.xq.at (n / 64) (by omega)
        obtain ⟨qx, hqx⟩ : ∃ qx, qx = [q0, q1, q2, q3].getD (n / 64) 0 := ⟨_, rfl⟩
        rw [← hqx] at cq
        have HQX := Lib.hid hqx
        clear hqx
        go_wp2
        go_region
        go_wp2
        go_roundw
        case rel => exact div_yes hn256 uq0 uq1 uq2 uq3 us0 us1 us2 us3 ud0 ud1 ud2 ud3 hX2 hI.out HV.out htp1 (Or.inl HT.out) hbt.out HDV.out HQX.out
        case measure => simp [intOf]
      · have ht : (tp == 1) = false := beq_eq_false_iff_ne.2 h1
        have HT := Lib.hid (show tp = 0 by omega)
        clear h1
        obtain ⟨z, hz⟩ : ∃ z, cmpI (val4 s0 s1 s2 s3) (val4 b0 b1 b2 b3) = z := ⟨_, rfl⟩
        have sz := fun w => size_any us0 us1 us2 us3 hb0 hb1 hb2 hb3 w
        rw [hz] at sz
        have SZ := Lib.hid sz
        clear sz
        have HZ := Lib.hid hz
        clear hz
        by_cases h2 : 0 ≤ z
        · have hz2 : decide (z ≥ 0) = true := decide_eq_true h2
          have HC : Hid (val4 b0 b1 b2 b3 ≤ val4 s0 s1 s2 s3) := Lib.hid (cmpI_ge.1 (by rw [HZ.out]; exact h2))
          go_wp2
          refine wp_loop_rounds 4 ?_
          iterate 3
            rw [rounds_succ]
            go_wp2
            go_region
            go_wp2
          rw [rounds_succ]
          go_wp2
          go_region
          go_wp2_with fail
          refine (SZ.out _).mono ?_
          rintro e w1 ⟨rfl, hB1⟩
          have hX1 := hXs.out.later hB1
          clear hB1 k0 k1 k2 k3 m0 m1 m2 m3 f0 f1 f2 f3 ca hXs hX
          obtain ⟨k0, k1, k2, k3⟩ := hX1.xr.cells
          obtain ⟨m0, m1, m2, m3⟩ := hX1.xb.cells
          go_wp2_with fail
          refine (less_any us0 us1 us2 us3 hb0 hb1 hb2 hb3 _).mono ?_
          rintro e w2 ⟨d0, d1, d2, d3, rfl, ud0, ud1, ud2, ud3, hdv, hB2⟩
          have HDV := Lib.hid hdv
          clear hdv
          have hX2 := hX1.later hB2
          clear hB2 k0 k1 k2 k3 m0 m1 m2 m3 hX1
          obtain ⟨k0, k1, k2, k3⟩ := hX2.xr.cells
          have f0 := hX2.xr.fr 0
          have f1 := hX2.xr.fr 1
          have f2 := hX2.xr.fr 2
          have f3 := hX2.xr.fr 3
          have fq := hX2.xq.fr (n / 64)
          have cq := hX2.xq.at (n / 64) (by omega)
          obtain ⟨qx, hqx⟩ : ∃ qx, qx = [q0, q1, q2, q3].getD (n / 64) 0 := ⟨_, rfl⟩
          rw [← hqx] at cq
          have HQX := Lib.hid hqx
          clear hqx
          go_wp2
          go_region
          go_wp2
          go_roundw
          case rel => exact div_yes hn256 uq0 uq1 uq2 uq3 us0 us1 us2 us3 ud0 ud1 ud2 ud3 hX2 hI.out HV.out htp1 (Or.inr HC.out) hbt.out HDV.out HQX.out
          case measure => simp [intOf]
        · have hz2 : decide (z ≥ 0) = false := decide_eq_false h2
          have HC : Hid (val4 s0 s1 s2 s3 < val4 b0 b1 b2 b3) := Lib.hid (by
            have := mt cmpI_ge.2 (by rw [HZ.out]; exact h2)
            omega)
          go_wp2
          refine wp_loop_rounds 4 ?_
          iterate 3
            rw [rounds_succ]
            go_wp2
            go_region
            go_wp2
          rw [rounds_succ]
          go_wp2
          go_region
          go_wp2_with fail
          refine (SZ.out _).mono ?_
          rintro e w1 ⟨rfl, hB1⟩
          have hX1 := hXs.out.later hB1
          clear hB1 k0 k1 k2 k3 m0 m1 m2 m3 f0 f1 f2 f3 ca hXs hX
          go_wp2
          go_roundw
          case rel => exact div_no hn256 uq0 uq1 uq2 uq3 us0 us1 us2 us3 hX1 hI.out HV.out HT.out HC.out
          case measure => simp [intOf]
end Go.Proofs.Ytmpbbodafenonaa

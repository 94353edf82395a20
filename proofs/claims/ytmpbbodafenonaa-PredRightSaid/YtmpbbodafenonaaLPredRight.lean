/- PredRight: a right angle; plain words and the walk. -/
import Derived.Test.YtmpbbodafenonaaLPredTells
import Derived.Test.YtmpbbodafenonaaLPredSkinny
set_option linter.unusedVariables false
set_option linter.unusedSimpArgs false
namespace Go.Proofs.Ytmpbbodafenonaa
open Go Go.RowKit Go.Proofs.Ytmpbbodafenonaa.Fx Go.Proofs.YtmpbbodafenonaaW.PrintWords
theorem orn {A B : Prop} (h : B) : A ∨ ¬ A ∧ B := by
  by_cases a : A
  · exact .inl a
  · exact .inr ⟨a, h⟩
theorem mb {m y : Int} (h1 : 1 ≤ m) (h2 : m ≤ 20) (h3 : -1000000 ≤ y) (h4 : y ≤ 1000000) : -20000000 ≤ m * y ∧ m * y ≤ 20000000 := by
  have : m = 1 ∨ m = 2 ∨ m = 3 ∨ m = 4 ∨ m = 5 ∨ m = 6 ∨ m = 7 ∨ m = 8 ∨ m = 9 ∨ m = 10 ∨ m = 11 ∨ m = 12 ∨ m = 13 ∨ m = 14 ∨ m = 15 ∨ m = 16 ∨ m = 17 ∨ m = 18 ∨ m = 19 ∨ m = 20 := by omega
  rcases this with rfl | rfl | rfl | rfl | rfl | rfl | rfl | rfl | rfl | rfl | rfl | rfl | rfl | rfl | rfl | rfl | rfl | rfl | rfl | rfl <;> omega
theorem q_pos {x y : Int} (h : ¬ (x = 0 ∧ y = 0)) : 0 < x * x + y * y := by
  have h1 := sq_nn x
  have h2 := sq_nn y
  rcases Int.lt_or_eq_of_le (Int.add_nonneg h1 h2) with h3 | h3
  · exact h3
  · exfalso
    have h4 : x * x = 0 := by omega
    have h5 : y * y = 0 := by omega
    exact h ⟨by rcases Int.mul_eq_zero.1 h4 with h | h <;> exact h, by rcases Int.mul_eq_zero.1 h5 with h | h <;> exact h⟩
section
variable {ax ay x y m : Int}
theorem rt_area : areaZ ax ay (ax + 2 * x) (ay + 2 * y) (ax - 2 * m * y) (ay + 2 * m * x) = 4 * m * (x * x + y * y) := by unfold areaZ; grind
theorem rt_tur : turZ ax ay (ax + 2 * x) (ay + 2 * y) (ax - 2 * m * y) (ay + 2 * m * x) = 4 * m * (x * x + y * y) := by unfold turZ tuZ; grind
theorem rt_cx : cxZ ax ay (ax + 2 * x) (ay + 2 * y) (ax - 2 * m * y) (ay + 2 * m * x) = 2 * (4 * m * (x * x + y * y)) * (x - m * y) := by unfold cxZ sqZ; grind
theorem rt_cy : cyZ ax ay (ax + 2 * x) (ay + 2 * y) (ax - 2 * m * y) (ay + 2 * m * x) = 2 * (4 * m * (x * x + y * y)) * (y + m * x) := by unfold cyZ sqZ; grind
theorem near_ex {add t z : Int} (ht : 0 < t) : nearZ add (2 * t * z) (2 * t) = z + add := by
  unfold nearZ
  rw [show 2 * (2 * t * z) + 2 * t = 2 * t + (2 * (2 * t)) * z by grind, Int.add_mul_ediv_left _ _ (by omega), Int.ediv_eq_zero_of_lt (by omega) (by omega), Int.zero_add]
section
variable (m1 : 1 ≤ m) (m2 : m ≤ 20) (x1 : -1000000 ≤ x) (x2 : x ≤ 1000000) (y1 : -1000000 ≤ y) (y2 : y ≤ 1000000) (a1 : -2147483648 ≤ ax) (a2 : ax ≤ 2147483648) (a3 : -2147483648 ≤ ay) (a4 : ay ≤ 2147483648) (hz : ¬ (x = 0 ∧ y = 0))
include m1 hz in
theorem t_pos : 0 < 4 * m * (x * x + y * y) := Int.mul_pos (by omega) (q_pos hz)
include x1 x2 y1 y2 a1 a2 a3 a4 in
theorem fit_b : fit (ax + 2 * x) (ay + 2 * y) := by unfold fit; omega
include x1 x2 y1 y2 a1 a2 a3 a4 in
theorem fit_f : fit (ax - x) (ay - y) := by unfold fit; omega
include m1 m2 x1 x2 y1 y2 a1 a2 a3 a4
theorem fit_c : fit (ax - 2 * m * y) (ay + 2 * m * x) := by
  have h1 := mb m1 m2 y1 y2
  have h2 := mb m1 m2 x1 x2
  rw [Int.mul_assoc, Int.mul_assoc]
  unfold fit; omega
theorem fit_m : fit (ax + x - m * y) (ay + y + m * x) := by
  have h1 := mb m1 m2 y1 y2
  have h2 := mb m1 m2 x1 x2
  unfold fit; omega
include hz
theorem fn_rtC (fa : fit ax ay) : FnC Try.prog 53 [.is (ptv ax ay), .is (ptv (ax + 2 * x) (ay + 2 * y)), .is (ptv (ax - 2 * m * y) (ay + 2 * m * x))] (.tup [.is (ptv (ax + x - m * y) (ay + y + m * x)), iv 0]) := by
  have ht := t_pos (x := x) (y := y) m1 hz
  have fb := fit_b x1 x2 y1 y2 a1 a2 a3 a4
  have fc := fit_c m1 m2 x1 x2 y1 y2 a1 a2 a3 a4
  have fm := fit_m m1 m2 x1 x2 y1 y2 a1 a2 a3 a4
  have h := fn_CentreY (ax := ax) (ay := ay) (ux := ax + 2 * x) (uy := ay + 2 * y) (vx := ax - 2 * m * y) (vy := ay + 2 * m * x) (bx := ax + 2 * x) (b_y := ay + 2 * y) (cx := ax - 2 * m * y) (cy := ay + 2 * m * x)
    (by simp [fitP, fa, fb, fc]) (by rw [rt_area]; omega) fa fb fc fb fc (by rw [rt_tur]; omega) (.inl ⟨by rw [rt_area]; omega, rfl, rfl, rfl, rfl⟩)
  have ex : oxZ ax ay (ax + 2 * x) (ay + 2 * y) (ax - 2 * m * y) (ay + 2 * m * x) = ax + x - m * y := by
    unfold oxZ
    rw [rt_cx, rt_tur, near_ex ht]
    omega
  have ey : oyZ ax ay (ax + 2 * x) (ay + 2 * y) (ax - 2 * m * y) (ay + 2 * m * x) = ay + y + m * x := by
    unfold oyZ
    rw [rt_cy, rt_tur, near_ex ht]
    omega
  rw [ex, ey, if_pos fm, if_pos fm, if_pos fm] at h
  exact h
omit hz
theorem fn_rtM : FnC Try.prog 63 [.is (ptv (ax + 2 * x) (ay + 2 * y)), .is (ptv (ax - 2 * m * y) (ay + 2 * m * x))] (.tup [.is (ptv (ax + x - m * y) (ay + y + m * x)), bv true]) := by
  have e1 : ax + 2 * x + (ax - 2 * m * y) = 2 * (ax + x - m * y) := by grind
  have e2 : ay + 2 * y + (ay + 2 * m * x) = 2 * (ay + y + m * x) := by grind
  have hm : midP (ax + 2 * x) (ay + 2 * y) (ax - 2 * m * y) (ay + 2 * m * x) := ⟨fit_b x1 x2 y1 y2 a1 a2 a3 a4, fit_c m1 m2 x1 x2 y1 y2 a1 a2 a3 a4, by rw [e1]; exact Int.mul_tmod_right _ _, by rw [e2]; exact Int.mul_tmod_right _ _⟩
  have h := fn_Middle (ax := ax + 2 * x) (ay := ay + 2 * y) (bx := ax - 2 * m * y) (b_y := ay + 2 * m * x)
  rw [if_pos hm, if_pos hm, decide_eq_true hm, e1, e2, Int.mul_tdiv_cancel_left _ (by decide), Int.mul_tdiv_cancel_left _ (by decide)] at h
  exact h
include hz
theorem rt_ori (fa : fit ax ay) : oriZ ax ay (ax + 2 * x) (ay + 2 * y) (ax - 2 * m * y) (ay + 2 * m * x) = 1 := by
  have fb := fit_b x1 x2 y1 y2 a1 a2 a3 a4
  have fc := fit_c m1 m2 x1 x2 y1 y2 a1 a2 a3 a4
  unfold oriZ
  rw [if_pos ⟨fa, fb, fc⟩, rt_area]
  exact sgn_pos (t_pos m1 hz)
theorem rt_in (fa : fit ax ay) : disB (ax + 2 * x) (ay + 2 * y) (ax - 2 * m * y) (ay + 2 * m * x) ax ay = true := by
  have fb := fit_b x1 x2 y1 y2 a1 a2 a3 a4
  have fc := fit_c m1 m2 x1 x2 y1 y2 a1 a2 a3 a4
  unfold disB
  rw [if_neg (by
    rintro (h' | h' | h')
    · exact h' ⟨fb, fc, fa⟩
    · simp [same] at h'; omega
    · simp only [same, Bool.and_eq_true, beq_iff_eq] at h'
      have h1 : 2 * m * y = 0 := by omega
      have h2 : 2 * m * x = 0 := by omega
      apply hz
      constructor
      · rcases Int.mul_eq_zero.1 h2 with h | h
        · omega
        · exact h
      · rcases Int.mul_eq_zero.1 h1 with h | h
        · omega
        · exact h)]
  refine decide_eq_true (sgn_le.2 ?_)
  rw [show discZ (ax + 2 * x) (ay + 2 * y) (ax - 2 * m * y) (ay + 2 * m * x) ax ay = 0 by unfold discZ; grind]
  exact Int.le_refl _
omit m1 m2 x1 x2 y1 y2 a1 a2 a3 a4
theorem rt_out : disB (ax + 2 * x) (ay + 2 * y) (ax - 2 * m * y) (ay + 2 * m * x) (ax - x) (ay - y) = false := by
  unfold disB
  split
  · rfl
  · refine decide_eq_false ?_
    rw [sgn_le, show discZ (ax + 2 * x) (ay + 2 * y) (ax - 2 * m * y) (ay + 2 * m * x) (ax - x) (ay - y) = 3 * (x * x + y * y) by unfold discZ; grind]
    have := q_pos hz
    omega
end
theorem ways10 (ax ay x y : Int) : [(ax, ay), (x, y)].all fitP = false ∨ ¬ ([(ax, ay), (x, y)].all fitP = false) ∧ (x > 1000000 ∨ ¬ x > 1000000 ∧ (x < -1000000 ∨ ¬ x < -1000000 ∧ (y > 1000000 ∨ ¬ y > 1000000 ∧ (y < -1000000 ∨ ¬ y < -1000000 ∧ ((x = 0 ∧ y = 0) ∨ ¬ (x = 0 ∧ y = 0) ∧ (ax > 2147483648 ∨ ¬ ax > 2147483648 ∧ (ax < -2147483648 ∨ ¬ ax < -2147483648 ∧ (ay > 2147483648 ∨ ¬ ay > 2147483648 ∧ (ay < -2147483648 ∨ ¬ ay < -2147483648))))))))) :=
  orn (orn (orn (orn (orn (orn (orn (orn (orn (Classical.em _)))))))))
theorem k20 {k : Int} (h0 : 0 ≤ k) : 1 ≤ 1 + k.tmod 20 ∧ 1 + k.tmod 20 ≤ 20 := by
  rw [Int.tmod_eq_emod_of_nonneg h0]
  omega
end
set_option maxRecDepth 100000 in
set_option maxHeartbeats 8000000 in
theorem law_PredRight {ax ay x y k : Int} (h0k : 0 ≤ k) : FnC Try.prog 19 [.is (ptv ax ay), .is (ptv x y), .is (.int .u8 k)] (bv true) := by
 refine FnC.of (N := 156) Try.func19 rfl rfl (Nat.le_of_ble_eq_true rfl) (fun w0 ok0 => ?_)
 refine Tr.rs [] (.k (bxx .k (.b 0 rfl)) (.k (bxx .k (.b 1 rfl)) (.k (asg .k .c) .n))) [2] [0, 1] rfl rfl ?_
 rcases ways10 ax ay x y with h0 | ⟨n0, h1 | ⟨n1, h2 | ⟨n2, h3 | ⟨n3, h4 | ⟨n4, h5 | ⟨n5, h6 | ⟨n6, h7 | ⟨n7, h8 | ⟨n8, h9 | n9⟩⟩⟩⟩⟩⟩⟩⟩⟩
 ·
  refine Tr.seq (Tr.rs [] (.k (ld .k (.b 1 rfl) tyP) (.k (ld .k (.b 2 rfl) tyP) (.k (mkrow .k rwP (.k (.g 0 rfl) (.k (.g 1 rfl) .n)) rfl rfl (by kernel_rfl)) (.k (cal .k Try.func58 rfl (h0 ▸ fn_Fits [(_, _), (_, _)] (by simp)) (.k (.g 2 rfl) .n)) (.k (not_ .k (.g 3 rfl)) (.k (mv .k (.g 4 rfl)) (.k (skp (.on (.g 5 rfl) rfl rfl)) (.k (skp (.on (.g 5 rfl) rfl rfl)) (.k (skp (.on (.g 5 rfl) rfl rfl)) (.k (pickT .k (.g 5 rfl) .c) (.k (mv .k (.g 9 rfl)) (.k (skp (.on (.g 10 rfl) rfl rfl)) (.k (skp (.on (.g 10 rfl) rfl rfl)) (.k (skp (.on (.g 10 rfl) rfl rfl)) (.k (pickT .k (.g 10 rfl) .c) (.k (mv .k (.g 14 rfl)) (.k (skp (.on (.g 15 rfl) rfl rfl)) (.k (skp (.on (.g 15 rfl) rfl rfl)) (.k (skp (.on (.g 15 rfl) rfl rfl)) (.k (pickT .k (.g 15 rfl) .c) (.k (mv .k (.g 19 rfl)) (.k (skp (.on (.g 20 rfl) rfl rfl)) (.k (skp (.on (.g 20 rfl) rfl rfl)) (.k (skp (.on (.g 20 rfl) rfl rfl)) (.k (pickT .k (.g 20 rfl) .c) (.k (mv .k (.g 24 rfl)) (.k (skp (.on (.g 25 rfl) rfl rfl)) (.k (skp (.on (.g 25 rfl) rfl rfl)) (.k (skp (.on (.g 25 rfl) rfl rfl)) (.k (pickT .k (.g 25 rfl) .c) (.k (mv .k (.g 29 rfl)) (.k (skp (.on (.g 30 rfl) rfl rfl)) (.k (skp (.on (.g 30 rfl) rfl rfl)) (.k (skp (.on (.g 30 rfl) rfl rfl)) (.k (pickT .k (.g 30 rfl) .c) (.k (mv .k (.g 34 rfl)) (.k (skp (.on (.g 35 rfl) rfl rfl)) (.k (skp (.on (.g 35 rfl) rfl rfl)) (.k (skp (.on (.g 35 rfl) rfl rfl)) (.k (pickT .k (.g 35 rfl) .c) (.k (mv .k (.g 39 rfl)) (.k (skp (.on (.g 40 rfl) rfl rfl)) (.k (skp (.on (.g 40 rfl) rfl rfl)) (.k (skp (.on (.g 40 rfl) rfl rfl)) (.k (pickT .k (.g 40 rfl) .c) (.k (mv .k (.g 44 rfl)) (.k (skp (.on (.g 45 rfl) rfl rfl)) (.k (skp (.on (.g 45 rfl) rfl rfl)) (.k (skp (.on (.g 45 rfl) rfl rfl)) (.k (pickT .k (.g 45 rfl) .c) .n)))))))))))))))))))))))))))))))))))))))))))))))))) [0, 1, 2] [49] rfl rfl ?_)
  refine Tr.cond 3 rfl (fun _ => ?_) nofun
  refine Tr.rs [] (.k (cal .k Try.func46 rfl fn_known .n) (.k (asg .k (.g 0 rfl)) .n)) [] [1] rfl rfl ?_
  refine Tr.ret (end_tmp 0 rfl rfl)
 ·
  have hF : [(ax, ay), (x, y)].all fitP = true := by simpa using n0
  refine Tr.seq (Tr.rs [] (.k (ld .k (.b 1 rfl) tyP) (.k (ld .k (.b 2 rfl) tyP) (.k (mkrow .k rwP (.k (.g 0 rfl) (.k (.g 1 rfl) .n)) rfl rfl (by kernel_rfl)) (.k (cal .k Try.func58 rfl (hF ▸ fn_Fits [(_, _), (_, _)] (by simp)) (.k (.g 2 rfl) .n)) (.k (not_ .k (.g 3 rfl)) (.k (mv .k (.g 4 rfl)) (.k (faddr (.on (.g 5 rfl) rfl rfl) (.b 2 rfl) rfl fPX) (.k (ldc (.on (.g 5 rfl) rfl rfl) (.g 6 rfl) (.b 2 rfl) tyI) (.k (gt_ (.on (.g 5 rfl) rfl rfl) (.g 7 rfl) .c (decide_eq_true h1)) (.k (pickF .k (.g 5 rfl) (.g 8 rfl)) (.k (mv .k (.g 9 rfl)) (.k (skp (.on (.g 10 rfl) rfl rfl)) (.k (skp (.on (.g 10 rfl) rfl rfl)) (.k (skp (.on (.g 10 rfl) rfl rfl)) (.k (pickT .k (.g 10 rfl) .c) (.k (mv .k (.g 14 rfl)) (.k (skp (.on (.g 15 rfl) rfl rfl)) (.k (skp (.on (.g 15 rfl) rfl rfl)) (.k (skp (.on (.g 15 rfl) rfl rfl)) (.k (pickT .k (.g 15 rfl) .c) (.k (mv .k (.g 19 rfl)) (.k (skp (.on (.g 20 rfl) rfl rfl)) (.k (skp (.on (.g 20 rfl) rfl rfl)) (.k (skp (.on (.g 20 rfl) rfl rfl)) (.k (pickT .k (.g 20 rfl) .c) (.k (mv .k (.g 24 rfl)) (.k (skp (.on (.g 25 rfl) rfl rfl)) (.k (skp (.on (.g 25 rfl) rfl rfl)) (.k (skp (.on (.g 25 rfl) rfl rfl)) (.k (pickT .k (.g 25 rfl) .c) (.k (mv .k (.g 29 rfl)) (.k (skp (.on (.g 30 rfl) rfl rfl)) (.k (skp (.on (.g 30 rfl) rfl rfl)) (.k (skp (.on (.g 30 rfl) rfl rfl)) (.k (pickT .k (.g 30 rfl) .c) (.k (mv .k (.g 34 rfl)) (.k (skp (.on (.g 35 rfl) rfl rfl)) (.k (skp (.on (.g 35 rfl) rfl rfl)) (.k (skp (.on (.g 35 rfl) rfl rfl)) (.k (pickT .k (.g 35 rfl) .c) (.k (mv .k (.g 39 rfl)) (.k (skp (.on (.g 40 rfl) rfl rfl)) (.k (skp (.on (.g 40 rfl) rfl rfl)) (.k (skp (.on (.g 40 rfl) rfl rfl)) (.k (pickT .k (.g 40 rfl) .c) (.k (mv .k (.g 44 rfl)) (.k (skp (.on (.g 45 rfl) rfl rfl)) (.k (skp (.on (.g 45 rfl) rfl rfl)) (.k (skp (.on (.g 45 rfl) rfl rfl)) (.k (pickT .k (.g 45 rfl) .c) .n)))))))))))))))))))))))))))))))))))))))))))))))))) [0, 1, 2] [49] rfl rfl ?_)
  refine Tr.cond 3 rfl (fun _ => ?_) nofun
  refine Tr.rs [] (.k (cal .k Try.func46 rfl fn_known .n) (.k (asg .k (.g 0 rfl)) .n)) [] [1] rfl rfl ?_
  refine Tr.ret (end_tmp 0 rfl rfl)
 ·
  have hF : [(ax, ay), (x, y)].all fitP = true := by simpa using n0
  refine Tr.seq (Tr.rs [] (.k (ld .k (.b 1 rfl) tyP) (.k (ld .k (.b 2 rfl) tyP) (.k (mkrow .k rwP (.k (.g 0 rfl) (.k (.g 1 rfl) .n)) rfl rfl (by kernel_rfl)) (.k (cal .k Try.func58 rfl (hF ▸ fn_Fits [(_, _), (_, _)] (by simp)) (.k (.g 2 rfl) .n)) (.k (not_ .k (.g 3 rfl)) (.k (mv .k (.g 4 rfl)) (.k (faddr (.on (.g 5 rfl) rfl rfl) (.b 2 rfl) rfl fPX) (.k (ldc (.on (.g 5 rfl) rfl rfl) (.g 6 rfl) (.b 2 rfl) tyI) (.k (gt_ (.on (.g 5 rfl) rfl rfl) (.g 7 rfl) .c (decide_eq_false n1)) (.k (pickF .k (.g 5 rfl) (.g 8 rfl)) (.k (mv .k (.g 9 rfl)) (.k (faddr (.on (.g 10 rfl) rfl rfl) (.b 2 rfl) rfl fPX) (.k (ldc (.on (.g 10 rfl) rfl rfl) (.g 11 rfl) (.b 2 rfl) tyI) (.k (lt_ (.on (.g 10 rfl) rfl rfl) (.g 12 rfl) .c (decide_eq_true h2)) (.k (pickF .k (.g 10 rfl) (.g 13 rfl)) (.k (mv .k (.g 14 rfl)) (.k (skp (.on (.g 15 rfl) rfl rfl)) (.k (skp (.on (.g 15 rfl) rfl rfl)) (.k (skp (.on (.g 15 rfl) rfl rfl)) (.k (pickT .k (.g 15 rfl) .c) (.k (mv .k (.g 19 rfl)) (.k (skp (.on (.g 20 rfl) rfl rfl)) (.k (skp (.on (.g 20 rfl) rfl rfl)) (.k (skp (.on (.g 20 rfl) rfl rfl)) (.k (pickT .k (.g 20 rfl) .c) (.k (mv .k (.g 24 rfl)) (.k (skp (.on (.g 25 rfl) rfl rfl)) (.k (skp (.on (.g 25 rfl) rfl rfl)) (.k (skp (.on (.g 25 rfl) rfl rfl)) (.k (pickT .k (.g 25 rfl) .c) (.k (mv .k (.g 29 rfl)) (.k (skp (.on (.g 30 rfl) rfl rfl)) (.k (skp (.on (.g 30 rfl) rfl rfl)) (.k (skp (.on (.g 30 rfl) rfl rfl)) (.k (pickT .k (.g 30 rfl) .c) (.k (mv .k (.g 34 rfl)) (.k (skp (.on (.g 35 rfl) rfl rfl)) (.k (skp (.on (.g 35 rfl) rfl rfl)) (.k (skp (.on (.g 35 rfl) rfl rfl)) (.k (pickT .k (.g 35 rfl) .c) (.k (mv .k (.g 39 rfl)) (.k (skp (.on (.g 40 rfl) rfl rfl)) (.k (skp (.on (.g 40 rfl) rfl rfl)) (.k (skp (.on (.g 40 rfl) rfl rfl)) (.k (pickT .k (.g 40 rfl) .c) (.k (mv .k (.g 44 rfl)) (.k (skp (.on (.g 45 rfl) rfl rfl)) (.k (skp (.on (.g 45 rfl) rfl rfl)) (.k (skp (.on (.g 45 rfl) rfl rfl)) (.k (pickT .k (.g 45 rfl) .c) .n)))))))))))))))))))))))))))))))))))))))))))))))))) [0, 1, 2] [49] rfl rfl ?_)
  refine Tr.cond 3 rfl (fun _ => ?_) nofun
  refine Tr.rs [] (.k (cal .k Try.func46 rfl fn_known .n) (.k (asg .k (.g 0 rfl)) .n)) [] [1] rfl rfl ?_
  refine Tr.ret (end_tmp 0 rfl rfl)
 ·
  have hF : [(ax, ay), (x, y)].all fitP = true := by simpa using n0
  refine Tr.seq (Tr.rs [] (.k (ld .k (.b 1 rfl) tyP) (.k (ld .k (.b 2 rfl) tyP) (.k (mkrow .k rwP (.k (.g 0 rfl) (.k (.g 1 rfl) .n)) rfl rfl (by kernel_rfl)) (.k (cal .k Try.func58 rfl (hF ▸ fn_Fits [(_, _), (_, _)] (by simp)) (.k (.g 2 rfl) .n)) (.k (not_ .k (.g 3 rfl)) (.k (mv .k (.g 4 rfl)) (.k (faddr (.on (.g 5 rfl) rfl rfl) (.b 2 rfl) rfl fPX) (.k (ldc (.on (.g 5 rfl) rfl rfl) (.g 6 rfl) (.b 2 rfl) tyI) (.k (gt_ (.on (.g 5 rfl) rfl rfl) (.g 7 rfl) .c (decide_eq_false n1)) (.k (pickF .k (.g 5 rfl) (.g 8 rfl)) (.k (mv .k (.g 9 rfl)) (.k (faddr (.on (.g 10 rfl) rfl rfl) (.b 2 rfl) rfl fPX) (.k (ldc (.on (.g 10 rfl) rfl rfl) (.g 11 rfl) (.b 2 rfl) tyI) (.k (lt_ (.on (.g 10 rfl) rfl rfl) (.g 12 rfl) .c (decide_eq_false n2)) (.k (pickF .k (.g 10 rfl) (.g 13 rfl)) (.k (mv .k (.g 14 rfl)) (.k (faddr (.on (.g 15 rfl) rfl rfl) (.b 2 rfl) rfl fPY) (.k (ldc (.on (.g 15 rfl) rfl rfl) (.g 16 rfl) (.b 2 rfl) tyI) (.k (gt_ (.on (.g 15 rfl) rfl rfl) (.g 17 rfl) .c (decide_eq_true h3)) (.k (pickF .k (.g 15 rfl) (.g 18 rfl)) (.k (mv .k (.g 19 rfl)) (.k (skp (.on (.g 20 rfl) rfl rfl)) (.k (skp (.on (.g 20 rfl) rfl rfl)) (.k (skp (.on (.g 20 rfl) rfl rfl)) (.k (pickT .k (.g 20 rfl) .c) (.k (mv .k (.g 24 rfl)) (.k (skp (.on (.g 25 rfl) rfl rfl)) (.k (skp (.on (.g 25 rfl) rfl rfl)) (.k (skp (.on (.g 25 rfl) rfl rfl)) (.k (pickT .k (.g 25 rfl) .c) (.k (mv .k (.g 29 rfl)) (.k (skp (.on (.g 30 rfl) rfl rfl)) (.k (skp (.on (.g 30 rfl) rfl rfl)) (.k (skp (.on (.g 30 rfl) rfl rfl)) (.k (pickT .k (.g 30 rfl) .c) (.k (mv .k (.g 34 rfl)) (.k (skp (.on (.g 35 rfl) rfl rfl)) (.k (skp (.on (.g 35 rfl) rfl rfl)) (.k (skp (.on (.g 35 rfl) rfl rfl)) (.k (pickT .k (.g 35 rfl) .c) (.k (mv .k (.g 39 rfl)) (.k (skp (.on (.g 40 rfl) rfl rfl)) (.k (skp (.on (.g 40 rfl) rfl rfl)) (.k (skp (.on (.g 40 rfl) rfl rfl)) (.k (pickT .k (.g 40 rfl) .c) (.k (mv .k (.g 44 rfl)) (.k (skp (.on (.g 45 rfl) rfl rfl)) (.k (skp (.on (.g 45 rfl) rfl rfl)) (.k (skp (.on (.g 45 rfl) rfl rfl)) (.k (pickT .k (.g 45 rfl) .c) .n)))))))))))))))))))))))))))))))))))))))))))))))))) [0, 1, 2] [49] rfl rfl ?_)
  refine Tr.cond 3 rfl (fun _ => ?_) nofun
  refine Tr.rs [] (.k (cal .k Try.func46 rfl fn_known .n) (.k (asg .k (.g 0 rfl)) .n)) [] [1] rfl rfl ?_
  refine Tr.ret (end_tmp 0 rfl rfl)
 ·
  have hF : [(ax, ay), (x, y)].all fitP = true := by simpa using n0
  refine Tr.seq (Tr.rs [] (.k (ld .k (.b 1 rfl) tyP) (.k (ld .k (.b 2 rfl) tyP) (.k (mkrow .k rwP (.k (.g 0 rfl) (.k (.g 1 rfl) .n)) rfl rfl (by kernel_rfl)) (.k (cal .k Try.func58 rfl (hF ▸ fn_Fits [(_, _), (_, _)] (by simp)) (.k (.g 2 rfl) .n)) (.k (not_ .k (.g 3 rfl)) (.k (mv .k (.g 4 rfl)) (.k (faddr (.on (.g 5 rfl) rfl rfl) (.b 2 rfl) rfl fPX) (.k (ldc (.on (.g 5 rfl) rfl rfl) (.g 6 rfl) (.b 2 rfl) tyI) (.k (gt_ (.on (.g 5 rfl) rfl rfl) (.g 7 rfl) .c (decide_eq_false n1)) (.k (pickF .k (.g 5 rfl) (.g 8 rfl)) (.k (mv .k (.g 9 rfl)) (.k (faddr (.on (.g 10 rfl) rfl rfl) (.b 2 rfl) rfl fPX) (.k (ldc (.on (.g 10 rfl) rfl rfl) (.g 11 rfl) (.b 2 rfl) tyI) (.k (lt_ (.on (.g 10 rfl) rfl rfl) (.g 12 rfl) .c (decide_eq_false n2)) (.k (pickF .k (.g 10 rfl) (.g 13 rfl)) (.k (mv .k (.g 14 rfl)) (.k (faddr (.on (.g 15 rfl) rfl rfl) (.b 2 rfl) rfl fPY) (.k (ldc (.on (.g 15 rfl) rfl rfl) (.g 16 rfl) (.b 2 rfl) tyI) (.k (gt_ (.on (.g 15 rfl) rfl rfl) (.g 17 rfl) .c (decide_eq_false n3)) (.k (pickF .k (.g 15 rfl) (.g 18 rfl)) (.k (mv .k (.g 19 rfl)) (.k (faddr (.on (.g 20 rfl) rfl rfl) (.b 2 rfl) rfl fPY) (.k (ldc (.on (.g 20 rfl) rfl rfl) (.g 21 rfl) (.b 2 rfl) tyI) (.k (lt_ (.on (.g 20 rfl) rfl rfl) (.g 22 rfl) .c (decide_eq_true h4)) (.k (pickF .k (.g 20 rfl) (.g 23 rfl)) (.k (mv .k (.g 24 rfl)) (.k (skp (.on (.g 25 rfl) rfl rfl)) (.k (skp (.on (.g 25 rfl) rfl rfl)) (.k (skp (.on (.g 25 rfl) rfl rfl)) (.k (pickT .k (.g 25 rfl) .c) (.k (mv .k (.g 29 rfl)) (.k (skp (.on (.g 30 rfl) rfl rfl)) (.k (skp (.on (.g 30 rfl) rfl rfl)) (.k (skp (.on (.g 30 rfl) rfl rfl)) (.k (pickT .k (.g 30 rfl) .c) (.k (mv .k (.g 34 rfl)) (.k (skp (.on (.g 35 rfl) rfl rfl)) (.k (skp (.on (.g 35 rfl) rfl rfl)) (.k (skp (.on (.g 35 rfl) rfl rfl)) (.k (pickT .k (.g 35 rfl) .c) (.k (mv .k (.g 39 rfl)) (.k (skp (.on (.g 40 rfl) rfl rfl)) (.k (skp (.on (.g 40 rfl) rfl rfl)) (.k (skp (.on (.g 40 rfl) rfl rfl)) (.k (pickT .k (.g 40 rfl) .c) (.k (mv .k (.g 44 rfl)) (.k (skp (.on (.g 45 rfl) rfl rfl)) (.k (skp (.on (.g 45 rfl) rfl rfl)) (.k (skp (.on (.g 45 rfl) rfl rfl)) (.k (pickT .k (.g 45 rfl) .c) .n)))))))))))))))))))))))))))))))))))))))))))))))))) [0, 1, 2] [49] rfl rfl ?_)
  refine Tr.cond 3 rfl (fun _ => ?_) nofun
  refine Tr.rs [] (.k (cal .k Try.func46 rfl fn_known .n) (.k (asg .k (.g 0 rfl)) .n)) [] [1] rfl rfl ?_
  refine Tr.ret (end_tmp 0 rfl rfl)
 ·
  have hF : [(ax, ay), (x, y)].all fitP = true := by simpa using n0
  refine Tr.seq (Tr.rs [] (.k (ld .k (.b 1 rfl) tyP) (.k (ld .k (.b 2 rfl) tyP) (.k (mkrow .k rwP (.k (.g 0 rfl) (.k (.g 1 rfl) .n)) rfl rfl (by kernel_rfl)) (.k (cal .k Try.func58 rfl (hF ▸ fn_Fits [(_, _), (_, _)] (by simp)) (.k (.g 2 rfl) .n)) (.k (not_ .k (.g 3 rfl)) (.k (mv .k (.g 4 rfl)) (.k (faddr (.on (.g 5 rfl) rfl rfl) (.b 2 rfl) rfl fPX) (.k (ldc (.on (.g 5 rfl) rfl rfl) (.g 6 rfl) (.b 2 rfl) tyI) (.k (gt_ (.on (.g 5 rfl) rfl rfl) (.g 7 rfl) .c (decide_eq_false n1)) (.k (pickF .k (.g 5 rfl) (.g 8 rfl)) (.k (mv .k (.g 9 rfl)) (.k (faddr (.on (.g 10 rfl) rfl rfl) (.b 2 rfl) rfl fPX) (.k (ldc (.on (.g 10 rfl) rfl rfl) (.g 11 rfl) (.b 2 rfl) tyI) (.k (lt_ (.on (.g 10 rfl) rfl rfl) (.g 12 rfl) .c (decide_eq_false n2)) (.k (pickF .k (.g 10 rfl) (.g 13 rfl)) (.k (mv .k (.g 14 rfl)) (.k (faddr (.on (.g 15 rfl) rfl rfl) (.b 2 rfl) rfl fPY) (.k (ldc (.on (.g 15 rfl) rfl rfl) (.g 16 rfl) (.b 2 rfl) tyI) (.k (gt_ (.on (.g 15 rfl) rfl rfl) (.g 17 rfl) .c (decide_eq_false n3)) (.k (pickF .k (.g 15 rfl) (.g 18 rfl)) (.k (mv .k (.g 19 rfl)) (.k (faddr (.on (.g 20 rfl) rfl rfl) (.b 2 rfl) rfl fPY) (.k (ldc (.on (.g 20 rfl) rfl rfl) (.g 21 rfl) (.b 2 rfl) tyI) (.k (lt_ (.on (.g 20 rfl) rfl rfl) (.g 22 rfl) .c (decide_eq_false n4)) (.k (pickF .k (.g 20 rfl) (.g 23 rfl)) (.k (mv .k (.g 24 rfl)) (.k (ld (.on (.g 25 rfl) rfl rfl) (.b 2 rfl) tyP) (.k (bld (.on (.g 25 rfl) rfl rfl) .n bP0 (aP 0 0)) (.k (eqS_ (.on (.g 25 rfl) rfl rfl) ptG (.g 26 rfl) (.g 27 rfl) (eqP _ _ _ _) (show (x == 0 && y == 0) = true by simp [h5])) (.k (pickF .k (.g 25 rfl) (.g 28 rfl)) (.k (mv .k (.g 29 rfl)) (.k (skp (.on (.g 30 rfl) rfl rfl)) (.k (skp (.on (.g 30 rfl) rfl rfl)) (.k (skp (.on (.g 30 rfl) rfl rfl)) (.k (pickT .k (.g 30 rfl) .c) (.k (mv .k (.g 34 rfl)) (.k (skp (.on (.g 35 rfl) rfl rfl)) (.k (skp (.on (.g 35 rfl) rfl rfl)) (.k (skp (.on (.g 35 rfl) rfl rfl)) (.k (pickT .k (.g 35 rfl) .c) (.k (mv .k (.g 39 rfl)) (.k (skp (.on (.g 40 rfl) rfl rfl)) (.k (skp (.on (.g 40 rfl) rfl rfl)) (.k (skp (.on (.g 40 rfl) rfl rfl)) (.k (pickT .k (.g 40 rfl) .c) (.k (mv .k (.g 44 rfl)) (.k (skp (.on (.g 45 rfl) rfl rfl)) (.k (skp (.on (.g 45 rfl) rfl rfl)) (.k (skp (.on (.g 45 rfl) rfl rfl)) (.k (pickT .k (.g 45 rfl) .c) .n)))))))))))))))))))))))))))))))))))))))))))))))))) [0, 1, 2] [49] rfl rfl ?_)
  refine Tr.cond 3 rfl (fun _ => ?_) nofun
  refine Tr.rs [] (.k (cal .k Try.func46 rfl fn_known .n) (.k (asg .k (.g 0 rfl)) .n)) [] [1] rfl rfl ?_
  refine Tr.ret (end_tmp 0 rfl rfl)
 ·
  have hF : [(ax, ay), (x, y)].all fitP = true := by simpa using n0
  refine Tr.seq (Tr.rs [] (.k (ld .k (.b 1 rfl) tyP) (.k (ld .k (.b 2 rfl) tyP) (.k (mkrow .k rwP (.k (.g 0 rfl) (.k (.g 1 rfl) .n)) rfl rfl (by kernel_rfl)) (.k (cal .k Try.func58 rfl (hF ▸ fn_Fits [(_, _), (_, _)] (by simp)) (.k (.g 2 rfl) .n)) (.k (not_ .k (.g 3 rfl)) (.k (mv .k (.g 4 rfl)) (.k (faddr (.on (.g 5 rfl) rfl rfl) (.b 2 rfl) rfl fPX) (.k (ldc (.on (.g 5 rfl) rfl rfl) (.g 6 rfl) (.b 2 rfl) tyI) (.k (gt_ (.on (.g 5 rfl) rfl rfl) (.g 7 rfl) .c (decide_eq_false n1)) (.k (pickF .k (.g 5 rfl) (.g 8 rfl)) (.k (mv .k (.g 9 rfl)) (.k (faddr (.on (.g 10 rfl) rfl rfl) (.b 2 rfl) rfl fPX) (.k (ldc (.on (.g 10 rfl) rfl rfl) (.g 11 rfl) (.b 2 rfl) tyI) (.k (lt_ (.on (.g 10 rfl) rfl rfl) (.g 12 rfl) .c (decide_eq_false n2)) (.k (pickF .k (.g 10 rfl) (.g 13 rfl)) (.k (mv .k (.g 14 rfl)) (.k (faddr (.on (.g 15 rfl) rfl rfl) (.b 2 rfl) rfl fPY) (.k (ldc (.on (.g 15 rfl) rfl rfl) (.g 16 rfl) (.b 2 rfl) tyI) (.k (gt_ (.on (.g 15 rfl) rfl rfl) (.g 17 rfl) .c (decide_eq_false n3)) (.k (pickF .k (.g 15 rfl) (.g 18 rfl)) (.k (mv .k (.g 19 rfl)) (.k (faddr (.on (.g 20 rfl) rfl rfl) (.b 2 rfl) rfl fPY) (.k (ldc (.on (.g 20 rfl) rfl rfl) (.g 21 rfl) (.b 2 rfl) tyI) (.k (lt_ (.on (.g 20 rfl) rfl rfl) (.g 22 rfl) .c (decide_eq_false n4)) (.k (pickF .k (.g 20 rfl) (.g 23 rfl)) (.k (mv .k (.g 24 rfl)) (.k (ld (.on (.g 25 rfl) rfl rfl) (.b 2 rfl) tyP) (.k (bld (.on (.g 25 rfl) rfl rfl) .n bP0 (aP 0 0)) (.k (eqS_ (.on (.g 25 rfl) rfl rfl) ptG (.g 26 rfl) (.g 27 rfl) (eqP _ _ _ _) (show (x == 0 && y == 0) = false by simp; omega)) (.k (pickF .k (.g 25 rfl) (.g 28 rfl)) (.k (mv .k (.g 29 rfl)) (.k (faddr (.on (.g 30 rfl) rfl rfl) (.b 1 rfl) rfl fPX) (.k (ldc (.on (.g 30 rfl) rfl rfl) (.g 31 rfl) (.b 1 rfl) tyI) (.k (gt_ (.on (.g 30 rfl) rfl rfl) (.g 32 rfl) .c (decide_eq_true h6)) (.k (pickF .k (.g 30 rfl) (.g 33 rfl)) (.k (mv .k (.g 34 rfl)) (.k (skp (.on (.g 35 rfl) rfl rfl)) (.k (skp (.on (.g 35 rfl) rfl rfl)) (.k (skp (.on (.g 35 rfl) rfl rfl)) (.k (pickT .k (.g 35 rfl) .c) (.k (mv .k (.g 39 rfl)) (.k (skp (.on (.g 40 rfl) rfl rfl)) (.k (skp (.on (.g 40 rfl) rfl rfl)) (.k (skp (.on (.g 40 rfl) rfl rfl)) (.k (pickT .k (.g 40 rfl) .c) (.k (mv .k (.g 44 rfl)) (.k (skp (.on (.g 45 rfl) rfl rfl)) (.k (skp (.on (.g 45 rfl) rfl rfl)) (.k (skp (.on (.g 45 rfl) rfl rfl)) (.k (pickT .k (.g 45 rfl) .c) .n)))))))))))))))))))))))))))))))))))))))))))))))))) [0, 1, 2] [49] rfl rfl ?_)
  refine Tr.cond 3 rfl (fun _ => ?_) nofun
  refine Tr.rs [] (.k (cal .k Try.func46 rfl fn_known .n) (.k (asg .k (.g 0 rfl)) .n)) [] [1] rfl rfl ?_
  refine Tr.ret (end_tmp 0 rfl rfl)
 ·
  have hF : [(ax, ay), (x, y)].all fitP = true := by simpa using n0
  refine Tr.seq (Tr.rs [] (.k (ld .k (.b 1 rfl) tyP) (.k (ld .k (.b 2 rfl) tyP) (.k (mkrow .k rwP (.k (.g 0 rfl) (.k (.g 1 rfl) .n)) rfl rfl (by kernel_rfl)) (.k (cal .k Try.func58 rfl (hF ▸ fn_Fits [(_, _), (_, _)] (by simp)) (.k (.g 2 rfl) .n)) (.k (not_ .k (.g 3 rfl)) (.k (mv .k (.g 4 rfl)) (.k (faddr (.on (.g 5 rfl) rfl rfl) (.b 2 rfl) rfl fPX) (.k (ldc (.on (.g 5 rfl) rfl rfl) (.g 6 rfl) (.b 2 rfl) tyI) (.k (gt_ (.on (.g 5 rfl) rfl rfl) (.g 7 rfl) .c (decide_eq_false n1)) (.k (pickF .k (.g 5 rfl) (.g 8 rfl)) (.k (mv .k (.g 9 rfl)) (.k (faddr (.on (.g 10 rfl) rfl rfl) (.b 2 rfl) rfl fPX) (.k (ldc (.on (.g 10 rfl) rfl rfl) (.g 11 rfl) (.b 2 rfl) tyI) (.k (lt_ (.on (.g 10 rfl) rfl rfl) (.g 12 rfl) .c (decide_eq_false n2)) (.k (pickF .k (.g 10 rfl) (.g 13 rfl)) (.k (mv .k (.g 14 rfl)) (.k (faddr (.on (.g 15 rfl) rfl rfl) (.b 2 rfl) rfl fPY) (.k (ldc (.on (.g 15 rfl) rfl rfl) (.g 16 rfl) (.b 2 rfl) tyI) (.k (gt_ (.on (.g 15 rfl) rfl rfl) (.g 17 rfl) .c (decide_eq_false n3)) (.k (pickF .k (.g 15 rfl) (.g 18 rfl)) (.k (mv .k (.g 19 rfl)) (.k (faddr (.on (.g 20 rfl) rfl rfl) (.b 2 rfl) rfl fPY) (.k (ldc (.on (.g 20 rfl) rfl rfl) (.g 21 rfl) (.b 2 rfl) tyI) (.k (lt_ (.on (.g 20 rfl) rfl rfl) (.g 22 rfl) .c (decide_eq_false n4)) (.k (pickF .k (.g 20 rfl) (.g 23 rfl)) (.k (mv .k (.g 24 rfl)) (.k (ld (.on (.g 25 rfl) rfl rfl) (.b 2 rfl) tyP) (.k (bld (.on (.g 25 rfl) rfl rfl) .n bP0 (aP 0 0)) (.k (eqS_ (.on (.g 25 rfl) rfl rfl) ptG (.g 26 rfl) (.g 27 rfl) (eqP _ _ _ _) (show (x == 0 && y == 0) = false by simp; omega)) (.k (pickF .k (.g 25 rfl) (.g 28 rfl)) (.k (mv .k (.g 29 rfl)) (.k (faddr (.on (.g 30 rfl) rfl rfl) (.b 1 rfl) rfl fPX) (.k (ldc (.on (.g 30 rfl) rfl rfl) (.g 31 rfl) (.b 1 rfl) tyI) (.k (gt_ (.on (.g 30 rfl) rfl rfl) (.g 32 rfl) .c (decide_eq_false n6)) (.k (pickF .k (.g 30 rfl) (.g 33 rfl)) (.k (mv .k (.g 34 rfl)) (.k (faddr (.on (.g 35 rfl) rfl rfl) (.b 1 rfl) rfl fPX) (.k (ldc (.on (.g 35 rfl) rfl rfl) (.g 36 rfl) (.b 1 rfl) tyI) (.k (lt_ (.on (.g 35 rfl) rfl rfl) (.g 37 rfl) .c (decide_eq_true h7)) (.k (pickF .k (.g 35 rfl) (.g 38 rfl)) (.k (mv .k (.g 39 rfl)) (.k (skp (.on (.g 40 rfl) rfl rfl)) (.k (skp (.on (.g 40 rfl) rfl rfl)) (.k (skp (.on (.g 40 rfl) rfl rfl)) (.k (pickT .k (.g 40 rfl) .c) (.k (mv .k (.g 44 rfl)) (.k (skp (.on (.g 45 rfl) rfl rfl)) (.k (skp (.on (.g 45 rfl) rfl rfl)) (.k (skp (.on (.g 45 rfl) rfl rfl)) (.k (pickT .k (.g 45 rfl) .c) .n)))))))))))))))))))))))))))))))))))))))))))))))))) [0, 1, 2] [49] rfl rfl ?_)
  refine Tr.cond 3 rfl (fun _ => ?_) nofun
  refine Tr.rs [] (.k (cal .k Try.func46 rfl fn_known .n) (.k (asg .k (.g 0 rfl)) .n)) [] [1] rfl rfl ?_
  refine Tr.ret (end_tmp 0 rfl rfl)
 ·
  have hF : [(ax, ay), (x, y)].all fitP = true := by simpa using n0
  refine Tr.seq (Tr.rs [] (.k (ld .k (.b 1 rfl) tyP) (.k (ld .k (.b 2 rfl) tyP) (.k (mkrow .k rwP (.k (.g 0 rfl) (.k (.g 1 rfl) .n)) rfl rfl (by kernel_rfl)) (.k (cal .k Try.func58 rfl (hF ▸ fn_Fits [(_, _), (_, _)] (by simp)) (.k (.g 2 rfl) .n)) (.k (not_ .k (.g 3 rfl)) (.k (mv .k (.g 4 rfl)) (.k (faddr (.on (.g 5 rfl) rfl rfl) (.b 2 rfl) rfl fPX) (.k (ldc (.on (.g 5 rfl) rfl rfl) (.g 6 rfl) (.b 2 rfl) tyI) (.k (gt_ (.on (.g 5 rfl) rfl rfl) (.g 7 rfl) .c (decide_eq_false n1)) (.k (pickF .k (.g 5 rfl) (.g 8 rfl)) (.k (mv .k (.g 9 rfl)) (.k (faddr (.on (.g 10 rfl) rfl rfl) (.b 2 rfl) rfl fPX) (.k (ldc (.on (.g 10 rfl) rfl rfl) (.g 11 rfl) (.b 2 rfl) tyI) (.k (lt_ (.on (.g 10 rfl) rfl rfl) (.g 12 rfl) .c (decide_eq_false n2)) (.k (pickF .k (.g 10 rfl) (.g 13 rfl)) (.k (mv .k (.g 14 rfl)) (.k (faddr (.on (.g 15 rfl) rfl rfl) (.b 2 rfl) rfl fPY) (.k (ldc (.on (.g 15 rfl) rfl rfl) (.g 16 rfl) (.b 2 rfl) tyI) (.k (gt_ (.on (.g 15 rfl) rfl rfl) (.g 17 rfl) .c (decide_eq_false n3)) (.k (pickF .k (.g 15 rfl) (.g 18 rfl)) (.k (mv .k (.g 19 rfl)) (.k (faddr (.on (.g 20 rfl) rfl rfl) (.b 2 rfl) rfl fPY) (.k (ldc (.on (.g 20 rfl) rfl rfl) (.g 21 rfl) (.b 2 rfl) tyI) (.k (lt_ (.on (.g 20 rfl) rfl rfl) (.g 22 rfl) .c (decide_eq_false n4)) (.k (pickF .k (.g 20 rfl) (.g 23 rfl)) (.k (mv .k (.g 24 rfl)) (.k (ld (.on (.g 25 rfl) rfl rfl) (.b 2 rfl) tyP) (.k (bld (.on (.g 25 rfl) rfl rfl) .n bP0 (aP 0 0)) (.k (eqS_ (.on (.g 25 rfl) rfl rfl) ptG (.g 26 rfl) (.g 27 rfl) (eqP _ _ _ _) (show (x == 0 && y == 0) = false by simp; omega)) (.k (pickF .k (.g 25 rfl) (.g 28 rfl)) (.k (mv .k (.g 29 rfl)) (.k (faddr (.on (.g 30 rfl) rfl rfl) (.b 1 rfl) rfl fPX) (.k (ldc (.on (.g 30 rfl) rfl rfl) (.g 31 rfl) (.b 1 rfl) tyI) (.k (gt_ (.on (.g 30 rfl) rfl rfl) (.g 32 rfl) .c (decide_eq_false n6)) (.k (pickF .k (.g 30 rfl) (.g 33 rfl)) (.k (mv .k (.g 34 rfl)) (.k (faddr (.on (.g 35 rfl) rfl rfl) (.b 1 rfl) rfl fPX) (.k (ldc (.on (.g 35 rfl) rfl rfl) (.g 36 rfl) (.b 1 rfl) tyI) (.k (lt_ (.on (.g 35 rfl) rfl rfl) (.g 37 rfl) .c (decide_eq_false n7)) (.k (pickF .k (.g 35 rfl) (.g 38 rfl)) (.k (mv .k (.g 39 rfl)) (.k (faddr (.on (.g 40 rfl) rfl rfl) (.b 1 rfl) rfl fPY) (.k (ldc (.on (.g 40 rfl) rfl rfl) (.g 41 rfl) (.b 1 rfl) tyI) (.k (gt_ (.on (.g 40 rfl) rfl rfl) (.g 42 rfl) .c (decide_eq_true h8)) (.k (pickF .k (.g 40 rfl) (.g 43 rfl)) (.k (mv .k (.g 44 rfl)) (.k (skp (.on (.g 45 rfl) rfl rfl)) (.k (skp (.on (.g 45 rfl) rfl rfl)) (.k (skp (.on (.g 45 rfl) rfl rfl)) (.k (pickT .k (.g 45 rfl) .c) .n)))))))))))))))))))))))))))))))))))))))))))))))))) [0, 1, 2] [49] rfl rfl ?_)
  refine Tr.cond 3 rfl (fun _ => ?_) nofun
  refine Tr.rs [] (.k (cal .k Try.func46 rfl fn_known .n) (.k (asg .k (.g 0 rfl)) .n)) [] [1] rfl rfl ?_
  refine Tr.ret (end_tmp 0 rfl rfl)
 ·
  have hF : [(ax, ay), (x, y)].all fitP = true := by simpa using n0
  refine Tr.seq (Tr.rs [] (.k (ld .k (.b 1 rfl) tyP) (.k (ld .k (.b 2 rfl) tyP) (.k (mkrow .k rwP (.k (.g 0 rfl) (.k (.g 1 rfl) .n)) rfl rfl (by kernel_rfl)) (.k (cal .k Try.func58 rfl (hF ▸ fn_Fits [(_, _), (_, _)] (by simp)) (.k (.g 2 rfl) .n)) (.k (not_ .k (.g 3 rfl)) (.k (mv .k (.g 4 rfl)) (.k (faddr (.on (.g 5 rfl) rfl rfl) (.b 2 rfl) rfl fPX) (.k (ldc (.on (.g 5 rfl) rfl rfl) (.g 6 rfl) (.b 2 rfl) tyI) (.k (gt_ (.on (.g 5 rfl) rfl rfl) (.g 7 rfl) .c (decide_eq_false n1)) (.k (pickF .k (.g 5 rfl) (.g 8 rfl)) (.k (mv .k (.g 9 rfl)) (.k (faddr (.on (.g 10 rfl) rfl rfl) (.b 2 rfl) rfl fPX) (.k (ldc (.on (.g 10 rfl) rfl rfl) (.g 11 rfl) (.b 2 rfl) tyI) (.k (lt_ (.on (.g 10 rfl) rfl rfl) (.g 12 rfl) .c (decide_eq_false n2)) (.k (pickF .k (.g 10 rfl) (.g 13 rfl)) (.k (mv .k (.g 14 rfl)) (.k (faddr (.on (.g 15 rfl) rfl rfl) (.b 2 rfl) rfl fPY) (.k (ldc (.on (.g 15 rfl) rfl rfl) (.g 16 rfl) (.b 2 rfl) tyI) (.k (gt_ (.on (.g 15 rfl) rfl rfl) (.g 17 rfl) .c (decide_eq_false n3)) (.k (pickF .k (.g 15 rfl) (.g 18 rfl)) (.k (mv .k (.g 19 rfl)) (.k (faddr (.on (.g 20 rfl) rfl rfl) (.b 2 rfl) rfl fPY) (.k (ldc (.on (.g 20 rfl) rfl rfl) (.g 21 rfl) (.b 2 rfl) tyI) (.k (lt_ (.on (.g 20 rfl) rfl rfl) (.g 22 rfl) .c (decide_eq_false n4)) (.k (pickF .k (.g 20 rfl) (.g 23 rfl)) (.k (mv .k (.g 24 rfl)) (.k (ld (.on (.g 25 rfl) rfl rfl) (.b 2 rfl) tyP) (.k (bld (.on (.g 25 rfl) rfl rfl) .n bP0 (aP 0 0)) (.k (eqS_ (.on (.g 25 rfl) rfl rfl) ptG (.g 26 rfl) (.g 27 rfl) (eqP _ _ _ _) (show (x == 0 && y == 0) = false by simp; omega)) (.k (pickF .k (.g 25 rfl) (.g 28 rfl)) (.k (mv .k (.g 29 rfl)) (.k (faddr (.on (.g 30 rfl) rfl rfl) (.b 1 rfl) rfl fPX) (.k (ldc (.on (.g 30 rfl) rfl rfl) (.g 31 rfl) (.b 1 rfl) tyI) (.k (gt_ (.on (.g 30 rfl) rfl rfl) (.g 32 rfl) .c (decide_eq_false n6)) (.k (pickF .k (.g 30 rfl) (.g 33 rfl)) (.k (mv .k (.g 34 rfl)) (.k (faddr (.on (.g 35 rfl) rfl rfl) (.b 1 rfl) rfl fPX) (.k (ldc (.on (.g 35 rfl) rfl rfl) (.g 36 rfl) (.b 1 rfl) tyI) (.k (lt_ (.on (.g 35 rfl) rfl rfl) (.g 37 rfl) .c (decide_eq_false n7)) (.k (pickF .k (.g 35 rfl) (.g 38 rfl)) (.k (mv .k (.g 39 rfl)) (.k (faddr (.on (.g 40 rfl) rfl rfl) (.b 1 rfl) rfl fPY) (.k (ldc (.on (.g 40 rfl) rfl rfl) (.g 41 rfl) (.b 1 rfl) tyI) (.k (gt_ (.on (.g 40 rfl) rfl rfl) (.g 42 rfl) .c (decide_eq_false n8)) (.k (pickF .k (.g 40 rfl) (.g 43 rfl)) (.k (mv .k (.g 44 rfl)) (.k (faddr (.on (.g 45 rfl) rfl rfl) (.b 1 rfl) rfl fPY) (.k (ldc (.on (.g 45 rfl) rfl rfl) (.g 46 rfl) (.b 1 rfl) tyI) (.k (lt_ (.on (.g 45 rfl) rfl rfl) (.g 47 rfl) .c (decide_eq_true h9)) (.k (pickF .k (.g 45 rfl) (.g 48 rfl)) .n)))))))))))))))))))))))))))))))))))))))))))))))))) [0, 1, 2] [49] rfl rfl ?_)
  refine Tr.cond 3 rfl (fun _ => ?_) nofun
  refine Tr.rs [] (.k (cal .k Try.func46 rfl fn_known .n) (.k (asg .k (.g 0 rfl)) .n)) [] [1] rfl rfl ?_
  refine Tr.ret (end_tmp 0 rfl rfl)
 ·
  have hF : [(ax, ay), (x, y)].all fitP = true := by simpa using n0
  have fa : fit ax ay := (fit2 hF).1
  have b1 : Bd 32 ax := by unfold Bd; omega
  have b2 : Bd 32 ay := by unfold Bd; omega
  have b3 : Bd 20 x := by unfold Bd; omega
  have b4 : Bd 20 y := by unfold Bd; omega
  have hk := k20 h0k
  obtain ⟨m, hm⟩ : ∃ m, 1 + k.tmod 20 = m := ⟨_, rfl⟩
  have m1 : 1 ≤ m := by omega
  have m2 : m ≤ 20 := by omega
  have m5 : Bd 5 m := by unfold Bd; omega
  refine Tr.seq (Tr.rs [] (.k (ld .k (.b 1 rfl) tyP) (.k (ld .k (.b 2 rfl) tyP) (.k (mkrow .k rwP (.k (.g 0 rfl) (.k (.g 1 rfl) .n)) rfl rfl (by kernel_rfl)) (.k (cal .k Try.func58 rfl (hF ▸ fn_Fits [(_, _), (_, _)] (by simp)) (.k (.g 2 rfl) .n)) (.k (not_ .k (.g 3 rfl)) (.k (mv .k (.g 4 rfl)) (.k (faddr (.on (.g 5 rfl) rfl rfl) (.b 2 rfl) rfl fPX) (.k (ldc (.on (.g 5 rfl) rfl rfl) (.g 6 rfl) (.b 2 rfl) tyI) (.k (gt_ (.on (.g 5 rfl) rfl rfl) (.g 7 rfl) .c (decide_eq_false n1)) (.k (pickF .k (.g 5 rfl) (.g 8 rfl)) (.k (mv .k (.g 9 rfl)) (.k (faddr (.on (.g 10 rfl) rfl rfl) (.b 2 rfl) rfl fPX) (.k (ldc (.on (.g 10 rfl) rfl rfl) (.g 11 rfl) (.b 2 rfl) tyI) (.k (lt_ (.on (.g 10 rfl) rfl rfl) (.g 12 rfl) .c (decide_eq_false n2)) (.k (pickF .k (.g 10 rfl) (.g 13 rfl)) (.k (mv .k (.g 14 rfl)) (.k (faddr (.on (.g 15 rfl) rfl rfl) (.b 2 rfl) rfl fPY) (.k (ldc (.on (.g 15 rfl) rfl rfl) (.g 16 rfl) (.b 2 rfl) tyI) (.k (gt_ (.on (.g 15 rfl) rfl rfl) (.g 17 rfl) .c (decide_eq_false n3)) (.k (pickF .k (.g 15 rfl) (.g 18 rfl)) (.k (mv .k (.g 19 rfl)) (.k (faddr (.on (.g 20 rfl) rfl rfl) (.b 2 rfl) rfl fPY) (.k (ldc (.on (.g 20 rfl) rfl rfl) (.g 21 rfl) (.b 2 rfl) tyI) (.k (lt_ (.on (.g 20 rfl) rfl rfl) (.g 22 rfl) .c (decide_eq_false n4)) (.k (pickF .k (.g 20 rfl) (.g 23 rfl)) (.k (mv .k (.g 24 rfl)) (.k (ld (.on (.g 25 rfl) rfl rfl) (.b 2 rfl) tyP) (.k (bld (.on (.g 25 rfl) rfl rfl) .n bP0 (aP 0 0)) (.k (eqS_ (.on (.g 25 rfl) rfl rfl) ptG (.g 26 rfl) (.g 27 rfl) (eqP _ _ _ _) (show (x == 0 && y == 0) = false by simp; omega)) (.k (pickF .k (.g 25 rfl) (.g 28 rfl)) (.k (mv .k (.g 29 rfl)) (.k (faddr (.on (.g 30 rfl) rfl rfl) (.b 1 rfl) rfl fPX) (.k (ldc (.on (.g 30 rfl) rfl rfl) (.g 31 rfl) (.b 1 rfl) tyI) (.k (gt_ (.on (.g 30 rfl) rfl rfl) (.g 32 rfl) .c (decide_eq_false n6)) (.k (pickF .k (.g 30 rfl) (.g 33 rfl)) (.k (mv .k (.g 34 rfl)) (.k (faddr (.on (.g 35 rfl) rfl rfl) (.b 1 rfl) rfl fPX) (.k (ldc (.on (.g 35 rfl) rfl rfl) (.g 36 rfl) (.b 1 rfl) tyI) (.k (lt_ (.on (.g 35 rfl) rfl rfl) (.g 37 rfl) .c (decide_eq_false n7)) (.k (pickF .k (.g 35 rfl) (.g 38 rfl)) (.k (mv .k (.g 39 rfl)) (.k (faddr (.on (.g 40 rfl) rfl rfl) (.b 1 rfl) rfl fPY) (.k (ldc (.on (.g 40 rfl) rfl rfl) (.g 41 rfl) (.b 1 rfl) tyI) (.k (gt_ (.on (.g 40 rfl) rfl rfl) (.g 42 rfl) .c (decide_eq_false n8)) (.k (pickF .k (.g 40 rfl) (.g 43 rfl)) (.k (mv .k (.g 44 rfl)) (.k (faddr (.on (.g 45 rfl) rfl rfl) (.b 1 rfl) rfl fPY) (.k (ldc (.on (.g 45 rfl) rfl rfl) (.g 46 rfl) (.b 1 rfl) tyI) (.k (lt_ (.on (.g 45 rfl) rfl rfl) (.g 47 rfl) .c (decide_eq_false n9)) (.k (pickF .k (.g 45 rfl) (.g 48 rfl)) .n)))))))))))))))))))))))))))))))))))))))))))))))))) [0, 1, 2] [49] rfl rfl ?_)
  refine Tr.cond 3 rfl nofun (fun _ => ?_)
  refine Tr.skip (Nx.go (Tr.rs [] (.k (mv .k (.b 0 rfl)) (.k (rem_ .k (.g 0 rfl) .c (by decide) rfl) (.k (cvt_ .k (by kernel_rfl) Try.underlying3 (.g 1 rfl) (show IntKind.i64.wrap (k.tmod 20) = k.tmod 20 from IntWalk.i64_in _ (by omega))) (.k (add_ .k .c (.g 2 rfl) (show IntKind.i64.wrap (1 + k.tmod 20) = m from hm ▸ IntWalk.i64_in _ (by omega))) (.k (mul_ .k .c (.g 3 rfl) (Bd.wrap (Bd.mul (show Bd 2 (2) by decide) m5) (by decide))) (.k (asg .k (.g 4 rfl)) .n)))))) [1, 2] [5] rfl rfl ?_))
  refine Tr.rs [] (.k (faddr .k (.b 0 rfl) rfl fPX) (.k (ldc .k (.g 0 rfl) (.b 0 rfl) tyI) (.k (faddr .k (.b 1 rfl) rfl fPX) (.k (ldc .k (.g 2 rfl) (.b 1 rfl) tyI) (.k (mul_ .k .c (.g 3 rfl) (Bd.wrap (Bd.mul (show Bd 2 (2) by decide) b3) (by decide))) (.k (add_ .k (.g 1 rfl) (.g 4 rfl) (Bd.wrap (Bd.add b1 (Bd.mul (show Bd 2 (2) by decide) b3)) (by decide))) (.k (faddr .k (.b 0 rfl) rfl fPY) (.k (ldc .k (.g 6 rfl) (.b 0 rfl) tyI) (.k (faddr .k (.b 1 rfl) rfl fPY) (.k (ldc .k (.g 8 rfl) (.b 1 rfl) tyI) (.k (mul_ .k .c (.g 9 rfl) (Bd.wrap (Bd.mul (show Bd 2 (2) by decide) b4) (by decide))) (.k (add_ .k (.g 7 rfl) (.g 10 rfl) (Bd.wrap (Bd.add b2 (Bd.mul (show Bd 2 (2) by decide) b4)) (by decide))) (.k (bld .k (.k (.g 5 rfl) (.k (.g 11 rfl) .n)) (bP _ _) (aP _ _)) (.k (ala .k zP) (.k (sta .k (.g 13 rfl) (.g 12 rfl) tyP) .n))))))))))))))) [0, 1, 2] [14] rfl rfl ?_
  refine Tr.rs [] (.k (faddr .k (.b 0 rfl) rfl fPX) (.k (ldc .k (.g 0 rfl) (.b 0 rfl) tyI) (.k (mv .k (.b 2 rfl)) (.k (faddr .k (.b 1 rfl) rfl fPY) (.k (ldc .k (.g 3 rfl) (.b 1 rfl) tyI) (.k (mul_ .k (.g 2 rfl) (.g 4 rfl) (Bd.wrap (Bd.mul (Bd.mul (show Bd 2 (2) by decide) m5) b4) (by decide))) (.k (sub_ .k (.g 1 rfl) (.g 5 rfl) (Bd.wrap (Bd.sub b1 (Bd.mul (Bd.mul (show Bd 2 (2) by decide) m5) b4)) (by decide))) (.k (faddr .k (.b 0 rfl) rfl fPY) (.k (ldc .k (.g 7 rfl) (.b 0 rfl) tyI) (.k (mv .k (.b 2 rfl)) (.k (faddr .k (.b 1 rfl) rfl fPX) (.k (ldc .k (.g 10 rfl) (.b 1 rfl) tyI) (.k (mul_ .k (.g 9 rfl) (.g 11 rfl) (Bd.wrap (Bd.mul (Bd.mul (show Bd 2 (2) by decide) m5) b3) (by decide))) (.k (add_ .k (.g 8 rfl) (.g 12 rfl) (Bd.wrap (Bd.add b2 (Bd.mul (Bd.mul (show Bd 2 (2) by decide) m5) b3)) (by decide))) (.k (bld .k (.k (.g 6 rfl) (.k (.g 13 rfl) .n)) (bP _ _) (aP _ _)) (.k (ala .k zP) (.k (sta .k (.g 15 rfl) (.g 14 rfl) tyP) .n))))))))))))))))) [0, 1, 3] [16] rfl rfl ?_
  refine Tr.rs [] (.k (ld .k (.b 0 rfl) tyP) (.k (ld .k (.b 2 rfl) tyP) (.k (ld .k (.b 3 rfl) tyP) (.k (cal .k Try.func53 rfl (fn_rtC m1 m2 (Int.not_lt.1 n2) (Int.not_lt.1 n1) (Int.not_lt.1 n4) (Int.not_lt.1 n3) (Int.not_lt.1 n7) (Int.not_lt.1 n6) (Int.not_lt.1 n9) (Int.not_lt.1 n8) n5 fa) (.k (.g 0 rfl) (.k (.g 1 rfl) (.k (.g 2 rfl) .n)))) (.k (mv .k (.g 3 rfl)) (.k (exx .k (.g 4 rfl) rfl) (.k (exx .k (.g 4 rfl) rfl) (.k (ala .k zP) (.k (sta .k (.g 7 rfl) (.g 5 rfl) tyP) (.k (asg .k (.g 6 rfl)) .n)))))))))) [0, 1, 2, 3] [8, 9] rfl rfl ?_
  refine Tr.rs [] (.k (ld .k (.b 2 rfl) tyP) (.k (ld .k (.b 3 rfl) tyP) (.k (cal .k Try.func63 rfl (fn_rtM m1 m2 (Int.not_lt.1 n2) (Int.not_lt.1 n1) (Int.not_lt.1 n4) (Int.not_lt.1 n3) (Int.not_lt.1 n7) (Int.not_lt.1 n6) (Int.not_lt.1 n9) (Int.not_lt.1 n8)) (.k (.g 0 rfl) (.k (.g 1 rfl) .n))) (.k (mv .k (.g 2 rfl)) (.k (exx .k (.g 3 rfl) rfl) (.k (exx .k (.g 3 rfl) rfl) (.k (ala .k zP) (.k (sta .k (.g 6 rfl) (.g 4 rfl) tyP) (.k (asg .k (.g 5 rfl)) .n))))))))) [0, 1, 2, 3, 4, 5] [7, 8] rfl rfl ?_
  refine Tr.rs [] (.k (faddr .k (.b 0 rfl) rfl fPX) (.k (ldc .k (.g 0 rfl) (.b 0 rfl) tyI) (.k (faddr .k (.b 1 rfl) rfl fPX) (.k (ldc .k (.g 2 rfl) (.b 1 rfl) tyI) (.k (sub_ .k (.g 1 rfl) (.g 3 rfl) (Bd.wrap (Bd.sub b1 b3) (by decide))) (.k (faddr .k (.b 0 rfl) rfl fPY) (.k (ldc .k (.g 5 rfl) (.b 0 rfl) tyI) (.k (faddr .k (.b 1 rfl) rfl fPY) (.k (ldc .k (.g 7 rfl) (.b 1 rfl) tyI) (.k (sub_ .k (.g 6 rfl) (.g 8 rfl) (Bd.wrap (Bd.sub b2 b4) (by decide))) (.k (bld .k (.k (.g 4 rfl) (.k (.g 9 rfl) .n)) (bP _ _) (aP _ _)) (.k (ala .k zP) (.k (sta .k (.g 11 rfl) (.g 10 rfl) tyP) .n))))))))))))) [0, 2, 3, 4, 5, 6, 7] [12] rfl rfl ?_
  refine Tr.rs [] (.k (mv .k (.b 4 rfl)) (.k (eq_ .k (.g 0 rfl) .c (show (_ == _) = true from rfl)) (.k (mv .k (.g 1 rfl)) (.k (mv (.on (.g 2 rfl) rfl rfl) (.b 6 rfl)) (.k (pickT .k (.g 2 rfl) (.g 3 rfl)) (.k (mv .k (.g 4 rfl)) (.k (ld (.on (.g 5 rfl) rfl rfl) (.b 3 rfl) tyP) (.k (ld (.on (.g 5 rfl) rfl rfl) (.b 5 rfl) tyP) (.k (eqS_ (.on (.g 5 rfl) rfl rfl) ptG (.g 6 rfl) (.g 7 rfl) (eqP _ _ _ _) (and_same ..)) (.k (pickT .k (.g 5 rfl) (.g 8 rfl)) (.k (mv .k (.g 9 rfl)) (.k (ld (.on (.g 10 rfl) rfl rfl) (.b 1 rfl) tyP) (.k (ld (.on (.g 10 rfl) rfl rfl) (.b 2 rfl) tyP) (.k (ld (.on (.g 10 rfl) rfl rfl) (.b 0 rfl) tyP) (.k (cal (.on (.g 10 rfl) rfl rfl) Try.func49 rfl (show FnC _ _ _ (bv true) from rt_in m1 m2 (Int.not_lt.1 n2) (Int.not_lt.1 n1) (Int.not_lt.1 n4) (Int.not_lt.1 n3) (Int.not_lt.1 n7) (Int.not_lt.1 n6) (Int.not_lt.1 n9) (Int.not_lt.1 n8) n5 fa ▸ fn_InDisc) (.k (.g 11 rfl) (.k (.g 12 rfl) (.k (.g 13 rfl) .n)))) (.k (pickT .k (.g 10 rfl) (.g 14 rfl)) (.k (mv .k (.g 15 rfl)) (.k (ld (.on (.g 16 rfl) rfl rfl) (.b 0 rfl) tyP) (.k (ld (.on (.g 16 rfl) rfl rfl) (.b 1 rfl) tyP) (.k (ld (.on (.g 16 rfl) rfl rfl) (.b 2 rfl) tyP) (.k (cal (.on (.g 16 rfl) rfl rfl) Try.func44 rfl fn_Orient (.k (.g 17 rfl) (.k (.g 18 rfl) (.k (.g 19 rfl) .n)))) (.k (eq_ (.on (.g 16 rfl) rfl rfl) (.g 20 rfl) .c (show (_ == _) = true from (beq_iff_eq.2 (rt_ori m1 m2 (Int.not_lt.1 n2) (Int.not_lt.1 n1) (Int.not_lt.1 n4) (Int.not_lt.1 n3) (Int.not_lt.1 n7) (Int.not_lt.1 n6) (Int.not_lt.1 n9) (Int.not_lt.1 n8) n5 fa)))) (.k (pickT .k (.g 16 rfl) (.g 21 rfl)) (.k (mv .k (.g 22 rfl)) (.k (ld (.on (.g 23 rfl) rfl rfl) (.b 1 rfl) tyP) (.k (ld (.on (.g 23 rfl) rfl rfl) (.b 2 rfl) tyP) (.k (ld (.on (.g 23 rfl) rfl rfl) (.b 7 rfl) tyP) (.k (cal (.on (.g 23 rfl) rfl rfl) Try.func49 rfl (show FnC _ _ _ (bv false) from rt_out n5 ▸ fn_InDisc) (.k (.g 24 rfl) (.k (.g 25 rfl) (.k (.g 26 rfl) .n)))) (.k (not_ (.on (.g 23 rfl) rfl rfl) (.g 27 rfl)) (.k (pickT .k (.g 23 rfl) (.g 28 rfl)) (.k (mv .k (.g 29 rfl)) (.k (cal (.on (.g 30 rfl) rfl rfl) Try.func46 rfl fn_known .n) (.k (pickT .k (.g 30 rfl) (.g 31 rfl)) (.k (asg .k (.g 32 rfl)) .n)))))))))))))))))))))))))))))))))) [] [33] rfl rfl ?_
  refine Tr.ret (end_tmp 0 rfl rfl)
theorem u8_nn {k : Int} (h : (Lit.int .u8 k).wf = true) : 0 ≤ k := by
  have h1 : (decide (IntKind.u8.min ≤ k) && decide (k ≤ IntKind.u8.max)) = true := h
  rw [Bool.and_eq_true] at h1
  exact of_decide_eq_true h1.1
theorem predRight_any (a0 b0 a1 b1 k : Int) (W : World) (w0 : I64 a0 ∧ I64 b0) (w1 : I64 a1 ∧ I64 b1) (w2 : (Lit.int .u8 k).wf = true) : Calls Try.prog 19 #[ptv a0 b0, ptv a1 b1, .int .u8 k] W fun e w' => e = .returned (.bool true) ∧ Below W.heap.size W w' :=
  FnC.go (vs := [ptv a0 b0, ptv a1 b1, .int .u8 k]) (law_PredRight (u8_nn w2)) W ⟨rfl, rfl, rfl, trivial⟩
end Go.Proofs.Ytmpbbodafenonaa

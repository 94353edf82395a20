/- The shortest side's circle, its centre, and rows that turn left, walked. -/
import Derived.Test.YtmpbbodafenonaaPr5
set_option linter.unusedVariables false
set_option linter.unusedSimpArgs false
namespace Go.Proofs.Ytmpbbodafenonaa
open Go Go.RowKit Go.Proofs.Ytmpbbodafenonaa.Fx Go.Proofs.YtmpbbodafenonaaW.PrintWords
theorem sgn_gt {z : Int} : sgn z > 0 ↔ z > 0 := by rcases sgn_cases z with ⟨e, h⟩ | ⟨e, h⟩ | ⟨e, h⟩ <;> rw [e] <;> omega
theorem sgn_gtD (z : Int) : decide (sgn z > 0) = decide (z > 0) := decide_eq_decide.2 sgn_gt
theorem sgn_eq {z : Int} : sgn z = 0 ↔ z = 0 := by rcases sgn_cases z with ⟨e, h⟩ | ⟨e, h⟩ | ⟨e, h⟩ <;> rw [e] <;> omega
def mnZ (x y : Int) : Int := if x - y > 0 then y else x
def mxZ (x y : Int) : Int := if x - y > 0 then x else y
theorem Bd.mn {k : Nat} {x y : Int} (hx : Bd k x) (hy : Bd k y) : Bd k (mnZ x y) := by unfold mnZ; split <;> assumption
theorem Bd.mx {k : Nat} {x y : Int} (hx : Bd k x) (hy : Bd k y) : Bd k (mxZ x y) := by unfold mxZ; split <;> assumption
/-- Is the circle too great for the shortest side, with these squares and this turn? -/
def skZ (x y z t : Int) : Bool := decide (t = 0) || decide (mxZ (mnZ x z) y * mxZ x z - 8 * t * t > 0)
def wayZ (ax ay bx b_y : Int) : Int := sqZ (bx - ax) (b_y - ay)
def turZ (ax ay bx b_y cx cy : Int) : Int := tuZ (bx - ax) (b_y - ay) (cx - ax) (cy - ay)
def skB (ax ay bx b_y cx cy : Int) : Bool := if fit ax ay ∧ fit bx b_y ∧ fit cx cy then skZ (wayZ ax ay bx b_y) (wayZ bx b_y cx cy) (wayZ cx cy ax ay) (turZ ax ay bx b_y cx cy) else false
theorem way_bd {ax ay bx b_y : Int} (ha : fit ax ay) (hb : fit bx b_y) : Bd 69 (wayZ ax ay bx b_y) := Bd.add (Bd.mul (Bd.sub hb.x ha.x) (Bd.sub hb.x ha.x)) (Bd.mul (Bd.sub hb.y ha.y) (Bd.sub hb.y ha.y))
theorem fn_way {ax ay bx b_y : Int} (ha : fit ax ay) (hb : fit bx b_y) : FnC Try.prog 84 [.is (ptv (bx - ax) (b_y - ay))] (.is (wv (wayZ ax ay bx b_y))) := fn_square ((Bd.sub hb.x ha.x).mono (by decide)) ((Bd.sub hb.y ha.y).mono (by decide))
theorem fn_tur {ax ay bx b_y cx cy : Int} (ha : fit ax ay) (hb : fit bx b_y) (hc : fit cx cy) : FnC Try.prog 85 [.is (ptv (bx - ax) (b_y - ay)), .is (ptv (cx - ax) (cy - ay))] (.is (wv (turZ ax ay bx b_y cx cy))) := fn_turn ((Bd.sub hb.x ha.x).mono (by decide)) ((Bd.sub hb.y ha.y).mono (by decide)) ((Bd.sub hc.x ha.x).mono (by decide)) ((Bd.sub hc.y ha.y).mono (by decide))
theorem tur_bd {ax ay bx b_y cx cy : Int} (ha : fit ax ay) (hb : fit bx b_y) (hc : fit cx cy) : Bd 69 (turZ ax ay bx b_y cx cy) := Bd.add (Bd.mul (Bd.sub hb.x ha.x) (Bd.sub hc.y ha.y)) (Bd.neg (Bd.mul (Bd.sub hb.y ha.y) (Bd.sub hc.x ha.x)))
set_option maxRecDepth 100000 in
theorem fn_Skinny {ax ay bx b_y cx cy : Int} : FnC Try.prog 60 [.is (ptv ax ay), .is (ptv bx b_y), .is (ptv cx cy)] (bv (skB ax ay bx b_y cx cy)) := by
 refine FnC.of (N := 64) Try.func60 rfl rfl (Nat.le_of_ble_eq_true rfl) (fun w0 ok0 => ?_)
 refine Tr.rs [] (.k (bxx .k (.b 0 rfl)) (.k (bxx .k (.b 1 rfl)) (.k (bxx .k (.b 2 rfl)) (.k (asg .k .c) .n)))) [] [0, 1, 2] rfl rfl ?_
 cases hF : [(ax, ay), (bx, b_y), (cx, cy)].all fitP
 ·
  have hn := fit3n hF
  refine Tr.seq (Tr.rs [] (.k (ld .k (.b 0 rfl) tyP) (.k (ld .k (.b 1 rfl) tyP) (.k (ld .k (.b 2 rfl) tyP) (.k (mkrow .k rwP (.k (.g 0 rfl) (.k (.g 1 rfl) (.k (.g 2 rfl) .n))) rfl rfl (by kernel_rfl)) (.k (cal .k Try.func58 rfl (hF ▸ fn_Fits [(_, _), (_, _), (_, _)] (by simp)) (.k (.g 3 rfl) .n)) (.k (not_ .k (.g 4 rfl)) .n)))))) [0, 1, 2] [5] rfl rfl ?_)
  refine Tr.cond 3 rfl (fun _ => ?_) nofun
  unfold skB; rw [if_neg hn]
  refine Tr.rs [] (.k (asg .k .c) .n) [] [0] rfl rfl ?_
  refine Tr.ret (end_tmp 0 rfl rfl)
 ·
  obtain ⟨f1, f2, f3⟩ := fit3 hF
  refine Tr.seq (Tr.rs [] (.k (ld .k (.b 0 rfl) tyP) (.k (ld .k (.b 1 rfl) tyP) (.k (ld .k (.b 2 rfl) tyP) (.k (mkrow .k rwP (.k (.g 0 rfl) (.k (.g 1 rfl) (.k (.g 2 rfl) .n))) rfl rfl (by kernel_rfl)) (.k (cal .k Try.func58 rfl (hF ▸ fn_Fits [(_, _), (_, _), (_, _)] (by simp)) (.k (.g 3 rfl) .n)) (.k (not_ .k (.g 4 rfl)) .n)))))) [0, 1, 2] [5] rfl rfl ?_)
  refine Tr.cond 3 rfl nofun (fun _ => ?_)
  refine Tr.skip (Nx.go (?_))
  unfold skB; rw [if_pos ⟨f1, f2, f3⟩]
  refine Tr.ds hmx [] (.k (ld .k (.b 0 rfl) tyP) (.k (ld .k (.b 1 rfl) tyP) (.k (cal .k Try.func81 rfl (fn_from f1.x f1.y f2.x f2.y) (.k (.g 0 rfl) (.k (.g 1 rfl) .n))) (.k (cal .k Try.func84 rfl (fn_way f1 f2) (.k (.g 2 rfl) .n)) (.k (ld .k (.b 1 rfl) tyP) (.k (ld .k (.b 2 rfl) tyP) (.k (cal .k Try.func81 rfl (fn_from f2.x f2.y f3.x f3.y) (.k (.g 4 rfl) (.k (.g 5 rfl) .n))) (.k (cal .k Try.func84 rfl (fn_way f2 f3) (.k (.g 6 rfl) .n)) (.k (ld .k (.b 2 rfl) tyP) (.k (ld .k (.b 0 rfl) tyP) (.k (cal .k Try.func81 rfl (fn_from f3.x f3.y f1.x f1.y) (.k (.g 8 rfl) (.k (.g 9 rfl) .n))) (.k (cal .k Try.func84 rfl (fn_way f3 f1) (.k (.g 10 rfl) .n)) (.k (ala .k zW) (.k (ala .k zW) (.k (ala .k zW) (.k (sta .k (.g 12 rfl) (.g 3 rfl) tyW) (.k (sta .k (.g 13 rfl) (.g 7 rfl) tyW) (.k (sta .k (.g 14 rfl) (.g 11 rfl) tyW) .n)))))))))))))))))) [0, 1, 2] [15, 16, 17] rfl rfl ?_
  refine Tr.cut [.b 3 (.is (ptv ax ay)) 65 2, .b 4 (.is (ptv bx b_y)) 65 2, .b 5 (.is (ptv cx cy)) 65 2, .b 7 (.is (wv (mnZ (wayZ ax ay bx b_y) (wayZ cx cy ax ay)))) 27 5, .b 8 (.is (wv (wayZ bx b_y cx cy))) 27 5, .b 9 (.is (wv (mxZ (wayZ ax ay bx b_y) (wayZ cx cy ax ay)))) 27 5] ?_ ?_
  ·
   refine Tr.rs [] (.k (ld .k (.b 3 rfl) tyW) (.k (ld .k (.b 5 rfl) tyW) (.k (cal .k Try.func40 rfl (fn_Cmp (tN (way_bd f1 f2) (by decide)) (tN (way_bd f3 f1) (by decide))) (.k (.g 0 rfl) (.k (.g 1 rfl) .n))) (.k (gt_ .k (.g 2 rfl) .c rfl) .n)))) [0, 1, 2, 3, 4, 5] [3] rfl rfl ?_
   refine Tr.cond 6 rfl (fun e32 => ?_) (fun e32 => ?_)
   ·
    refine Tr.reg [(3, 2), (5, 3)] (.k (ld .k (.b 5 rfl) tyW) (.k (ld .k (.b 3 rfl) tyW) (.k (sto .k (.b 3 rfl) (.g 0 rfl) tyW) (.k (sto .k (.b 5 rfl) (.g 1 rfl) tyW) .n)))) [0, 1, 2, 4] [2, 3] rfl rfl (?_)
    have c1 : wayZ ax ay bx b_y - wayZ cx cy ax ay > 0 := sgn_gt.1 (of_decide_eq_true e32)
    unfold mnZ mxZ
    rw [if_pos c1, if_pos c1]
    refine Nx.met _ (Sub.all (.cons 0 rfl (.cons 1 rfl (.cons 2 rfl (.cons 4 rfl (.cons 3 rfl (.cons 5 rfl .nil)))))))
   ·
    refine Tr.skip (?_)
    have c1 : ¬ wayZ ax ay bx b_y - wayZ cx cy ax ay > 0 := fun h => of_decide_eq_false e32 (sgn_gt.2 h)
    unfold mnZ mxZ
    rw [if_neg c1, if_neg c1]
    refine Nx.met _ (Sub.all (.cons 0 rfl (.cons 1 rfl (.cons 2 rfl (.cons 3 rfl (.cons 4 rfl (.cons 5 rfl .nil)))))))
  ·
   refine Tr.cut [.b 3 (.is (ptv ax ay)) 65 2, .b 4 (.is (ptv bx b_y)) 65 2, .b 5 (.is (ptv cx cy)) 65 2, .b 8 (.is (wv (mxZ (mnZ (wayZ ax ay bx b_y) (wayZ cx cy ax ay)) (wayZ bx b_y cx cy)))) 27 5, .b 9 (.is (wv (mxZ (wayZ ax ay bx b_y) (wayZ cx cy ax ay)))) 27 5] ?_ ?_
   ·
    refine Tr.rs [] (.k (ld .k (.b 3 rfl) tyW) (.k (ld .k (.b 4 rfl) tyW) (.k (cal .k Try.func40 rfl (fn_Cmp (tN (Bd.mn (way_bd f1 f2) (way_bd f3 f1)) (by decide)) (tN (way_bd f2 f3) (by decide))) (.k (.g 0 rfl) (.k (.g 1 rfl) .n))) (.k (gt_ .k (.g 2 rfl) .c rfl) .n)))) [0, 1, 2, 3, 4, 5] [3] rfl rfl ?_
    refine Tr.cond 6 rfl (fun e38 => ?_) (fun e38 => ?_)
    ·
     refine Tr.reg [(3, 2), (4, 3)] (.k (ld .k (.b 4 rfl) tyW) (.k (ld .k (.b 3 rfl) tyW) (.k (sto .k (.b 3 rfl) (.g 0 rfl) tyW) (.k (sto .k (.b 4 rfl) (.g 1 rfl) tyW) .n)))) [0, 1, 2, 5] [3] rfl rfl (?_)
     have c2 : mnZ (wayZ ax ay bx b_y) (wayZ cx cy ax ay) - wayZ bx b_y cx cy > 0 := sgn_gt.1 (of_decide_eq_true e38)
     rw [show mxZ (mnZ (wayZ ax ay bx b_y) (wayZ cx cy ax ay)) (wayZ bx b_y cx cy) = mnZ (wayZ ax ay bx b_y) (wayZ cx cy ax ay) from if_pos c2]
     refine Nx.met _ (Sub.all (.cons 0 rfl (.cons 1 rfl (.cons 2 rfl (.cons 4 rfl (.cons 3 rfl .nil))))))
    ·
     refine Tr.skip (?_)
     have c2 : ¬ mnZ (wayZ ax ay bx b_y) (wayZ cx cy ax ay) - wayZ bx b_y cx cy > 0 := fun h => of_decide_eq_false e38 (sgn_gt.2 h)
     rw [show mxZ (mnZ (wayZ ax ay bx b_y) (wayZ cx cy ax ay)) (wayZ bx b_y cx cy) = wayZ bx b_y cx cy from if_neg c2]
     refine Nx.met _ (Sub.all (.cons 0 rfl (.cons 1 rfl (.cons 2 rfl (.cons 4 rfl (.cons 5 rfl .nil))))))
   ·
    refine Tr.ds hmx [] (.k (ld .k (.b 0 rfl) tyP) (.k (ld .k (.b 1 rfl) tyP) (.k (cal .k Try.func81 rfl (fn_from f1.x f1.y f2.x f2.y) (.k (.g 0 rfl) (.k (.g 1 rfl) .n))) (.k (ld .k (.b 0 rfl) tyP) (.k (ld .k (.b 2 rfl) tyP) (.k (cal .k Try.func81 rfl (fn_from f1.x f1.y f3.x f3.y) (.k (.g 3 rfl) (.k (.g 4 rfl) .n))) (.k (cal .k Try.func85 rfl (fn_tur f1 f2 f3) (.k (.g 2 rfl) (.k (.g 5 rfl) .n))) (.k (ala .k zW) (.k (sta .k (.g 7 rfl) (.g 6 rfl) tyW) .n))))))))) [3, 4] [8] rfl rfl ?_
    by_cases c3 : turZ ax ay bx b_y cx cy = 0
    ·
     have e3 : sgn (turZ ax ay bx b_y cx cy) = 0 := sgn_eq.2 c3
     rw [show skZ (wayZ ax ay bx b_y) (wayZ bx b_y cx cy) (wayZ cx cy ax ay) (turZ ax ay bx b_y cx cy) = true by unfold skZ; rw [decide_eq_true c3, Bool.true_or]]
     refine Tr.ds hmx [] (.k (ld .k (.b 2 rfl) tyW) (.k (cal .k Try.func42 rfl (fn_Sign (tN (tur_bd f1 f2 f3) (by decide))) (.k (.g 0 rfl) .n)) (.k (eq_ .k (.g 1 rfl) .c (show (_ == (0 : Int)) = true by simpa using e3)) (.k (mv .k (.g 2 rfl)) (.k (skp (.on (.g 3 rfl) rfl rfl)) (.k (skp (.on (.g 3 rfl) rfl rfl)) (.k (skp (.on (.g 3 rfl) rfl rfl)) (.k (skp (.on (.g 3 rfl) rfl rfl)) (.k (skp (.on (.g 3 rfl) rfl rfl)) (.k (skp (.on (.g 3 rfl) rfl rfl)) (.k (skp (.on (.g 3 rfl) rfl rfl)) (.k (skp (.on (.g 3 rfl) rfl rfl)) (.k (skp (.on (.g 3 rfl) rfl rfl)) (.k (skp (.on (.g 3 rfl) rfl rfl)) (.k (skp (.on (.g 3 rfl) rfl rfl)) (.k (pickT .k (.g 3 rfl) .c) (.k (asg .k (.g 15 rfl)) .n))))))))))))))))) [] [16] rfl rfl ?_
     refine Tr.ret (end_tmp 0 rfl rfl)
    ·
     have e3 : ¬ sgn (turZ ax ay bx b_y cx cy) = 0 := fun h => c3 (sgn_eq.1 h)
     rw [show skZ (wayZ ax ay bx b_y) (wayZ bx b_y cx cy) (wayZ cx cy ax ay) (turZ ax ay bx b_y cx cy) = decide (mxZ (mnZ (wayZ ax ay bx b_y) (wayZ cx cy ax ay)) (wayZ bx b_y cx cy) * mxZ (wayZ ax ay bx b_y) (wayZ cx cy ax ay) - 8 * turZ ax ay bx b_y cx cy * turZ ax ay bx b_y cx cy > 0) by unfold skZ; rw [decide_eq_false c3, Bool.false_or]]
     refine Tr.ds hmx [] (.k (ld .k (.b 2 rfl) tyW) (.k (cal .k Try.func42 rfl (fn_Sign (tN (tur_bd f1 f2 f3) (by decide))) (.k (.g 0 rfl) .n)) (.k (eq_ .k (.g 1 rfl) .c (show (_ == (0 : Int)) = false by simpa using e3)) (.k (mv .k (.g 2 rfl)) (.k (ld (.on (.g 3 rfl) rfl rfl) (.b 0 rfl) tyW) (.k (ld (.on (.g 3 rfl) rfl rfl) (.b 1 rfl) tyW) (.k (mkrow (.on (.g 3 rfl) rfl rfl) rwW (.k (.g 4 rfl) (.k (.g 5 rfl) .n)) rfl rfl (by kernel_rfl)) (.k (cal (.on (.g 3 rfl) rfl rfl) Try.func83 rfl (fn_times2 (Bd.mono (Bd.mx (Bd.mn (way_bd f1 f2) (way_bd f3 f1)) (way_bd f2 f3)) (by decide)) (Bd.mono (Bd.mx (way_bd f1 f2) (way_bd f3 f1)) (by decide))) (.k (.g 6 rfl) .n)) (.k (cal (.on (.g 3 rfl) rfl rfl) Try.func38 rfl (fn_Of (lN (show Bd 4 (8) by decide) (by decide)).1 (lN (show Bd 4 (8) by decide) (by decide)).2) (.k .c .n)) (.k (ld (.on (.g 3 rfl) rfl rfl) (.b 2 rfl) tyW) (.k (ld (.on (.g 3 rfl) rfl rfl) (.b 2 rfl) tyW) (.k (mkrow (.on (.g 3 rfl) rfl rfl) rwW (.k (.g 8 rfl) (.k (.g 9 rfl) (.k (.g 10 rfl) .n))) rfl rfl (by kernel_rfl)) (.k (cal (.on (.g 3 rfl) rfl rfl) Try.func83 rfl (fn_times3 (Bd.mono (show Bd 4 (8) by decide) (by decide)) (Bd.mono (tur_bd f1 f2 f3) (by decide)) (Bd.mono (tur_bd f1 f2 f3) (by decide))) (.k (.g 11 rfl) .n)) (.k (cal (.on (.g 3 rfl) rfl rfl) Try.func40 rfl (fn_Cmp (tN (Bd.mul (Bd.mx (Bd.mn (way_bd f1 f2) (way_bd f3 f1)) (way_bd f2 f3)) (Bd.mx (way_bd f1 f2) (way_bd f3 f1))) (by decide)) (tN (Bd.mul (Bd.mul (show Bd 4 (8) by decide) (tur_bd f1 f2 f3)) (tur_bd f1 f2 f3)) (by decide))) (.k (.g 7 rfl) (.k (.g 12 rfl) .n))) (.k (gt_ (.on (.g 3 rfl) rfl rfl) (.g 13 rfl) .c (sgn_gtD _)) (.k (pickF .k (.g 3 rfl) (.g 14 rfl)) (.k (asg .k (.g 15 rfl)) .n))))))))))))))))) [] [16] rfl rfl ?_
     refine Tr.ret (end_tmp 0 rfl rfl)
def i64P (z : Int) : Prop := -9223372036854775808 ≤ z ∧ z ≤ 9223372036854775807
/-- A quotient, rounded, and a number. -/
def nearZ (add a b : Int) : Int := (2 * a + b) / (2 * b) + add
theorem Bd.div {k : Nat} {a b : Int} (h : Bd k a) : Bd k (a / b) := by
  unfold Bd at *
  exact Nat.lt_of_le_of_lt (Int.natAbs_ediv_le_natAbs a b) h
theorem fn_IntT {z : Int} (h : (z.natAbs : Int) < top4) (hz : i64P z) : FnC Try.prog 41 [.is (wv z)] (.tup [iv z, iv 0]) := by
  have := fn_Int h
  rwa [if_pos (show -9223372036854775808 ≤ z ∧ z ≤ 9223372036854775807 from hz)] at this
theorem fn_IntF {z : Int} (h : (z.natAbs : Int) < top4) (hz : ¬ i64P z) : FnC Try.prog 41 [.is (wv z)] (.tup [iv 0, iv 10]) := by
  have := fn_Int h
  rwa [if_neg (show ¬ (-9223372036854775808 ≤ z ∧ z ≤ 9223372036854775807) from hz)] at this
set_option maxRecDepth 100000 in
theorem fn_nearT {add a b : Int} (h1 : Bd 33 add) (h2 : Bd 110 a) (h3 : Bd 80 b) (h0 : b ≠ 0) (hz : i64P (nearZ add a b)) : FnC Try.prog 89 [iv add, .is (wv a), .is (wv b)] (.tup [iv (nearZ add a b), bv true]) := by
 refine FnC.of (N := 43) Try.func89 rfl rfl (Nat.le_of_ble_eq_true rfl) (fun w0 ok0 => ?_)
 refine Tr.rs [] (.k (bxx .k (.b 1 rfl)) (.k (bxx .k (.b 2 rfl)) (.k (asg .k .c) (.k (asg .k .c) .n)))) [0] [0, 1] rfl rfl ?_
 refine Tr.rs [] (.k (cal .k Try.func38 rfl (fn_Of (lN (show Bd 2 (2) by decide) (by decide)).1 (lN (show Bd 2 (2) by decide) (by decide)).2) (.k .c .n)) (.k (ala .k zW) (.k (sta .k (.g 1 rfl) (.g 0 rfl) tyW) .n))) [0, 1, 2] [2] rfl rfl ?_
 refine Tr.ds hmx [] (.k (ld .k (.b 3 rfl) tyW) (.k (ld .k (.b 1 rfl) tyW) (.k (mkrow .k rwW (.k (.g 0 rfl) (.k (.g 1 rfl) .n)) rfl rfl (by kernel_rfl)) (.k (cal .k Try.func83 rfl (fn_times2 (Bd.mono (show Bd 2 (2) by decide) (by decide)) (Bd.mono h2 (by decide))) (.k (.g 2 rfl) .n)) (.k (ld .k (.b 2 rfl) tyW) (.k (mkrow .k rwW (.k (.g 3 rfl) (.k (.g 4 rfl) .n)) rfl rfl (by kernel_rfl)) (.k (cal .k Try.func82 rfl (fn_sum2 (Bd.mono (Bd.mul (show Bd 2 (2) by decide) h2) (by decide)) (Bd.mono h3 (by decide))) (.k (.g 5 rfl) .n)) (.k (ld .k (.b 3 rfl) tyW) (.k (ld .k (.b 2 rfl) tyW) (.k (mkrow .k rwW (.k (.g 7 rfl) (.k (.g 8 rfl) .n)) rfl rfl (by kernel_rfl)) (.k (cal .k Try.func83 rfl (fn_times2 (Bd.mono (show Bd 2 (2) by decide) (by decide)) (Bd.mono h3 (by decide))) (.k (.g 9 rfl) .n)) (.k (cal .k Try.func23 rfl (fn_DivMod (tN (Bd.add (Bd.mul (show Bd 2 (2) by decide) h2) h3) (by decide)) (tN (Bd.mul (show Bd 2 (2) by decide) h3) (by decide)) (by omega)) (.k (.g 6 rfl) (.k (.g 10 rfl) .n))) (.k (mv .k (.g 11 rfl)) (.k (exx .k (.g 12 rfl) rfl) (.k (exx .k (.g 12 rfl) rfl) (.k (exx .k (.g 12 rfl) rfl) (.k (ala .k zW) (.k (ala .k zW) (.k (sta .k (.g 16 rfl) (.g 13 rfl) tyW) (.k (sta .k (.g 17 rfl) (.g 14 rfl) tyW) (.k (asg .k (.g 15 rfl)) .n))))))))))))))))))))) [0] [18] rfl rfl ?_
 refine Tr.ds hmx [] (.k (ld .k (.b 1 rfl) tyW) (.k (mv .k (.b 0 rfl)) (.k (cal .k Try.func38 rfl (fn_Of (lN h1 (by decide)).1 (lN h1 (by decide)).2) (.k (.g 1 rfl) .n)) (.k (mkrow .k rwW (.k (.g 0 rfl) (.k (.g 2 rfl) .n)) rfl rfl (by kernel_rfl)) (.k (cal .k Try.func82 rfl (fn_sum2 (Bd.mono (Bd.div (Bd.add (Bd.mul (show Bd 2 (2) by decide) h2) h3)) (by decide)) (Bd.mono h1 (by decide))) (.k (.g 3 rfl) .n)) (.k (cal .k Try.func41 rfl (fn_IntT (tN (Bd.add (Bd.div (Bd.add (Bd.mul (show Bd 2 (2) by decide) h2) h3)) h1) (by decide)) hz) (.k (.g 4 rfl) .n)) (.k (mv .k (.g 5 rfl)) (.k (exx .k (.g 6 rfl) rfl) (.k (exx .k (.g 6 rfl) rfl) (.k (asg .k (.g 7 rfl)) (.k (asg .k (.g 8 rfl)) .n))))))))))) [] [9, 10] rfl rfl ?_
 refine Tr.rs [] (.k (mv .k (.b 0 rfl)) (.k (mv .k (.b 1 rfl)) (.k (eq_ .k (.g 1 rfl) .c (rfl : ((0 : Int) == 0) = true)) (.k (asg .k (.g 0 rfl)) (.k (asg .k (.g 2 rfl)) .n))))) [] [3, 4] rfl rfl ?_
 refine Tr.ret (end_tmp2 0 1 rfl rfl rfl)
set_option maxRecDepth 100000 in
theorem fn_nearF {add a b : Int} (h1 : Bd 33 add) (h2 : Bd 110 a) (h3 : Bd 80 b) (h0 : b ≠ 0) (hz : ¬ i64P (nearZ add a b)) : FnC Try.prog 89 [iv add, .is (wv a), .is (wv b)] (.tup [iv 0, bv false]) := by
 refine FnC.of (N := 43) Try.func89 rfl rfl (Nat.le_of_ble_eq_true rfl) (fun w0 ok0 => ?_)
 refine Tr.rs [] (.k (bxx .k (.b 1 rfl)) (.k (bxx .k (.b 2 rfl)) (.k (asg .k .c) (.k (asg .k .c) .n)))) [0] [0, 1] rfl rfl ?_
 refine Tr.rs [] (.k (cal .k Try.func38 rfl (fn_Of (lN (show Bd 2 (2) by decide) (by decide)).1 (lN (show Bd 2 (2) by decide) (by decide)).2) (.k .c .n)) (.k (ala .k zW) (.k (sta .k (.g 1 rfl) (.g 0 rfl) tyW) .n))) [0, 1, 2] [2] rfl rfl ?_
 refine Tr.ds hmx [] (.k (ld .k (.b 3 rfl) tyW) (.k (ld .k (.b 1 rfl) tyW) (.k (mkrow .k rwW (.k (.g 0 rfl) (.k (.g 1 rfl) .n)) rfl rfl (by kernel_rfl)) (.k (cal .k Try.func83 rfl (fn_times2 (Bd.mono (show Bd 2 (2) by decide) (by decide)) (Bd.mono h2 (by decide))) (.k (.g 2 rfl) .n)) (.k (ld .k (.b 2 rfl) tyW) (.k (mkrow .k rwW (.k (.g 3 rfl) (.k (.g 4 rfl) .n)) rfl rfl (by kernel_rfl)) (.k (cal .k Try.func82 rfl (fn_sum2 (Bd.mono (Bd.mul (show Bd 2 (2) by decide) h2) (by decide)) (Bd.mono h3 (by decide))) (.k (.g 5 rfl) .n)) (.k (ld .k (.b 3 rfl) tyW) (.k (ld .k (.b 2 rfl) tyW) (.k (mkrow .k rwW (.k (.g 7 rfl) (.k (.g 8 rfl) .n)) rfl rfl (by kernel_rfl)) (.k (cal .k Try.func83 rfl (fn_times2 (Bd.mono (show Bd 2 (2) by decide) (by decide)) (Bd.mono h3 (by decide))) (.k (.g 9 rfl) .n)) (.k (cal .k Try.func23 rfl (fn_DivMod (tN (Bd.add (Bd.mul (show Bd 2 (2) by decide) h2) h3) (by decide)) (tN (Bd.mul (show Bd 2 (2) by decide) h3) (by decide)) (by omega)) (.k (.g 6 rfl) (.k (.g 10 rfl) .n))) (.k (mv .k (.g 11 rfl)) (.k (exx .k (.g 12 rfl) rfl) (.k (exx .k (.g 12 rfl) rfl) (.k (exx .k (.g 12 rfl) rfl) (.k (ala .k zW) (.k (ala .k zW) (.k (sta .k (.g 16 rfl) (.g 13 rfl) tyW) (.k (sta .k (.g 17 rfl) (.g 14 rfl) tyW) (.k (asg .k (.g 15 rfl)) .n))))))))))))))))))))) [0] [18] rfl rfl ?_
 refine Tr.ds hmx [] (.k (ld .k (.b 1 rfl) tyW) (.k (mv .k (.b 0 rfl)) (.k (cal .k Try.func38 rfl (fn_Of (lN h1 (by decide)).1 (lN h1 (by decide)).2) (.k (.g 1 rfl) .n)) (.k (mkrow .k rwW (.k (.g 0 rfl) (.k (.g 2 rfl) .n)) rfl rfl (by kernel_rfl)) (.k (cal .k Try.func82 rfl (fn_sum2 (Bd.mono (Bd.div (Bd.add (Bd.mul (show Bd 2 (2) by decide) h2) h3)) (by decide)) (Bd.mono h1 (by decide))) (.k (.g 3 rfl) .n)) (.k (cal .k Try.func41 rfl (fn_IntF (tN (Bd.add (Bd.div (Bd.add (Bd.mul (show Bd 2 (2) by decide) h2) h3)) h1) (by decide)) hz) (.k (.g 4 rfl) .n)) (.k (mv .k (.g 5 rfl)) (.k (exx .k (.g 6 rfl) rfl) (.k (exx .k (.g 6 rfl) rfl) (.k (asg .k (.g 7 rfl)) (.k (asg .k (.g 8 rfl)) .n))))))))))) [] [9, 10] rfl rfl ?_
 refine Tr.rs [] (.k (mv .k (.b 0 rfl)) (.k (mv .k (.b 1 rfl)) (.k (eq_ .k (.g 1 rfl) .c (rfl : ((10 : Int) == 0) = false)) (.k (asg .k (.g 0 rfl)) (.k (asg .k (.g 2 rfl)) .n))))) [] [3, 4] rfl rfl ?_
 refine Tr.ret (end_tmp2 0 1 rfl rfl rfl)
open Classical in
theorem fn_near {add a b : Int} (h1 : Bd 33 add) (h2 : Bd 110 a) (h3 : Bd 80 b) (h0 : b ≠ 0) : FnC Try.prog 89 [iv add, .is (wv a), .is (wv b)] (.tup [iv (if i64P (nearZ add a b) then nearZ add a b else 0), bv (decide (i64P (nearZ add a b)))]) := by
  by_cases hz : i64P (nearZ add a b)
  · rw [if_pos hz, decide_eq_true hz]; exact fn_nearT h1 h2 h3 h0 hz
  · rw [if_neg hz, decide_eq_false hz]; exact fn_nearF h1 h2 h3 h0 hz
def cxZ (ax ay ux uy vx vy : Int) : Int := sqZ (ux - ax) (uy - ay) * (vy - ay) + -(sqZ (vx - ax) (vy - ay) * (uy - ay))
def cyZ (ax ay ux uy vx vy : Int) : Int := sqZ (vx - ax) (vy - ay) * (ux - ax) + -(sqZ (ux - ax) (uy - ay) * (vx - ax))
def oxZ (ax ay ux uy vx vy : Int) : Int := nearZ ax (cxZ ax ay ux uy vx vy) (2 * turZ ax ay ux uy vx vy)
def oyZ (ax ay ux uy vx vy : Int) : Int := nearZ ay (cyZ ax ay ux uy vx vy) (2 * turZ ax ay ux uy vx vy)
theorem cx_bd {ax ay ux uy vx vy : Int} (ha : fit ax ay) (hu : fit ux uy) (hv : fit vx vy) : Bd 110 (cxZ ax ay ux uy vx vy) := (Bd.add (Bd.mul (way_bd ha hu) (Bd.sub hv.y ha.y)) (Bd.neg (Bd.mul (way_bd ha hv) (Bd.sub hu.y ha.y)))).mono (by decide)
theorem cy_bd {ax ay ux uy vx vy : Int} (ha : fit ax ay) (hu : fit ux uy) (hv : fit vx vy) : Bd 110 (cyZ ax ay ux uy vx vy) := (Bd.add (Bd.mul (way_bd ha hv) (Bd.sub hu.x ha.x)) (Bd.neg (Bd.mul (way_bd ha hu) (Bd.sub hv.x ha.x)))).mono (by decide)
theorem cd_bd {ax ay ux uy vx vy : Int} (ha : fit ax ay) (hu : fit ux uy) (hv : fit vx vy) : Bd 80 (2 * turZ ax ay ux uy vx vy) := (Bd.mul (show Bd 2 2 by decide) (tur_bd ha hu hv)).mono (by decide)
theorem fit_i64 {x y : Int} (h : fit x y) : i64P x ∧ i64P y := by unfold fit at h; unfold i64P; omega
theorem fit1 {x y : Int} (h : fit x y) : [(x, y)].all fitP = true := by simpa [fitP] using h
theorem fit1n {x y : Int} (h : ¬ fit x y) : [(x, y)].all fitP = false := by simpa [fitP] using h
theorem turZ_area (ax ay bx b_y cx cy : Int) : turZ ax ay bx b_y cx cy = areaZ ax ay bx b_y cx cy := by unfold turZ tuZ areaZ; omega
theorem area_swap (ax ay bx b_y cx cy : Int) : areaZ ax ay cx cy bx b_y = -areaZ ax ay bx b_y cx cy := by
  unfold areaZ
  rw [Int.mul_comm (cx - ax), Int.mul_comm (cy - ay)]
  omega
set_option maxRecDepth 100000 in
theorem fn_CentreN {ax ay bx b_y cx cy : Int} (hno : [(ax, ay), (bx, b_y), (cx, cy)].all fitP = false ∨ [(ax, ay), (bx, b_y), (cx, cy)].all fitP = true ∧ areaZ ax ay bx b_y cx cy = 0) : FnC Try.prog 53 [.is (ptv ax ay), .is (ptv bx b_y), .is (ptv cx cy)] (.tup [.is (ptv 0 0), iv 2]) := by
 refine FnC.of (N := 118) Try.func53 rfl rfl (Nat.le_of_ble_eq_true rfl) (fun w0 ok0 => ?_)
 refine Tr.rs [] (.k (bxx .k (.b 0 rfl)) (.k (bxx .k (.b 1 rfl)) (.k (bxx .k (.b 2 rfl)) (.k (alc .k zP) (.k (asg .k .c) .n))))) [] [0, 1, 2, 3] rfl rfl ?_
 rcases hno with hF | ⟨hF, s1⟩
 ·
  refine Tr.seq (Tr.rs [] (.k (ld .k (.b 0 rfl) tyP) (.k (ld .k (.b 1 rfl) tyP) (.k (ld .k (.b 2 rfl) tyP) (.k (mkrow .k rwP (.k (.g 0 rfl) (.k (.g 1 rfl) (.k (.g 2 rfl) .n))) rfl rfl (by kernel_rfl)) (.k (cal .k Try.func58 rfl (hF ▸ fn_Fits [(_, _), (_, _), (_, _)] (by simp)) (.k (.g 3 rfl) .n)) (.k (not_ .k (.g 4 rfl)) (.k (mv .k (.g 5 rfl)) (.k (skp (.on (.g 6 rfl) rfl rfl)) (.k (skp (.on (.g 6 rfl) rfl rfl)) (.k (skp (.on (.g 6 rfl) rfl rfl)) (.k (skp (.on (.g 6 rfl) rfl rfl)) (.k (skp (.on (.g 6 rfl) rfl rfl)) (.k (pickT .k (.g 6 rfl) .c) .n))))))))))))) [0, 1, 2, 3] [12] rfl rfl ?_)
  refine Tr.cond 4 rfl (fun _ => ?_) nofun
  refine Tr.rs [(3, 1)] (.k (bld .k .n bP0 (aP 0 0)) (.k (sto .k (.b 3 rfl) (.g 0 rfl) tyP) (.k (asg .k .c) .n))) [] [1, 2] rfl rfl ?_
  refine Tr.ret (end_cell_tmp 0 1 rfl rfl rfl tyP)
 ·
  obtain ⟨f1, f2, f3⟩ := fit3 hF
  have s2 : sgn (areaZ ax ay bx b_y cx cy) = 0 := sgn_eq.2 s1
  refine Tr.seq (Tr.rs [] (.k (ld .k (.b 0 rfl) tyP) (.k (ld .k (.b 1 rfl) tyP) (.k (ld .k (.b 2 rfl) tyP) (.k (mkrow .k rwP (.k (.g 0 rfl) (.k (.g 1 rfl) (.k (.g 2 rfl) .n))) rfl rfl (by kernel_rfl)) (.k (cal .k Try.func58 rfl (hF ▸ fn_Fits [(_, _), (_, _), (_, _)] (by simp)) (.k (.g 3 rfl) .n)) (.k (not_ .k (.g 4 rfl)) (.k (mv .k (.g 5 rfl)) (.k (ld (.on (.g 6 rfl) rfl rfl) (.b 0 rfl) tyP) (.k (ld (.on (.g 6 rfl) rfl rfl) (.b 1 rfl) tyP) (.k (ld (.on (.g 6 rfl) rfl rfl) (.b 2 rfl) tyP) (.k (cal (.on (.g 6 rfl) rfl rfl) Try.func80 rfl (fn_orient f1.x f1.y f2.x f2.y f3.x f3.y) (.k (.g 7 rfl) (.k (.g 8 rfl) (.k (.g 9 rfl) .n)))) (.k (eq_ (.on (.g 6 rfl) rfl rfl) (.g 10 rfl) .c (show (_ == (0 : Int)) = true by simpa using s2)) (.k (pickF .k (.g 6 rfl) (.g 11 rfl)) .n))))))))))))) [0, 1, 2, 3] [12] rfl rfl ?_)
  refine Tr.cond 4 rfl (fun _ => ?_) nofun
  refine Tr.rs [(3, 1)] (.k (bld .k .n bP0 (aP 0 0)) (.k (sto .k (.b 3 rfl) (.g 0 rfl) tyP) (.k (asg .k .c) .n))) [] [1, 2] rfl rfl ?_
  refine Tr.ret (end_cell_tmp 0 1 rfl rfl rfl tyP)
set_option maxRecDepth 100000 in
theorem fn_CentreY {ax ay bx b_y cx cy ux uy vx vy : Int} (hF : [(ax, ay), (bx, b_y), (cx, cy)].all fitP = true) (hne : areaZ ax ay bx b_y cx cy ≠ 0) (f1 : fit ax ay) (f2 : fit bx b_y) (f3 : fit cx cy) (fu : fit ux uy) (fv : fit vx vy) (hd : 2 * turZ ax ay ux uy vx vy ≠ 0) (hs : areaZ ax ay bx b_y cx cy > 0 ∧ ux = bx ∧ uy = b_y ∧ vx = cx ∧ vy = cy ∨ areaZ ax ay bx b_y cx cy < 0 ∧ ux = cx ∧ uy = cy ∧ vx = bx ∧ vy = b_y) : FnC Try.prog 53 [.is (ptv ax ay), .is (ptv bx b_y), .is (ptv cx cy)] (.tup [.is (ptv (if fit (oxZ ax ay ux uy vx vy) (oyZ ax ay ux uy vx vy) then oxZ ax ay ux uy vx vy else 0) (if fit (oxZ ax ay ux uy vx vy) (oyZ ax ay ux uy vx vy) then oyZ ax ay ux uy vx vy else 0)), iv (if fit (oxZ ax ay ux uy vx vy) (oyZ ax ay ux uy vx vy) then 0 else 10)]) := by
 refine FnC.of (N := 118) Try.func53 rfl rfl (Nat.le_of_ble_eq_true rfl) (fun w0 ok0 => ?_)
 refine Tr.rs [] (.k (bxx .k (.b 0 rfl)) (.k (bxx .k (.b 1 rfl)) (.k (bxx .k (.b 2 rfl)) (.k (alc .k zP) (.k (asg .k .c) .n))))) [] [0, 1, 2, 3] rfl rfl ?_
 have hF0 := hF
 have s2 : ¬ sgn (areaZ ax ay bx b_y cx cy) = 0 := fun h => hne (sgn_eq.1 h)
 refine Tr.seq (Tr.rs [] (.k (ld .k (.b 0 rfl) tyP) (.k (ld .k (.b 1 rfl) tyP) (.k (ld .k (.b 2 rfl) tyP) (.k (mkrow .k rwP (.k (.g 0 rfl) (.k (.g 1 rfl) (.k (.g 2 rfl) .n))) rfl rfl (by kernel_rfl)) (.k (cal .k Try.func58 rfl (hF ▸ fn_Fits [(_, _), (_, _), (_, _)] (by simp)) (.k (.g 3 rfl) .n)) (.k (not_ .k (.g 4 rfl)) (.k (mv .k (.g 5 rfl)) (.k (ld (.on (.g 6 rfl) rfl rfl) (.b 0 rfl) tyP) (.k (ld (.on (.g 6 rfl) rfl rfl) (.b 1 rfl) tyP) (.k (ld (.on (.g 6 rfl) rfl rfl) (.b 2 rfl) tyP) (.k (cal (.on (.g 6 rfl) rfl rfl) Try.func80 rfl (fn_orient f1.x f1.y f2.x f2.y f3.x f3.y) (.k (.g 7 rfl) (.k (.g 8 rfl) (.k (.g 9 rfl) .n)))) (.k (eq_ (.on (.g 6 rfl) rfl rfl) (.g 10 rfl) .c (show (_ == (0 : Int)) = false by simpa using s2)) (.k (pickF .k (.g 6 rfl) (.g 11 rfl)) .n))))))))))))) [0, 1, 2, 3] [12] rfl rfl ?_)
 refine Tr.cond 4 rfl nofun (fun _ => ?_)
 refine Tr.skip (Nx.go (Tr.cut [.b 3 (.is (ptv ax ay)) 65 2, .b 4 (.is (ptv ux uy)) 65 2, .b 5 (.is (ptv vx vy)) 65 2, .b 6 (.is (ptv 0 0)) 65 2] ?_ ?_))
 ·
  refine Tr.rs [] (.k (ld .k (.b 0 rfl) tyP) (.k (ld .k (.b 1 rfl) tyP) (.k (ld .k (.b 2 rfl) tyP) (.k (cal .k Try.func80 rfl (fn_orient f1.x f1.y f2.x f2.y f3.x f3.y) (.k (.g 0 rfl) (.k (.g 1 rfl) (.k (.g 2 rfl) .n)))) (.k (lt_ .k (.g 3 rfl) .c rfl) .n))))) [0, 1, 2, 3] [4] rfl rfl ?_
  refine Tr.cond 4 rfl (fun e36 => ?_) (fun e36 => ?_)
  ·
   refine Tr.reg [(1, 2), (2, 3)] (.k (ld .k (.b 2 rfl) tyP) (.k (ld .k (.b 1 rfl) tyP) (.k (sto .k (.b 1 rfl) (.g 0 rfl) tyP) (.k (sto .k (.b 2 rfl) (.g 1 rfl) tyP) .n)))) [0, 3] [2, 3] rfl rfl (?_)
   have ng := of_decide_eq_true e36
   rcases hs with ⟨h, _⟩ | ⟨_, rfl, rfl, rfl, rfl⟩
   · exact absurd ng (by rw [sgn_pos h]; decide)
   refine Nx.met _ (Sub.all (.cons 0 rfl (.cons 2 rfl (.cons 3 rfl (.cons 1 rfl .nil)))))
  ·
   refine Tr.skip (?_)
   have ng := of_decide_eq_false e36
   rcases hs with ⟨_, rfl, rfl, rfl, rfl⟩ | ⟨h, _⟩
   rotate_left
   · exact absurd (show sgn (areaZ ax ay bx b_y cx cy) < 0 by rw [sgn_neg h]; decide) ng
   refine Nx.met _ (Sub.all (.cons 0 rfl (.cons 1 rfl (.cons 2 rfl (.cons 3 rfl .nil)))))
 ·
  refine Tr.ds hmx [] (.k (ld .k (.b 0 rfl) tyP) (.k (ld .k (.b 1 rfl) tyP) (.k (cal .k Try.func81 rfl (fn_from f1.x f1.y fu.x fu.y) (.k (.g 0 rfl) (.k (.g 1 rfl) .n))) (.k (ld .k (.b 0 rfl) tyP) (.k (ld .k (.b 2 rfl) tyP) (.k (cal .k Try.func81 rfl (fn_from f1.x f1.y fv.x fv.y) (.k (.g 3 rfl) (.k (.g 4 rfl) .n))) (.k (ala .k zP) (.k (ala .k zP) (.k (sta .k (.g 6 rfl) (.g 2 rfl) tyP) (.k (sta .k (.g 7 rfl) (.g 5 rfl) tyP) .n)))))))))) [0, 3] [8, 9] rfl rfl ?_
  refine Tr.ds hmx [] (.k (cal .k Try.func38 rfl (fn_Of (lN (show Bd 2 (2) by decide) (by decide)).1 (lN (show Bd 2 (2) by decide) (by decide)).2) (.k .c .n)) (.k (ld .k (.b 2 rfl) tyP) (.k (ld .k (.b 3 rfl) tyP) (.k (cal .k Try.func85 rfl (fn_tur f1 fu fv) (.k (.g 1 rfl) (.k (.g 2 rfl) .n))) (.k (mkrow .k rwW (.k (.g 0 rfl) (.k (.g 3 rfl) .n)) rfl rfl (by kernel_rfl)) (.k (cal .k Try.func83 rfl (fn_times2 (Bd.mono (show Bd 2 (2) by decide) (by decide)) (Bd.mono (tur_bd f1 fu fv) (by decide))) (.k (.g 4 rfl) .n)) (.k (ala .k zW) (.k (sta .k (.g 6 rfl) (.g 5 rfl) tyW) .n)))))))) [0, 1, 2, 3] [7] rfl rfl ?_
  refine Tr.ds hmx [] (.k (ld .k (.b 2 rfl) tyP) (.k (cal .k Try.func84 rfl (fn_way f1 fu) (.k (.g 0 rfl) .n)) (.k (faddr .k (.b 3 rfl) rfl fPY) (.k (ldc .k (.g 2 rfl) (.b 3 rfl) tyI) (.k (cal .k Try.func38 rfl (fn_Of (lN (Bd.sub fv.y f1.y) (by decide)).1 (lN (Bd.sub fv.y f1.y) (by decide)).2) (.k (.g 3 rfl) .n)) (.k (mkrow .k rwW (.k (.g 1 rfl) (.k (.g 4 rfl) .n)) rfl rfl (by kernel_rfl)) (.k (cal .k Try.func83 rfl (fn_times2 (Bd.mono (way_bd f1 fu) (by decide)) (Bd.mono (Bd.sub fv.y f1.y) (by decide))) (.k (.g 5 rfl) .n)) (.k (ld .k (.b 3 rfl) tyP) (.k (cal .k Try.func84 rfl (fn_way f1 fv) (.k (.g 7 rfl) .n)) (.k (faddr .k (.b 2 rfl) rfl fPY) (.k (ldc .k (.g 9 rfl) (.b 2 rfl) tyI) (.k (cal .k Try.func38 rfl (fn_Of (lN (Bd.sub fu.y f1.y) (by decide)).1 (lN (Bd.sub fu.y f1.y) (by decide)).2) (.k (.g 10 rfl) .n)) (.k (mkrow .k rwW (.k (.g 8 rfl) (.k (.g 11 rfl) .n)) rfl rfl (by kernel_rfl)) (.k (cal .k Try.func83 rfl (fn_times2 (Bd.mono (way_bd f1 fv) (by decide)) (Bd.mono (Bd.sub fu.y f1.y) (by decide))) (.k (.g 12 rfl) .n)) (.k (cal .k Try.func39 rfl (fn_Neg (tN (Bd.mul (way_bd f1 fv) (Bd.sub fu.y f1.y)) (by decide))) (.k (.g 13 rfl) .n)) (.k (mkrow .k rwW (.k (.g 6 rfl) (.k (.g 14 rfl) .n)) rfl rfl (by kernel_rfl)) (.k (cal .k Try.func82 rfl (fn_sum2 (Bd.mono (Bd.mul (way_bd f1 fu) (Bd.sub fv.y f1.y)) (by decide)) (Bd.mono (Bd.neg (Bd.mul (way_bd f1 fv) (Bd.sub fu.y f1.y))) (by decide))) (.k (.g 15 rfl) .n)) (.k (ala .k zW) (.k (sta .k (.g 17 rfl) (.g 16 rfl) tyW) .n))))))))))))))))))) [0, 1, 2, 3, 4] [18] rfl rfl ?_
  refine Tr.ds hmx [] (.k (ld .k (.b 3 rfl) tyP) (.k (cal .k Try.func84 rfl (fn_way f1 fv) (.k (.g 0 rfl) .n)) (.k (faddr .k (.b 2 rfl) rfl fPX) (.k (ldc .k (.g 2 rfl) (.b 2 rfl) tyI) (.k (cal .k Try.func38 rfl (fn_Of (lN (Bd.sub fu.x f1.x) (by decide)).1 (lN (Bd.sub fu.x f1.x) (by decide)).2) (.k (.g 3 rfl) .n)) (.k (mkrow .k rwW (.k (.g 1 rfl) (.k (.g 4 rfl) .n)) rfl rfl (by kernel_rfl)) (.k (cal .k Try.func83 rfl (fn_times2 (Bd.mono (way_bd f1 fv) (by decide)) (Bd.mono (Bd.sub fu.x f1.x) (by decide))) (.k (.g 5 rfl) .n)) (.k (ld .k (.b 2 rfl) tyP) (.k (cal .k Try.func84 rfl (fn_way f1 fu) (.k (.g 7 rfl) .n)) (.k (faddr .k (.b 3 rfl) rfl fPX) (.k (ldc .k (.g 9 rfl) (.b 3 rfl) tyI) (.k (cal .k Try.func38 rfl (fn_Of (lN (Bd.sub fv.x f1.x) (by decide)).1 (lN (Bd.sub fv.x f1.x) (by decide)).2) (.k (.g 10 rfl) .n)) (.k (mkrow .k rwW (.k (.g 8 rfl) (.k (.g 11 rfl) .n)) rfl rfl (by kernel_rfl)) (.k (cal .k Try.func83 rfl (fn_times2 (Bd.mono (way_bd f1 fu) (by decide)) (Bd.mono (Bd.sub fv.x f1.x) (by decide))) (.k (.g 12 rfl) .n)) (.k (cal .k Try.func39 rfl (fn_Neg (tN (Bd.mul (way_bd f1 fu) (Bd.sub fv.x f1.x)) (by decide))) (.k (.g 13 rfl) .n)) (.k (mkrow .k rwW (.k (.g 6 rfl) (.k (.g 14 rfl) .n)) rfl rfl (by kernel_rfl)) (.k (cal .k Try.func82 rfl (fn_sum2 (Bd.mono (Bd.mul (way_bd f1 fv) (Bd.sub fu.x f1.x)) (by decide)) (Bd.mono (Bd.neg (Bd.mul (way_bd f1 fu) (Bd.sub fv.x f1.x))) (by decide))) (.k (.g 15 rfl) .n)) (.k (ala .k zW) (.k (sta .k (.g 17 rfl) (.g 16 rfl) tyW) .n))))))))))))))))))) [0, 1, 4, 5] [18] rfl rfl ?_
  rcases (show ¬ i64P (oxZ ax ay ux uy vx vy) ∧ ¬ fit (oxZ ax ay ux uy vx vy) (oyZ ax ay ux uy vx vy) ∨ i64P (oxZ ax ay ux uy vx vy) ∧ ¬ i64P (oyZ ax ay ux uy vx vy) ∧ ¬ fit (oxZ ax ay ux uy vx vy) (oyZ ax ay ux uy vx vy) ∨ i64P (oxZ ax ay ux uy vx vy) ∧ i64P (oyZ ax ay ux uy vx vy) ∧ ¬ fit (oxZ ax ay ux uy vx vy) (oyZ ax ay ux uy vx vy) ∨ i64P (oxZ ax ay ux uy vx vy) ∧ i64P (oyZ ax ay ux uy vx vy) ∧ fit (oxZ ax ay ux uy vx vy) (oyZ ax ay ux uy vx vy) by by_cases c1 : fit (oxZ ax ay ux uy vx vy) (oyZ ax ay ux uy vx vy); (exact .inr (.inr (.inr ⟨(fit_i64 c1).1, (fit_i64 c1).2, c1⟩))); by_cases c2 : i64P (oxZ ax ay ux uy vx vy); (by_cases c3 : i64P (oyZ ax ay ux uy vx vy); (exact .inr (.inr (.inl ⟨c2, c3, c1⟩))); exact .inr (.inl ⟨c2, c3, c1⟩)); exact .inl ⟨c2, c1⟩) with ⟨i1, ff⟩ | ⟨i1, i2, ff⟩ | ⟨i1, i2, ff⟩ | ⟨i1, i2, ff⟩
  ·
   refine Tr.rs [] (.k (faddr .k (.b 0 rfl) rfl fPX) (.k (ldc .k (.g 0 rfl) (.b 0 rfl) tyI) (.k (ld .k (.b 3 rfl) tyW) (.k (ld .k (.b 2 rfl) tyW) (.k (cal .k Try.func89 rfl (fn_nearF f1.x (cx_bd f1 fu fv) (cd_bd f1 fu fv) hd i1) (.k (.g 1 rfl) (.k (.g 2 rfl) (.k (.g 3 rfl) .n)))) (.k (mv .k (.g 4 rfl)) (.k (exx .k (.g 5 rfl) rfl) (.k (exx .k (.g 5 rfl) rfl) (.k (asg .k (.g 6 rfl)) (.k (asg .k (.g 7 rfl)) .n)))))))))) [0, 1, 2, 4] [8, 9] rfl rfl ?_
   refine Tr.rs [] (.k (faddr .k (.b 0 rfl) rfl fPY) (.k (ldc .k (.g 0 rfl) (.b 0 rfl) tyI) (.k (ld .k (.b 3 rfl) tyW) (.k (ld .k (.b 2 rfl) tyW) (.k (cal .k Try.func89 rfl (fn_near f1.y (cy_bd f1 fu fv) (cd_bd f1 fu fv) hd) (.k (.g 1 rfl) (.k (.g 2 rfl) (.k (.g 3 rfl) .n)))) (.k (mv .k (.g 4 rfl)) (.k (exx .k (.g 5 rfl) rfl) (.k (exx .k (.g 5 rfl) rfl) (.k (asg .k (.g 6 rfl)) (.k (asg .k (.g 7 rfl)) .n)))))))))) [1, 4, 5] [8, 9] rfl rfl ?_
   refine Tr.rs [] (.k (mv .k (.b 1 rfl)) (.k (mv .k (.b 3 rfl)) (.k (bld .k (.k (.g 0 rfl) (.k (.g 1 rfl) .n)) (bP _ _) (aP _ _)) (.k (ala .k zP) (.k (sta .k (.g 3 rfl) (.g 2 rfl) tyP) .n))))) [0, 2, 4] [4] rfl rfl ?_
   refine Tr.seq (Tr.rs [] (.k (mv .k (.b 1 rfl)) (.k (not_ .k (.g 0 rfl)) (.k (mv .k (.g 1 rfl)) (.k (skp (.on (.g 2 rfl) rfl rfl)) (.k (skp (.on (.g 2 rfl) rfl rfl)) (.k (pickT .k (.g 2 rfl) .c) (.k (mv .k (.g 5 rfl)) (.k (skp (.on (.g 6 rfl) rfl rfl)) (.k (skp (.on (.g 6 rfl) rfl rfl)) (.k (skp (.on (.g 6 rfl) rfl rfl)) (.k (skp (.on (.g 6 rfl) rfl rfl)) (.k (pickT .k (.g 6 rfl) .c) .n)))))))))))) [0, 3] [11] rfl rfl ?_)
   refine Tr.cond 2 rfl (fun _ => ?_) nofun
   rw [if_neg ff, if_neg ff, if_neg ff]
   refine Tr.rs [(0, 1)] (.k (bld .k .n bP0 (aP 0 0)) (.k (sto .k (.b 0 rfl) (.g 0 rfl) tyP) (.k (asg .k .c) .n))) [] [1, 2] rfl rfl ?_
   refine Tr.ret (end_cell_tmp 0 1 rfl rfl rfl tyP)
  ·
   refine Tr.rs [] (.k (faddr .k (.b 0 rfl) rfl fPX) (.k (ldc .k (.g 0 rfl) (.b 0 rfl) tyI) (.k (ld .k (.b 3 rfl) tyW) (.k (ld .k (.b 2 rfl) tyW) (.k (cal .k Try.func89 rfl (fn_nearT f1.x (cx_bd f1 fu fv) (cd_bd f1 fu fv) hd i1) (.k (.g 1 rfl) (.k (.g 2 rfl) (.k (.g 3 rfl) .n)))) (.k (mv .k (.g 4 rfl)) (.k (exx .k (.g 5 rfl) rfl) (.k (exx .k (.g 5 rfl) rfl) (.k (asg .k (.g 6 rfl)) (.k (asg .k (.g 7 rfl)) .n)))))))))) [0, 1, 2, 4] [8, 9] rfl rfl ?_
   refine Tr.rs [] (.k (faddr .k (.b 0 rfl) rfl fPY) (.k (ldc .k (.g 0 rfl) (.b 0 rfl) tyI) (.k (ld .k (.b 3 rfl) tyW) (.k (ld .k (.b 2 rfl) tyW) (.k (cal .k Try.func89 rfl (fn_nearF f1.y (cy_bd f1 fu fv) (cd_bd f1 fu fv) hd i2) (.k (.g 1 rfl) (.k (.g 2 rfl) (.k (.g 3 rfl) .n)))) (.k (mv .k (.g 4 rfl)) (.k (exx .k (.g 5 rfl) rfl) (.k (exx .k (.g 5 rfl) rfl) (.k (asg .k (.g 6 rfl)) (.k (asg .k (.g 7 rfl)) .n)))))))))) [1, 4, 5] [8, 9] rfl rfl ?_
   refine Tr.rs [] (.k (mv .k (.b 1 rfl)) (.k (mv .k (.b 3 rfl)) (.k (bld .k (.k (.g 0 rfl) (.k (.g 1 rfl) .n)) (bP _ _) (aP _ _)) (.k (ala .k zP) (.k (sta .k (.g 3 rfl) (.g 2 rfl) tyP) .n))))) [0, 2, 4] [4] rfl rfl ?_
   refine Tr.seq (Tr.rs [] (.k (mv .k (.b 1 rfl)) (.k (not_ .k (.g 0 rfl)) (.k (mv .k (.g 1 rfl)) (.k (mv (.on (.g 2 rfl) rfl rfl) (.b 2 rfl)) (.k (not_ (.on (.g 2 rfl) rfl rfl) (.g 3 rfl)) (.k (pickF .k (.g 2 rfl) (.g 4 rfl)) (.k (mv .k (.g 5 rfl)) (.k (skp (.on (.g 6 rfl) rfl rfl)) (.k (skp (.on (.g 6 rfl) rfl rfl)) (.k (skp (.on (.g 6 rfl) rfl rfl)) (.k (skp (.on (.g 6 rfl) rfl rfl)) (.k (pickT .k (.g 6 rfl) .c) .n)))))))))))) [0, 3] [11] rfl rfl ?_)
   refine Tr.cond 2 rfl (fun _ => ?_) nofun
   rw [if_neg ff, if_neg ff, if_neg ff]
   refine Tr.rs [(0, 1)] (.k (bld .k .n bP0 (aP 0 0)) (.k (sto .k (.b 0 rfl) (.g 0 rfl) tyP) (.k (asg .k .c) .n))) [] [1, 2] rfl rfl ?_
   refine Tr.ret (end_cell_tmp 0 1 rfl rfl rfl tyP)
  ·
   refine Tr.rs [] (.k (faddr .k (.b 0 rfl) rfl fPX) (.k (ldc .k (.g 0 rfl) (.b 0 rfl) tyI) (.k (ld .k (.b 3 rfl) tyW) (.k (ld .k (.b 2 rfl) tyW) (.k (cal .k Try.func89 rfl (fn_nearT f1.x (cx_bd f1 fu fv) (cd_bd f1 fu fv) hd i1) (.k (.g 1 rfl) (.k (.g 2 rfl) (.k (.g 3 rfl) .n)))) (.k (mv .k (.g 4 rfl)) (.k (exx .k (.g 5 rfl) rfl) (.k (exx .k (.g 5 rfl) rfl) (.k (asg .k (.g 6 rfl)) (.k (asg .k (.g 7 rfl)) .n)))))))))) [0, 1, 2, 4] [8, 9] rfl rfl ?_
   refine Tr.rs [] (.k (faddr .k (.b 0 rfl) rfl fPY) (.k (ldc .k (.g 0 rfl) (.b 0 rfl) tyI) (.k (ld .k (.b 3 rfl) tyW) (.k (ld .k (.b 2 rfl) tyW) (.k (cal .k Try.func89 rfl (fn_nearT f1.y (cy_bd f1 fu fv) (cd_bd f1 fu fv) hd i2) (.k (.g 1 rfl) (.k (.g 2 rfl) (.k (.g 3 rfl) .n)))) (.k (mv .k (.g 4 rfl)) (.k (exx .k (.g 5 rfl) rfl) (.k (exx .k (.g 5 rfl) rfl) (.k (asg .k (.g 6 rfl)) (.k (asg .k (.g 7 rfl)) .n)))))))))) [1, 4, 5] [8, 9] rfl rfl ?_
   refine Tr.rs [] (.k (mv .k (.b 1 rfl)) (.k (mv .k (.b 3 rfl)) (.k (bld .k (.k (.g 0 rfl) (.k (.g 1 rfl) .n)) (bP _ _) (aP _ _)) (.k (ala .k zP) (.k (sta .k (.g 3 rfl) (.g 2 rfl) tyP) .n))))) [0, 2, 4] [4] rfl rfl ?_
   refine Tr.seq (Tr.rs [] (.k (mv .k (.b 1 rfl)) (.k (not_ .k (.g 0 rfl)) (.k (mv .k (.g 1 rfl)) (.k (mv (.on (.g 2 rfl) rfl rfl) (.b 2 rfl)) (.k (not_ (.on (.g 2 rfl) rfl rfl) (.g 3 rfl)) (.k (pickF .k (.g 2 rfl) (.g 4 rfl)) (.k (mv .k (.g 5 rfl)) (.k (ld (.on (.g 6 rfl) rfl rfl) (.b 3 rfl) tyP) (.k (mkrow (.on (.g 6 rfl) rfl rfl) rwP (.k (.g 7 rfl) .n) rfl rfl (by kernel_rfl)) (.k (cal (.on (.g 6 rfl) rfl rfl) Try.func58 rfl (fit1n ff ▸ fn_Fits [(oxZ ax ay ux uy vx vy, oyZ ax ay ux uy vx vy)] (by simp)) (.k (.g 8 rfl) .n)) (.k (not_ (.on (.g 6 rfl) rfl rfl) (.g 9 rfl)) (.k (pickF .k (.g 6 rfl) (.g 10 rfl)) .n)))))))))))) [0, 3] [11] rfl rfl ?_)
   refine Tr.cond 2 rfl (fun _ => ?_) nofun
   rw [if_neg ff, if_neg ff, if_neg ff]
   refine Tr.rs [(0, 1)] (.k (bld .k .n bP0 (aP 0 0)) (.k (sto .k (.b 0 rfl) (.g 0 rfl) tyP) (.k (asg .k .c) .n))) [] [1, 2] rfl rfl ?_
   refine Tr.ret (end_cell_tmp 0 1 rfl rfl rfl tyP)
  ·
   refine Tr.rs [] (.k (faddr .k (.b 0 rfl) rfl fPX) (.k (ldc .k (.g 0 rfl) (.b 0 rfl) tyI) (.k (ld .k (.b 3 rfl) tyW) (.k (ld .k (.b 2 rfl) tyW) (.k (cal .k Try.func89 rfl (fn_nearT f1.x (cx_bd f1 fu fv) (cd_bd f1 fu fv) hd i1) (.k (.g 1 rfl) (.k (.g 2 rfl) (.k (.g 3 rfl) .n)))) (.k (mv .k (.g 4 rfl)) (.k (exx .k (.g 5 rfl) rfl) (.k (exx .k (.g 5 rfl) rfl) (.k (asg .k (.g 6 rfl)) (.k (asg .k (.g 7 rfl)) .n)))))))))) [0, 1, 2, 4] [8, 9] rfl rfl ?_
   refine Tr.rs [] (.k (faddr .k (.b 0 rfl) rfl fPY) (.k (ldc .k (.g 0 rfl) (.b 0 rfl) tyI) (.k (ld .k (.b 3 rfl) tyW) (.k (ld .k (.b 2 rfl) tyW) (.k (cal .k Try.func89 rfl (fn_nearT f1.y (cy_bd f1 fu fv) (cd_bd f1 fu fv) hd i2) (.k (.g 1 rfl) (.k (.g 2 rfl) (.k (.g 3 rfl) .n)))) (.k (mv .k (.g 4 rfl)) (.k (exx .k (.g 5 rfl) rfl) (.k (exx .k (.g 5 rfl) rfl) (.k (asg .k (.g 6 rfl)) (.k (asg .k (.g 7 rfl)) .n)))))))))) [1, 4, 5] [8, 9] rfl rfl ?_
   refine Tr.rs [] (.k (mv .k (.b 1 rfl)) (.k (mv .k (.b 3 rfl)) (.k (bld .k (.k (.g 0 rfl) (.k (.g 1 rfl) .n)) (bP _ _) (aP _ _)) (.k (ala .k zP) (.k (sta .k (.g 3 rfl) (.g 2 rfl) tyP) .n))))) [0, 2, 4] [4] rfl rfl ?_
   refine Tr.seq (Tr.rs [] (.k (mv .k (.b 1 rfl)) (.k (not_ .k (.g 0 rfl)) (.k (mv .k (.g 1 rfl)) (.k (mv (.on (.g 2 rfl) rfl rfl) (.b 2 rfl)) (.k (not_ (.on (.g 2 rfl) rfl rfl) (.g 3 rfl)) (.k (pickF .k (.g 2 rfl) (.g 4 rfl)) (.k (mv .k (.g 5 rfl)) (.k (ld (.on (.g 6 rfl) rfl rfl) (.b 3 rfl) tyP) (.k (mkrow (.on (.g 6 rfl) rfl rfl) rwP (.k (.g 7 rfl) .n) rfl rfl (by kernel_rfl)) (.k (cal (.on (.g 6 rfl) rfl rfl) Try.func58 rfl (fit1 ff ▸ fn_Fits [(oxZ ax ay ux uy vx vy, oyZ ax ay ux uy vx vy)] (by simp)) (.k (.g 8 rfl) .n)) (.k (not_ (.on (.g 6 rfl) rfl rfl) (.g 9 rfl)) (.k (pickF .k (.g 6 rfl) (.g 10 rfl)) .n)))))))))))) [0, 3] [11] rfl rfl ?_)
   refine Tr.cond 2 rfl nofun (fun _ => ?_)
   refine Tr.skip (Nx.go (?_))
   rw [if_pos ff, if_pos ff, if_pos ff]
   refine Tr.rs [(0, 1)] (.k (ld .k (.b 1 rfl) tyP) (.k (sto .k (.b 0 rfl) (.g 0 rfl) tyP) (.k (asg .k .c) .n))) [] [1, 2] rfl rfl ?_
   refine Tr.ret (end_cell_tmp 0 1 rfl rfl rfl tyP)
/-- How the places j, k, i of a row turn. -/
def oriL (ps : List (Int × Int)) (j k i : Nat) : Int := oriZ (ps.getD j (0, 0)).1 (ps.getD j (0, 0)).2 (ps.getD k (0, 0)).1 (ps.getD k (0, 0)).2 (ps.getD i (0, 0)).1 (ps.getD i (0, 0)).2
/-- Does each three of a row turn left, and are there three? -/
def convB (ps : List (Int × Int)) : Bool := ((List.range ps.length).all fun i => (List.range i).all fun k => (List.range k).all fun j => decide (oriL ps j k i = 1)) && decide (2 < ps.length)
theorem conv_not {ps : List (Int × Int)} {i k j : Nat} (hi : i < ps.length) (hk : k < i) (hj : j < k) (h : oriL ps j k i ≠ 1) : convB ps = false := by
  unfold convB
  rw [Bool.and_eq_false_iff]
  left
  rw [List.all_eq_false]
  refine ⟨i, List.mem_range.2 hi, ?_⟩
  rw [Bool.not_eq_true, List.all_eq_false]
  refine ⟨k, List.mem_range.2 hk, ?_⟩
  rw [Bool.not_eq_true, List.all_eq_false]
  exact ⟨j, List.mem_range.2 hj, by simpa using h⟩
theorem conv_so {ps : List (Int × Int)} (h : ∀ i, i < ps.length → ∀ k, k < i → ∀ j, j < k → oriL ps j k i = 1) : convB ps = decide ((ps.length : Int) > 2) := by
  unfold convB
  have : ((List.range ps.length).all fun i => (List.range i).all fun k => (List.range k).all fun j => decide (oriL ps j k i = 1)) = true := by
    simp only [List.all_eq_true, List.mem_range, decide_eq_true_eq]
    exact h
  rw [this, Bool.true_and]
  exact decide_eq_decide.2 (by omega)
theorem oriL_at {ps : List (Int × Int)} {j k i : Nat} {x1 y1 x2 y2 x3 y3 : Int} (h1 : ps[j]? = some (x1, y1)) (h2 : ps[k]? = some (x2, y2)) (h3 : ps[i]? = some (x3, y3)) : oriL ps j k i = oriZ x1 y1 x2 y2 x3 y3 := by
  unfold oriL
  rw [List.getD_eq_getElem?_getD, List.getD_eq_getElem?_getD, List.getD_eq_getElem?_getD, h1, h2, h3]
  rfl
set_option maxRecDepth 100000 in
theorem fn_Convex (ps : List (Int × Int)) (hl : ps.length ≤ 1000000) : FnC Try.prog 51 [.vec 2 (ps.map pc)] (bv (convB ps)) := by
 refine FnC.of (N := 39) Try.func51 rfl rfl (Nat.le_of_ble_eq_true rfl) (fun w0 ok0 => ?_)
 refine Tr.rs [] (.k (asg .k .c) .n) [0] [] rfl rfl ?_
 refine Tr.seq (Tr.rs [] (.k (mv .k (.b 0 rfl)) (.k (len_ .k rwP (.g 0 rfl) (len_map ps)) (.k (mv .k .c) .n))) [0] [1, 2] rfl rfl ?_)
 refine Tr.block (?_)
 refine Tr.loop (fun n_ F_ => ∃ i : Nat, i ≤ ps.length ∧ n_ = ps.length - i ∧ F_ = [.s 0 (.vec 2 (ps.map pc)), .s 7 (iv (ps.length : Nat)), .s 8 (iv ((i : Nat) : Int))] ∧ (∀ i', i' < i → ∀ k, k < i' → ∀ j, j < k → oriL ps j k i' = 1)) (ps.length) (F0 := [.s 0 (.vec 2 (ps.map pc)), .s 7 (iv (ps.length : Nat)), .s 8 (iv ((0 : Nat) : Int))]) ⟨0, Nat.zero_le _, rfl, rfl, fun i hi => absurd hi (Nat.not_lt_zero _)⟩ (Sub.all (.cons 0 rfl (.cons 1 rfl (.cons 2 rfl .nil)))) (fun n_ F_ hI => ?_)
 obtain ⟨i, hi, rfl, rfl, him⟩ := hI
 refine Tr.rs [] (.k (lt_ .k (.b 2 rfl) (.b 1 rfl) rfl) .n) [0, 1, 2] [0] rfl rfl ?_
 refine Tr.seq (Tr.cond 3 rfl (fun e9 => ?_) (fun e9 => ?_))
 ·
  have hi2 : i < ps.length := by simpa using e9
  refine Tr.skip (Nx.go (Tr.seq (Tr.block (Tr.rs [] (.k (mv .k (.b 2 rfl)) (.k (asg .k (.g 0 rfl)) .n)) [0, 1, 2] [1] rfl rfl ?_))))
  refine Tr.rs [] (.k (mv .k (.b 3 rfl)) (.k (mv .k .c) .n)) [0, 1, 2, 3] [0, 1] rfl rfl ?_
  refine Tr.block (?_)
  refine Tr.loop (fun n_ F_ => ∃ k : Nat, k ≤ i ∧ n_ = i - k ∧ F_ = [.s 0 (.vec 2 (ps.map pc)), .s 7 (iv (ps.length : Nat)), .s 8 (iv ((i : Nat) : Int)), .s 3 (iv ((i : Nat) : Int)), .s 11 (iv ((i : Nat) : Int)), .s 12 (iv ((k : Nat) : Int))] ∧ (∀ k', k' < k → ∀ j, j < k' → oriL ps j k' i = 1)) (i) (F0 := [.s 0 (.vec 2 (ps.map pc)), .s 7 (iv (ps.length : Nat)), .s 8 (iv ((i : Nat) : Int)), .s 3 (iv ((i : Nat) : Int)), .s 11 (iv ((i : Nat) : Int)), .s 12 (iv ((0 : Nat) : Int))]) ⟨0, Nat.zero_le _, rfl, rfl, fun i hi => absurd hi (Nat.not_lt_zero _)⟩ (Sub.all (.cons 0 rfl (.cons 1 rfl (.cons 2 rfl (.cons 3 rfl (.cons 4 rfl (.cons 5 rfl .nil))))))) (fun n_ F_ hI => ?_)
  obtain ⟨k, hk, rfl, rfl, hkm⟩ := hI
  refine Tr.rs [] (.k (lt_ .k (.b 5 rfl) (.b 4 rfl) rfl) .n) [0, 1, 2, 3, 4, 5] [0] rfl rfl ?_
  refine Tr.seq (Tr.cond 6 rfl (fun e13 => ?_) (fun e13 => ?_))
  ·
   have hk2 : k < i := by simpa using e13
   refine Tr.skip (Nx.go (Tr.seq (Tr.block (Tr.rs [] (.k (mv .k (.b 5 rfl)) (.k (asg .k (.g 0 rfl)) .n)) [0, 1, 2, 3, 4, 5] [1] rfl rfl ?_))))
   refine Tr.rs [] (.k (mv .k (.b 6 rfl)) (.k (mv .k .c) .n)) [0, 1, 2, 3, 4, 5, 6] [0, 1] rfl rfl ?_
   refine Tr.block (?_)
   refine Tr.loop (fun n_ F_ => ∃ j : Nat, j ≤ k ∧ n_ = k - j ∧ F_ = [.s 0 (.vec 2 (ps.map pc)), .s 7 (iv (ps.length : Nat)), .s 8 (iv ((i : Nat) : Int)), .s 3 (iv ((i : Nat) : Int)), .s 11 (iv ((i : Nat) : Int)), .s 12 (iv ((k : Nat) : Int)), .s 4 (iv ((k : Nat) : Int)), .s 15 (iv ((k : Nat) : Int)), .s 16 (iv ((j : Nat) : Int))] ∧ (∀ j', j' < j → oriL ps j' k i = 1)) (k) (F0 := [.s 0 (.vec 2 (ps.map pc)), .s 7 (iv (ps.length : Nat)), .s 8 (iv ((i : Nat) : Int)), .s 3 (iv ((i : Nat) : Int)), .s 11 (iv ((i : Nat) : Int)), .s 12 (iv ((k : Nat) : Int)), .s 4 (iv ((k : Nat) : Int)), .s 15 (iv ((k : Nat) : Int)), .s 16 (iv ((0 : Nat) : Int))]) ⟨0, Nat.zero_le _, rfl, rfl, fun i hi => absurd hi (Nat.not_lt_zero _)⟩ (Sub.all (.cons 0 rfl (.cons 1 rfl (.cons 2 rfl (.cons 3 rfl (.cons 4 rfl (.cons 5 rfl (.cons 6 rfl (.cons 7 rfl (.cons 8 rfl .nil)))))))))) (fun n_ F_ hI => ?_)
   obtain ⟨j, hj, rfl, rfl, hjm⟩ := hI
   refine Tr.rs [] (.k (lt_ .k (.b 8 rfl) (.b 7 rfl) rfl) .n) [0, 1, 2, 3, 4, 5, 6, 7, 8] [0] rfl rfl ?_
   refine Tr.seq (Tr.cond 9 rfl (fun e17 => ?_) (fun e17 => ?_))
   ·
    have hj2 : j < k := by simpa using e17
    refine Tr.skip (Nx.go (Tr.seq (Tr.block (Tr.rs [] (.k (mv .k (.b 8 rfl)) (.k (asg .k (.g 0 rfl)) .n)) [0, 1, 2, 3, 4, 5, 6, 7, 8] [1] rfl rfl ?_))))
    obtain ⟨x1, y1, p1⟩ : ∃ x y, ps[j]? = some (x, y) := ⟨_, _, List.getElem?_eq_getElem (by omega)⟩
    obtain ⟨x2, y2, p2⟩ : ∃ x y, ps[k]? = some (x, y) := ⟨_, _, List.getElem?_eq_getElem (by omega)⟩
    obtain ⟨x3, y3, p3⟩ : ∃ x y, ps[i]? = some (x, y) := ⟨_, _, List.getElem?_eq_getElem hi2⟩
    have p4 := oriL_at p1 p2 p3
    refine Tr.ds hmx [] (.k (mv .k (.b 0 rfl)) (.k (mv .k (.b 9 rfl)) (.k (idx_ .k rwP (.g 0 rfl) (.g 1 rfl) rfl (by rw [List.getElem?_map, p1]; rfl)) (.k (ld_at .k (.g 2 rfl) tyP rfl (aPc _ _)) (.k (mv .k (.b 0 rfl)) (.k (mv .k (.b 6 rfl)) (.k (idx_ .k rwP (.g 4 rfl) (.g 5 rfl) rfl (by rw [List.getElem?_map, p2]; rfl)) (.k (ld_at .k (.g 6 rfl) tyP rfl (aPc _ _)) (.k (mv .k (.b 0 rfl)) (.k (mv .k (.b 3 rfl)) (.k (idx_ .k rwP (.g 8 rfl) (.g 9 rfl) rfl (by rw [List.getElem?_map, p3]; rfl)) (.k (ld_at .k (.g 10 rfl) tyP rfl (aPc _ _)) (.k (cal .k Try.func44 rfl (fn_Orient (ax := x1) (ay := y1) (bx := x2) (b_y := y2) (cx := x3) (cy := y3)) (.k (.g 3 rfl) (.k (.g 7 rfl) (.k (.g 11 rfl) .n)))) (.k (ne_ .k (.g 12 rfl) .c rfl) .n)))))))))))))) [0, 1, 2, 3, 4, 5, 6, 7, 8] [13] rfl rfl ?_
    refine Tr.cond 9 rfl (fun e32 => ?_) (fun e32 => ?_)
    ·
     have hbad : oriL ps j k i ≠ 1 := by rw [p4]; simpa using e32
     rw [conv_not hi2 hk2 hj2 hbad]
     refine Tr.rs [] (.k (asg .k .c) .n) [] [0] rfl rfl ?_
     refine Tr.ret (end_tmp 0 rfl rfl)
    ·
     have hok : oriL ps j k i = 1 := by rw [p4]; simpa using e32
     refine Tr.skip (Nx.bkN (Nx.go (Tr.reg [(8, 1)] (.k (add_ .k (.b 8 rfl) .c (wrap_succ hj2 (by omega))) (.k (mv .k (.g 0 rfl)) .n)) [0, 1, 2, 3, 4, 5, 6, 7] [1] rfl rfl (Nx.again (k - (j + 1)) (by omega) [.s 0 (.vec 2 (ps.map pc)), .s 7 (iv (ps.length : Nat)), .s 8 (iv ((i : Nat) : Int)), .s 3 (iv ((i : Nat) : Int)), .s 11 (iv ((i : Nat) : Int)), .s 12 (iv ((k : Nat) : Int)), .s 4 (iv ((k : Nat) : Int)), .s 15 (iv ((k : Nat) : Int)), .s 16 (iv (((j + 1) : Nat) : Int))] ⟨j + 1, by omega, rfl, rfl, fun j' hj' => by rcases Nat.lt_succ_iff_lt_or_eq.1 hj' with h | rfl; (exact hjm j' h); exact hok⟩ (Sub.all (.cons 0 rfl (.cons 1 rfl (.cons 2 rfl (.cons 3 rfl (.cons 4 rfl (.cons 5 rfl (.cons 6 rfl (.cons 7 rfl (.cons 8 rfl .nil))))))))))))))
   ·
    have hj3 : k ≤ j := by simpa using e17
    refine Tr.exit (Nx.thX (Nx.thX (Nx.bkX (Nx.bkN (Nx.go (Tr.reg [(5, 1)] (.k (add_ .k (.b 5 rfl) .c (wrap_succ hk2 (by omega))) (.k (mv .k (.g 0 rfl)) .n)) [0, 1, 2, 3, 4] [1] rfl rfl (Nx.again (i - (k + 1)) (by omega) [.s 0 (.vec 2 (ps.map pc)), .s 7 (iv (ps.length : Nat)), .s 8 (iv ((i : Nat) : Int)), .s 3 (iv ((i : Nat) : Int)), .s 11 (iv ((i : Nat) : Int)), .s 12 (iv (((k + 1) : Nat) : Int))] ⟨k + 1, by omega, rfl, rfl, fun k' hk' => by rcases Nat.lt_succ_iff_lt_or_eq.1 hk' with h | rfl; (exact hkm k' h); (exact fun j' hj' => hjm j' (by omega))⟩ (Sub.all (.cons 0 rfl (.cons 1 rfl (.cons 2 rfl (.cons 3 rfl (.cons 4 rfl (.cons 5 rfl .nil))))))))))))))
  ·
   have hk3 : i ≤ k := by simpa using e13
   refine Tr.exit (Nx.thX (Nx.thX (Nx.bkX (Nx.bkN (Nx.go (Tr.reg [(2, 1)] (.k (add_ .k (.b 2 rfl) .c (wrap_succ hi2 hl)) (.k (mv .k (.g 0 rfl)) .n)) [0, 1] [1] rfl rfl (Nx.again (ps.length - (i + 1)) (by omega) [.s 0 (.vec 2 (ps.map pc)), .s 7 (iv (ps.length : Nat)), .s 8 (iv (((i + 1) : Nat) : Int))] ⟨i + 1, by omega, rfl, rfl, fun i' hi' => by rcases Nat.lt_succ_iff_lt_or_eq.1 hi' with h | rfl; (exact him i' h); (exact fun k' hk' => hkm k' (by omega))⟩ (Sub.all (.cons 0 rfl (.cons 1 rfl (.cons 2 rfl .nil)))))))))))
 ·
  have hi3 : ps.length ≤ i := by simpa using e9
  refine Tr.exit (Nx.thX (Nx.thX (Nx.bkX (Nx.go (?_)))))
  rw [conv_so (ps := ps) (fun i' hi' => him i' (by omega))]
  refine Tr.rs [] (.k (mv .k (.b 0 rfl)) (.k (len_ .k rwP (.g 0 rfl) (len_map ps)) (.k (gt_ .k (.g 1 rfl) .c rfl) (.k (asg .k (.g 2 rfl)) .n)))) [] [3] rfl rfl ?_
  refine Tr.ret (end_tmp 0 rfl rfl)
end Go.Proofs.Ytmpbbodafenonaa

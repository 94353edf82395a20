/- Circles and discs, walked. -/
import Derived.Test.YtmpbbodafenonaaPr4
set_option linter.unusedVariables false
set_option linter.unusedSimpArgs false
namespace Go.Proofs.Ytmpbbodafenonaa
open Go Go.RowKit Go.Proofs.Ytmpbbodafenonaa.Fx Go.Proofs.YtmpbbodafenonaaW.PrintWords
def sqZ (x y : Int) : Int := x * x + y * y
def tuZ (x y u v : Int) : Int := x * v + -(y * u)
/-- The fourth place and the circle of the others: before the sign of their turn. -/
def allZ (ax ay bx b_y cx cy dx dy : Int) : Int :=
  sqZ (ax - dx) (ay - dy) * tuZ (bx - dx) (b_y - dy) (cx - dx) (cy - dy) + sqZ (bx - dx) (b_y - dy) * tuZ (cx - dx) (cy - dy) (ax - dx) (ay - dy) + sqZ (cx - dx) (cy - dy) * tuZ (ax - dx) (ay - dy) (bx - dx) (b_y - dy)
def incZ (ax ay bx b_y cx cy dx dy : Int) : Int := if fit ax ay ∧ fit bx b_y ∧ fit cx cy ∧ fit dx dy then sgn (allZ ax ay bx b_y cx cy dx dy) * sgn (areaZ ax ay bx b_y cx cy) else 0
theorem sgn_mul (a b : Int) : IntKind.i64.wrap (sgn a * sgn b) = sgn a * sgn b := by
  rcases sgn_cases a with ⟨e, _⟩ | ⟨e, _⟩ | ⟨e, _⟩ <;> rcases sgn_cases b with ⟨f, _⟩ | ⟨f, _⟩ | ⟨f, _⟩ <;> rw [e, f] <;> rfl
theorem fit4 {ax ay bx b_y cx cy dx dy : Int} (h : [(ax, ay), (bx, b_y), (cx, cy), (dx, dy)].all fitP = true) : fit ax ay ∧ fit bx b_y ∧ fit cx cy ∧ fit dx dy := by simpa [fitP] using h
theorem fit4n {ax ay bx b_y cx cy dx dy : Int} (h : [(ax, ay), (bx, b_y), (cx, cy), (dx, dy)].all fitP = false) : ¬ (fit ax ay ∧ fit bx b_y ∧ fit cx cy ∧ fit dx dy) := fun hf => by
  have : [(ax, ay), (bx, b_y), (cx, cy), (dx, dy)].all fitP = true := by simpa [fitP] using hf
  rw [this] at h; cases h
set_option maxRecDepth 100000 in
theorem fn_InCircle {ax ay bx b_y cx cy dx dy : Int} : FnC Try.prog 47 [.is (ptv ax ay), .is (ptv bx b_y), .is (ptv cx cy), .is (ptv dx dy)] (iv (incZ ax ay bx b_y cx cy dx dy)) := by
 refine FnC.of (N := 59) Try.func47 rfl rfl (Nat.le_of_ble_eq_true rfl) (fun w0 ok0 => ?_)
 refine Tr.rs [] (.k (bxx .k (.b 0 rfl)) (.k (bxx .k (.b 1 rfl)) (.k (bxx .k (.b 2 rfl)) (.k (bxx .k (.b 3 rfl)) (.k (asg .k .c) .n))))) [] [0, 1, 2, 3] rfl rfl ?_
 refine Tr.seq (Tr.rs [] (.k (ld .k (.b 0 rfl) tyP) (.k (ld .k (.b 1 rfl) tyP) (.k (ld .k (.b 2 rfl) tyP) (.k (ld .k (.b 3 rfl) tyP) (.k (mkrow .k rwP (.k (.g 0 rfl) (.k (.g 1 rfl) (.k (.g 2 rfl) (.k (.g 3 rfl) .n)))) rfl rfl (by kernel_rfl)) (.k (cal .k Try.func58 rfl (fn_Fits [(_, _), (_, _), (_, _), (_, _)] (by simp)) (.k (.g 4 rfl) .n)) (.k (not_ .k (.g 5 rfl)) .n))))))) [0, 1, 2, 3] [6] rfl rfl ?_)
 refine Tr.cond 4 rfl (fun e19 => ?_) (fun e19 => ?_)
 ·
  have hn := fit4n (by simpa only [Bool.not_eq_true'] using e19)
  unfold incZ; rw [if_neg hn]
  refine Tr.rs [] (.k (asg .k .c) .n) [] [0] rfl rfl ?_
  refine Tr.ret (end_tmp 0 rfl rfl)
 ·
  obtain ⟨f1, f2, f3, f4⟩ := fit4 (by simpa only [Bool.not_eq_false'] using e19)
  refine Tr.skip (Nx.go (?_))
  unfold incZ; rw [if_pos ⟨f1, f2, f3, f4⟩]
  refine Tr.ds hmx [] (.k (ld .k (.b 3 rfl) tyP) (.k (ld .k (.b 0 rfl) tyP) (.k (cal .k Try.func81 rfl (fn_from f4.x f4.y f1.x f1.y) (.k (.g 0 rfl) (.k (.g 1 rfl) .n))) (.k (ld .k (.b 3 rfl) tyP) (.k (ld .k (.b 1 rfl) tyP) (.k (cal .k Try.func81 rfl (fn_from f4.x f4.y f2.x f2.y) (.k (.g 3 rfl) (.k (.g 4 rfl) .n))) (.k (ld .k (.b 3 rfl) tyP) (.k (ld .k (.b 2 rfl) tyP) (.k (cal .k Try.func81 rfl (fn_from f4.x f4.y f3.x f3.y) (.k (.g 6 rfl) (.k (.g 7 rfl) .n))) (.k (ala .k zP) (.k (ala .k zP) (.k (ala .k zP) (.k (sta .k (.g 9 rfl) (.g 2 rfl) tyP) (.k (sta .k (.g 10 rfl) (.g 5 rfl) tyP) (.k (sta .k (.g 11 rfl) (.g 8 rfl) tyP) .n))))))))))))))) [0, 1, 2] [12, 13, 14] rfl rfl ?_
  refine Tr.ds hmx [] (.k (ld .k (.b 3 rfl) tyP) (.k (cal .k Try.func84 rfl (fn_square (Bd.mono (Bd.sub f1.x f4.x) (by decide)) (Bd.mono (Bd.sub f1.y f4.y) (by decide))) (.k (.g 0 rfl) .n)) (.k (ld .k (.b 4 rfl) tyP) (.k (ld .k (.b 5 rfl) tyP) (.k (cal .k Try.func85 rfl (fn_turn (Bd.mono (Bd.sub f2.x f4.x) (by decide)) (Bd.mono (Bd.sub f2.y f4.y) (by decide)) (Bd.mono (Bd.sub f3.x f4.x) (by decide)) (Bd.mono (Bd.sub f3.y f4.y) (by decide))) (.k (.g 2 rfl) (.k (.g 3 rfl) .n))) (.k (mkrow .k rwW (.k (.g 1 rfl) (.k (.g 4 rfl) .n)) rfl rfl (by kernel_rfl)) (.k (cal .k Try.func83 rfl (fn_times2 (Bd.mono (Bd.add (Bd.mul (Bd.sub f1.x f4.x) (Bd.sub f1.x f4.x)) (Bd.mul (Bd.sub f1.y f4.y) (Bd.sub f1.y f4.y))) (by decide)) (Bd.mono (Bd.add (Bd.mul (Bd.sub f2.x f4.x) (Bd.sub f3.y f4.y)) (Bd.neg (Bd.mul (Bd.sub f2.y f4.y) (Bd.sub f3.x f4.x)))) (by decide))) (.k (.g 5 rfl) .n)) (.k (ld .k (.b 4 rfl) tyP) (.k (cal .k Try.func84 rfl (fn_square (Bd.mono (Bd.sub f2.x f4.x) (by decide)) (Bd.mono (Bd.sub f2.y f4.y) (by decide))) (.k (.g 7 rfl) .n)) (.k (ld .k (.b 5 rfl) tyP) (.k (ld .k (.b 3 rfl) tyP) (.k (cal .k Try.func85 rfl (fn_turn (Bd.mono (Bd.sub f3.x f4.x) (by decide)) (Bd.mono (Bd.sub f3.y f4.y) (by decide)) (Bd.mono (Bd.sub f1.x f4.x) (by decide)) (Bd.mono (Bd.sub f1.y f4.y) (by decide))) (.k (.g 9 rfl) (.k (.g 10 rfl) .n))) (.k (mkrow .k rwW (.k (.g 8 rfl) (.k (.g 11 rfl) .n)) rfl rfl (by kernel_rfl)) (.k (cal .k Try.func83 rfl (fn_times2 (Bd.mono (Bd.add (Bd.mul (Bd.sub f2.x f4.x) (Bd.sub f2.x f4.x)) (Bd.mul (Bd.sub f2.y f4.y) (Bd.sub f2.y f4.y))) (by decide)) (Bd.mono (Bd.add (Bd.mul (Bd.sub f3.x f4.x) (Bd.sub f1.y f4.y)) (Bd.neg (Bd.mul (Bd.sub f3.y f4.y) (Bd.sub f1.x f4.x)))) (by decide))) (.k (.g 12 rfl) .n)) (.k (ld .k (.b 5 rfl) tyP) (.k (cal .k Try.func84 rfl (fn_square (Bd.mono (Bd.sub f3.x f4.x) (by decide)) (Bd.mono (Bd.sub f3.y f4.y) (by decide))) (.k (.g 14 rfl) .n)) (.k (ld .k (.b 3 rfl) tyP) (.k (ld .k (.b 4 rfl) tyP) (.k (cal .k Try.func85 rfl (fn_turn (Bd.mono (Bd.sub f1.x f4.x) (by decide)) (Bd.mono (Bd.sub f1.y f4.y) (by decide)) (Bd.mono (Bd.sub f2.x f4.x) (by decide)) (Bd.mono (Bd.sub f2.y f4.y) (by decide))) (.k (.g 16 rfl) (.k (.g 17 rfl) .n))) (.k (mkrow .k rwW (.k (.g 15 rfl) (.k (.g 18 rfl) .n)) rfl rfl (by kernel_rfl)) (.k (cal .k Try.func83 rfl (fn_times2 (Bd.mono (Bd.add (Bd.mul (Bd.sub f3.x f4.x) (Bd.sub f3.x f4.x)) (Bd.mul (Bd.sub f3.y f4.y) (Bd.sub f3.y f4.y))) (by decide)) (Bd.mono (Bd.add (Bd.mul (Bd.sub f1.x f4.x) (Bd.sub f2.y f4.y)) (Bd.neg (Bd.mul (Bd.sub f1.y f4.y) (Bd.sub f2.x f4.x)))) (by decide))) (.k (.g 19 rfl) .n)) (.k (mkrow .k rwW (.k (.g 6 rfl) (.k (.g 13 rfl) (.k (.g 20 rfl) .n))) rfl rfl (by kernel_rfl)) (.k (cal .k Try.func82 rfl (fn_sum3 (Bd.mono (Bd.mul (Bd.add (Bd.mul (Bd.sub f1.x f4.x) (Bd.sub f1.x f4.x)) (Bd.mul (Bd.sub f1.y f4.y) (Bd.sub f1.y f4.y))) (Bd.add (Bd.mul (Bd.sub f2.x f4.x) (Bd.sub f3.y f4.y)) (Bd.neg (Bd.mul (Bd.sub f2.y f4.y) (Bd.sub f3.x f4.x))))) (by decide)) (Bd.mono (Bd.mul (Bd.add (Bd.mul (Bd.sub f2.x f4.x) (Bd.sub f2.x f4.x)) (Bd.mul (Bd.sub f2.y f4.y) (Bd.sub f2.y f4.y))) (Bd.add (Bd.mul (Bd.sub f3.x f4.x) (Bd.sub f1.y f4.y)) (Bd.neg (Bd.mul (Bd.sub f3.y f4.y) (Bd.sub f1.x f4.x))))) (by decide)) (Bd.mono (Bd.mul (Bd.add (Bd.mul (Bd.sub f3.x f4.x) (Bd.sub f3.x f4.x)) (Bd.mul (Bd.sub f3.y f4.y) (Bd.sub f3.y f4.y))) (Bd.add (Bd.mul (Bd.sub f1.x f4.x) (Bd.sub f2.y f4.y)) (Bd.neg (Bd.mul (Bd.sub f1.y f4.y) (Bd.sub f2.x f4.x))))) (by decide))) (.k (.g 21 rfl) .n)) (.k (ala .k zW) (.k (sta .k (.g 23 rfl) (.g 22 rfl) tyW) .n))))))))))))))))))))))))) [0, 1, 2] [24] rfl rfl ?_
  refine Tr.ds hmx [] (.k (ld .k (.b 3 rfl) tyW) (.k (cal .k Try.func42 rfl (fn_Sign (tN (Bd.add (Bd.add (Bd.mul (Bd.add (Bd.mul (Bd.sub f1.x f4.x) (Bd.sub f1.x f4.x)) (Bd.mul (Bd.sub f1.y f4.y) (Bd.sub f1.y f4.y))) (Bd.add (Bd.mul (Bd.sub f2.x f4.x) (Bd.sub f3.y f4.y)) (Bd.neg (Bd.mul (Bd.sub f2.y f4.y) (Bd.sub f3.x f4.x))))) (Bd.mul (Bd.add (Bd.mul (Bd.sub f2.x f4.x) (Bd.sub f2.x f4.x)) (Bd.mul (Bd.sub f2.y f4.y) (Bd.sub f2.y f4.y))) (Bd.add (Bd.mul (Bd.sub f3.x f4.x) (Bd.sub f1.y f4.y)) (Bd.neg (Bd.mul (Bd.sub f3.y f4.y) (Bd.sub f1.x f4.x)))))) (Bd.mul (Bd.add (Bd.mul (Bd.sub f3.x f4.x) (Bd.sub f3.x f4.x)) (Bd.mul (Bd.sub f3.y f4.y) (Bd.sub f3.y f4.y))) (Bd.add (Bd.mul (Bd.sub f1.x f4.x) (Bd.sub f2.y f4.y)) (Bd.neg (Bd.mul (Bd.sub f1.y f4.y) (Bd.sub f2.x f4.x)))))) (by decide))) (.k (.g 0 rfl) .n)) (.k (ld .k (.b 0 rfl) tyP) (.k (ld .k (.b 1 rfl) tyP) (.k (ld .k (.b 2 rfl) tyP) (.k (cal .k Try.func80 rfl (fn_orient f1.x f1.y f2.x f2.y f3.x f3.y) (.k (.g 2 rfl) (.k (.g 3 rfl) (.k (.g 4 rfl) .n)))) (.k (mul_ .k (.g 1 rfl) (.g 5 rfl) (sgn_mul _ _)) (.k (asg .k (.g 6 rfl)) .n)))))))) [] [7] rfl rfl ?_
  refine Tr.ret (end_tmp 0 rfl rfl)
theorem eqP (x y u v : Int) (W : World) : (Op.equalIn 10000 65 (ptv x y) (ptv u v)).run Try.prog W = .ok (x == u && y == v) W := by
  unfold ptv
  refine eqA_of Try.underlying65 (by kernel_rfl) ?_
  refine eqf_cons (by rfl) (by go_simp; rfl) (by go_simp; rfl) (by go_simp) ?_
  exact eqf_last (by rfl) (by go_simp; rfl) (by go_simp; rfl) (by go_simp)
theorem ptG : Try.prog.eqGuardType Try.prog.depth 65 = false := by kernel_rfl
def same (x y u v : Int) : Bool := x == u && y == v
def discZ (ax ay bx b_y px py : Int) : Int := (ax - px) * (bx - px) + (ay - py) * (b_y - py)
/-- In the disc over a way, or on its rim. -/
def disB (ax ay bx b_y px py : Int) : Bool := if ¬ (fit ax ay ∧ fit bx b_y ∧ fit px py) ∨ same px py ax ay = true ∨ same px py bx b_y = true then false else decide (sgn (discZ ax ay bx b_y px py) ≤ 0)
set_option maxRecDepth 100000 in
theorem fn_InDisc {ax ay bx b_y px py : Int} : FnC Try.prog 49 [.is (ptv ax ay), .is (ptv bx b_y), .is (ptv px py)] (bv (disB ax ay bx b_y px py)) := by
 refine FnC.of (N := 45) Try.func49 rfl rfl (Nat.le_of_ble_eq_true rfl) (fun w0 ok0 => ?_)
 refine Tr.rs [] (.k (bxx .k (.b 0 rfl)) (.k (bxx .k (.b 1 rfl)) (.k (bxx .k (.b 2 rfl)) (.k (asg .k .c) .n)))) [] [0, 1, 2] rfl rfl ?_
 rcases (show [(ax, ay), (bx, b_y), (px, py)].all fitP = false ∨ [(ax, ay), (bx, b_y), (px, py)].all fitP = true ∧ same px py ax ay = true ∨ [(ax, ay), (bx, b_y), (px, py)].all fitP = true ∧ same px py ax ay = false ∧ same px py bx b_y = true ∨ [(ax, ay), (bx, b_y), (px, py)].all fitP = true ∧ same px py ax ay = false ∧ same px py bx b_y = false by cases [(ax, ay), (bx, b_y), (px, py)].all fitP <;> cases same px py ax ay <;> cases same px py bx b_y <;> simp) with hF | ⟨hF, s1⟩ | ⟨hF, s1, s2⟩ | ⟨hF, s1, s2⟩
 ·
  have hn := fit3n hF
  refine Tr.seq (Tr.rs [] (.k (ld .k (.b 0 rfl) tyP) (.k (ld .k (.b 1 rfl) tyP) (.k (ld .k (.b 2 rfl) tyP) (.k (mkrow .k rwP (.k (.g 0 rfl) (.k (.g 1 rfl) (.k (.g 2 rfl) .n))) rfl rfl (by kernel_rfl)) (.k (cal .k Try.func58 rfl (hF ▸ fn_Fits [(_, _), (_, _), (_, _)] (by simp)) (.k (.g 3 rfl) .n)) (.k (not_ .k (.g 4 rfl)) (.k (mv .k (.g 5 rfl)) (.k (skp (.on (.g 6 rfl) rfl rfl)) (.k (skp (.on (.g 6 rfl) rfl rfl)) (.k (skp (.on (.g 6 rfl) rfl rfl)) (.k (pickT .k (.g 6 rfl) .c) (.k (mv .k (.g 10 rfl)) (.k (skp (.on (.g 11 rfl) rfl rfl)) (.k (skp (.on (.g 11 rfl) rfl rfl)) (.k (skp (.on (.g 11 rfl) rfl rfl)) (.k (pickT .k (.g 11 rfl) .c) .n)))))))))))))))) [0, 1, 2] [15] rfl rfl ?_)
  refine Tr.cond 3 rfl (fun _ => ?_) nofun
  unfold disB; rw [if_pos (.inl hn)]
  refine Tr.rs [] (.k (asg .k .c) .n) [] [0] rfl rfl ?_
  refine Tr.ret (end_tmp 0 rfl rfl)
 ·
  refine Tr.seq (Tr.rs [] (.k (ld .k (.b 0 rfl) tyP) (.k (ld .k (.b 1 rfl) tyP) (.k (ld .k (.b 2 rfl) tyP) (.k (mkrow .k rwP (.k (.g 0 rfl) (.k (.g 1 rfl) (.k (.g 2 rfl) .n))) rfl rfl (by kernel_rfl)) (.k (cal .k Try.func58 rfl (hF ▸ fn_Fits [(_, _), (_, _), (_, _)] (by simp)) (.k (.g 3 rfl) .n)) (.k (not_ .k (.g 4 rfl)) (.k (mv .k (.g 5 rfl)) (.k (ld (.on (.g 6 rfl) rfl rfl) (.b 2 rfl) tyP) (.k (ld (.on (.g 6 rfl) rfl rfl) (.b 0 rfl) tyP) (.k (eqS_ (.on (.g 6 rfl) rfl rfl) ptG (.g 7 rfl) (.g 8 rfl) (eqP _ _ _ _) s1) (.k (pickF .k (.g 6 rfl) (.g 9 rfl)) (.k (mv .k (.g 10 rfl)) (.k (skp (.on (.g 11 rfl) rfl rfl)) (.k (skp (.on (.g 11 rfl) rfl rfl)) (.k (skp (.on (.g 11 rfl) rfl rfl)) (.k (pickT .k (.g 11 rfl) .c) .n)))))))))))))))) [0, 1, 2] [15] rfl rfl ?_)
  refine Tr.cond 3 rfl (fun _ => ?_) nofun
  unfold disB; rw [if_pos (.inr (.inl s1))]
  refine Tr.rs [] (.k (asg .k .c) .n) [] [0] rfl rfl ?_
  refine Tr.ret (end_tmp 0 rfl rfl)
 ·
  refine Tr.seq (Tr.rs [] (.k (ld .k (.b 0 rfl) tyP) (.k (ld .k (.b 1 rfl) tyP) (.k (ld .k (.b 2 rfl) tyP) (.k (mkrow .k rwP (.k (.g 0 rfl) (.k (.g 1 rfl) (.k (.g 2 rfl) .n))) rfl rfl (by kernel_rfl)) (.k (cal .k Try.func58 rfl (hF ▸ fn_Fits [(_, _), (_, _), (_, _)] (by simp)) (.k (.g 3 rfl) .n)) (.k (not_ .k (.g 4 rfl)) (.k (mv .k (.g 5 rfl)) (.k (ld (.on (.g 6 rfl) rfl rfl) (.b 2 rfl) tyP) (.k (ld (.on (.g 6 rfl) rfl rfl) (.b 0 rfl) tyP) (.k (eqS_ (.on (.g 6 rfl) rfl rfl) ptG (.g 7 rfl) (.g 8 rfl) (eqP _ _ _ _) s1) (.k (pickF .k (.g 6 rfl) (.g 9 rfl)) (.k (mv .k (.g 10 rfl)) (.k (ld (.on (.g 11 rfl) rfl rfl) (.b 2 rfl) tyP) (.k (ld (.on (.g 11 rfl) rfl rfl) (.b 1 rfl) tyP) (.k (eqS_ (.on (.g 11 rfl) rfl rfl) ptG (.g 12 rfl) (.g 13 rfl) (eqP _ _ _ _) s2) (.k (pickF .k (.g 11 rfl) (.g 14 rfl)) .n)))))))))))))))) [0, 1, 2] [15] rfl rfl ?_)
  refine Tr.cond 3 rfl (fun _ => ?_) nofun
  unfold disB; rw [if_pos (.inr (.inr s2))]
  refine Tr.rs [] (.k (asg .k .c) .n) [] [0] rfl rfl ?_
  refine Tr.ret (end_tmp 0 rfl rfl)
 ·
  obtain ⟨f1, f2, f3⟩ := fit3 hF
  refine Tr.seq (Tr.rs [] (.k (ld .k (.b 0 rfl) tyP) (.k (ld .k (.b 1 rfl) tyP) (.k (ld .k (.b 2 rfl) tyP) (.k (mkrow .k rwP (.k (.g 0 rfl) (.k (.g 1 rfl) (.k (.g 2 rfl) .n))) rfl rfl (by kernel_rfl)) (.k (cal .k Try.func58 rfl (hF ▸ fn_Fits [(_, _), (_, _), (_, _)] (by simp)) (.k (.g 3 rfl) .n)) (.k (not_ .k (.g 4 rfl)) (.k (mv .k (.g 5 rfl)) (.k (ld (.on (.g 6 rfl) rfl rfl) (.b 2 rfl) tyP) (.k (ld (.on (.g 6 rfl) rfl rfl) (.b 0 rfl) tyP) (.k (eqS_ (.on (.g 6 rfl) rfl rfl) ptG (.g 7 rfl) (.g 8 rfl) (eqP _ _ _ _) s1) (.k (pickF .k (.g 6 rfl) (.g 9 rfl)) (.k (mv .k (.g 10 rfl)) (.k (ld (.on (.g 11 rfl) rfl rfl) (.b 2 rfl) tyP) (.k (ld (.on (.g 11 rfl) rfl rfl) (.b 1 rfl) tyP) (.k (eqS_ (.on (.g 11 rfl) rfl rfl) ptG (.g 12 rfl) (.g 13 rfl) (eqP _ _ _ _) s2) (.k (pickF .k (.g 11 rfl) (.g 14 rfl)) .n)))))))))))))))) [0, 1, 2] [15] rfl rfl ?_)
  refine Tr.cond 3 rfl nofun (fun _ => ?_)
  refine Tr.skip (Nx.go (?_))
  unfold disB; rw [if_neg (not_or.2 ⟨fun h => h ⟨f1, f2, f3⟩, not_or.2 ⟨by rw [s1]; simp, by rw [s2]; simp⟩⟩)]
  refine Tr.ds hmx [] (.k (ld .k (.b 2 rfl) tyP) (.k (ld .k (.b 0 rfl) tyP) (.k (cal .k Try.func81 rfl (fn_from f3.x f3.y f1.x f1.y) (.k (.g 0 rfl) (.k (.g 1 rfl) .n))) (.k (ld .k (.b 2 rfl) tyP) (.k (ld .k (.b 1 rfl) tyP) (.k (cal .k Try.func81 rfl (fn_from f3.x f3.y f2.x f2.y) (.k (.g 3 rfl) (.k (.g 4 rfl) .n))) (.k (ala .k zP) (.k (ala .k zP) (.k (sta .k (.g 6 rfl) (.g 2 rfl) tyP) (.k (sta .k (.g 7 rfl) (.g 5 rfl) tyP) .n)))))))))) [] [8, 9] rfl rfl ?_
  refine Tr.ds hmx [] (.k (faddr .k (.b 0 rfl) rfl fPX) (.k (ldc .k (.g 0 rfl) (.b 0 rfl) tyI) (.k (faddr .k (.b 1 rfl) rfl fPX) (.k (ldc .k (.g 2 rfl) (.b 1 rfl) tyI) (.k (cal .k Try.func88 rfl (fn_product (Bd.mono (Bd.sub f1.x f3.x) (by decide)) (Bd.mono (Bd.sub f2.x f3.x) (by decide))) (.k (.g 1 rfl) (.k (.g 3 rfl) .n))) (.k (faddr .k (.b 0 rfl) rfl fPY) (.k (ldc .k (.g 5 rfl) (.b 0 rfl) tyI) (.k (faddr .k (.b 1 rfl) rfl fPY) (.k (ldc .k (.g 7 rfl) (.b 1 rfl) tyI) (.k (cal .k Try.func88 rfl (fn_product (Bd.mono (Bd.sub f1.y f3.y) (by decide)) (Bd.mono (Bd.sub f2.y f3.y) (by decide))) (.k (.g 6 rfl) (.k (.g 8 rfl) .n))) (.k (mkrow .k rwW (.k (.g 4 rfl) (.k (.g 9 rfl) .n)) rfl rfl (by kernel_rfl)) (.k (cal .k Try.func82 rfl (fn_sum2 (Bd.mono (Bd.mul (Bd.sub f1.x f3.x) (Bd.sub f2.x f3.x)) (by decide)) (Bd.mono (Bd.mul (Bd.sub f1.y f3.y) (Bd.sub f2.y f3.y)) (by decide))) (.k (.g 10 rfl) .n)) (.k (cal .k Try.func42 rfl (fn_Sign (tN (Bd.add (Bd.mul (Bd.sub f1.x f3.x) (Bd.sub f2.x f3.x)) (Bd.mul (Bd.sub f1.y f3.y) (Bd.sub f2.y f3.y))) (by decide))) (.k (.g 11 rfl) .n)) (.k (le_ .k (.g 12 rfl) .c rfl) (.k (asg .k (.g 13 rfl)) .n))))))))))))))) [] [14] rfl rfl ?_
  refine Tr.ret (end_tmp 0 rfl rfl)
/-- Halfway: there is such a place? -/
def midP (ax ay bx b_y : Int) : Prop := fit ax ay ∧ fit bx b_y ∧ (ax + bx).tmod 2 = 0 ∧ (ay + b_y).tmod 2 = 0
instance (ax ay bx b_y : Int) : Decidable (midP ax ay bx b_y) := by unfold midP; infer_instance
theorem fit2 {ax ay bx b_y : Int} (h : [(ax, ay), (bx, b_y)].all fitP = true) : fit ax ay ∧ fit bx b_y := by simpa [fitP] using h
theorem fit2n {ax ay bx b_y : Int} (h : [(ax, ay), (bx, b_y)].all fitP = false) : ¬ (fit ax ay ∧ fit bx b_y) := fun hf => by
  have : [(ax, ay), (bx, b_y)].all fitP = true := by simpa [fitP] using hf
  rw [this] at h; cases h
theorem half_wrap {x : Int} (h : Bd 34 x) : IntKind.i64.wrap (x.tdiv 2) = x.tdiv 2 := by
  unfold Bd at h
  refine IntWalk.i64_in _ ?_
  rcases Int.le_total 0 x with h0 | h0
  · have := Int.tdiv_eq_ediv_of_nonneg (b := 2) h0
    omega
  · have e : x.tdiv 2 = -((-x).tdiv 2) := by rw [Int.neg_tdiv, Int.neg_neg]
    have := Int.tdiv_eq_ediv_of_nonneg (a := -x) (b := 2) (by omega)
    omega
set_option maxRecDepth 100000 in
theorem fn_Middle {ax ay bx b_y : Int} : FnC Try.prog 63 [.is (ptv ax ay), .is (ptv bx b_y)] (.tup [.is (ptv (if midP ax ay bx b_y then (ax + bx).tdiv 2 else 0) (if midP ax ay bx b_y then (ay + b_y).tdiv 2 else 0)), bv (decide (midP ax ay bx b_y))]) := by
 refine FnC.of (N := 43) Try.func63 rfl rfl (Nat.le_of_ble_eq_true rfl) (fun w0 ok0 => ?_)
 refine Tr.rs [] (.k (bxx .k (.b 0 rfl)) (.k (bxx .k (.b 1 rfl)) (.k (alc .k zP) (.k (asg .k .c) .n)))) [] [0, 1, 2] rfl rfl ?_
 rcases (show [(ax, ay), (bx, b_y)].all fitP = false ∨ [(ax, ay), (bx, b_y)].all fitP = true ∧ (ax + bx).tmod 2 ≠ 0 ∨ [(ax, ay), (bx, b_y)].all fitP = true ∧ (ax + bx).tmod 2 = 0 ∧ (ay + b_y).tmod 2 ≠ 0 ∨ [(ax, ay), (bx, b_y)].all fitP = true ∧ (ax + bx).tmod 2 = 0 ∧ (ay + b_y).tmod 2 = 0 by cases [(ax, ay), (bx, b_y)].all fitP <;> by_cases h1 : (ax + bx).tmod 2 = 0 <;> by_cases h2 : (ay + b_y).tmod 2 = 0 <;> simp [h1, h2]) with hF | ⟨hF, s1⟩ | ⟨hF, s1, s2⟩ | ⟨hF, s1, s2⟩
 ·
  have hn : ¬ midP ax ay bx b_y := fun h => fit2n hF ⟨h.1, h.2.1⟩
  refine Tr.seq (Tr.rs [] (.k (ld .k (.b 0 rfl) tyP) (.k (ld .k (.b 1 rfl) tyP) (.k (mkrow .k rwP (.k (.g 0 rfl) (.k (.g 1 rfl) .n)) rfl rfl (by kernel_rfl)) (.k (cal .k Try.func58 rfl (hF ▸ fn_Fits [(_, _), (_, _)] (by simp)) (.k (.g 2 rfl) .n)) (.k (not_ .k (.g 3 rfl)) (.k (mv .k (.g 4 rfl)) (.k (skp (.on (.g 5 rfl) rfl rfl)) (.k (skp (.on (.g 5 rfl) rfl rfl)) (.k (skp (.on (.g 5 rfl) rfl rfl)) (.k (skp (.on (.g 5 rfl) rfl rfl)) (.k (skp (.on (.g 5 rfl) rfl rfl)) (.k (skp (.on (.g 5 rfl) rfl rfl)) (.k (skp (.on (.g 5 rfl) rfl rfl)) (.k (pickT .k (.g 5 rfl) .c) (.k (mv .k (.g 13 rfl)) (.k (skp (.on (.g 14 rfl) rfl rfl)) (.k (skp (.on (.g 14 rfl) rfl rfl)) (.k (skp (.on (.g 14 rfl) rfl rfl)) (.k (skp (.on (.g 14 rfl) rfl rfl)) (.k (skp (.on (.g 14 rfl) rfl rfl)) (.k (skp (.on (.g 14 rfl) rfl rfl)) (.k (skp (.on (.g 14 rfl) rfl rfl)) (.k (pickT .k (.g 14 rfl) .c) .n))))))))))))))))))))))) [0, 1, 2] [22] rfl rfl ?_)
  refine Tr.cond 3 rfl (fun _ => ?_) nofun
  rw [if_neg hn, if_neg hn, decide_eq_false hn]
  refine Tr.rs [(2, 1)] (.k (bld .k .n bP0 (aP 0 0)) (.k (sto .k (.b 2 rfl) (.g 0 rfl) tyP) (.k (asg .k .c) .n))) [] [1, 2] rfl rfl ?_
  refine Tr.ret (end_cell_tmp 0 1 rfl rfl rfl tyP)
 ·
  obtain ⟨f1, f2⟩ := fit2 hF
  have hn : ¬ midP ax ay bx b_y := fun h => s1 h.2.2.1
  refine Tr.seq (Tr.rs [] (.k (ld .k (.b 0 rfl) tyP) (.k (ld .k (.b 1 rfl) tyP) (.k (mkrow .k rwP (.k (.g 0 rfl) (.k (.g 1 rfl) .n)) rfl rfl (by kernel_rfl)) (.k (cal .k Try.func58 rfl (hF ▸ fn_Fits [(_, _), (_, _)] (by simp)) (.k (.g 2 rfl) .n)) (.k (not_ .k (.g 3 rfl)) (.k (mv .k (.g 4 rfl)) (.k (faddr (.on (.g 5 rfl) rfl rfl) (.b 0 rfl) rfl fPX) (.k (ldc (.on (.g 5 rfl) rfl rfl) (.g 6 rfl) (.b 0 rfl) tyI) (.k (faddr (.on (.g 5 rfl) rfl rfl) (.b 1 rfl) rfl fPX) (.k (ldc (.on (.g 5 rfl) rfl rfl) (.g 8 rfl) (.b 1 rfl) tyI) (.k (add_ (.on (.g 5 rfl) rfl rfl) (.g 7 rfl) (.g 9 rfl) (Bd.wrap (Bd.add f1.x f2.x) (by decide))) (.k (rem_ (.on (.g 5 rfl) rfl rfl) (.g 10 rfl) .c (by decide) rfl) (.k (ne_ (.on (.g 5 rfl) rfl rfl) (.g 11 rfl) .c (show (_ != (0 : Int)) = true by simpa using s1)) (.k (pickF .k (.g 5 rfl) (.g 12 rfl)) (.k (mv .k (.g 13 rfl)) (.k (skp (.on (.g 14 rfl) rfl rfl)) (.k (skp (.on (.g 14 rfl) rfl rfl)) (.k (skp (.on (.g 14 rfl) rfl rfl)) (.k (skp (.on (.g 14 rfl) rfl rfl)) (.k (skp (.on (.g 14 rfl) rfl rfl)) (.k (skp (.on (.g 14 rfl) rfl rfl)) (.k (skp (.on (.g 14 rfl) rfl rfl)) (.k (pickT .k (.g 14 rfl) .c) .n))))))))))))))))))))))) [0, 1, 2] [22] rfl rfl ?_)
  refine Tr.cond 3 rfl (fun _ => ?_) nofun
  rw [if_neg hn, if_neg hn, decide_eq_false hn]
  refine Tr.rs [(2, 1)] (.k (bld .k .n bP0 (aP 0 0)) (.k (sto .k (.b 2 rfl) (.g 0 rfl) tyP) (.k (asg .k .c) .n))) [] [1, 2] rfl rfl ?_
  refine Tr.ret (end_cell_tmp 0 1 rfl rfl rfl tyP)
 ·
  obtain ⟨f1, f2⟩ := fit2 hF
  have hn : ¬ midP ax ay bx b_y := fun h => s2 h.2.2.2
  refine Tr.seq (Tr.rs [] (.k (ld .k (.b 0 rfl) tyP) (.k (ld .k (.b 1 rfl) tyP) (.k (mkrow .k rwP (.k (.g 0 rfl) (.k (.g 1 rfl) .n)) rfl rfl (by kernel_rfl)) (.k (cal .k Try.func58 rfl (hF ▸ fn_Fits [(_, _), (_, _)] (by simp)) (.k (.g 2 rfl) .n)) (.k (not_ .k (.g 3 rfl)) (.k (mv .k (.g 4 rfl)) (.k (faddr (.on (.g 5 rfl) rfl rfl) (.b 0 rfl) rfl fPX) (.k (ldc (.on (.g 5 rfl) rfl rfl) (.g 6 rfl) (.b 0 rfl) tyI) (.k (faddr (.on (.g 5 rfl) rfl rfl) (.b 1 rfl) rfl fPX) (.k (ldc (.on (.g 5 rfl) rfl rfl) (.g 8 rfl) (.b 1 rfl) tyI) (.k (add_ (.on (.g 5 rfl) rfl rfl) (.g 7 rfl) (.g 9 rfl) (Bd.wrap (Bd.add f1.x f2.x) (by decide))) (.k (rem_ (.on (.g 5 rfl) rfl rfl) (.g 10 rfl) .c (by decide) rfl) (.k (ne_ (.on (.g 5 rfl) rfl rfl) (.g 11 rfl) .c (show (_ != (0 : Int)) = false by simpa using s1)) (.k (pickF .k (.g 5 rfl) (.g 12 rfl)) (.k (mv .k (.g 13 rfl)) (.k (faddr (.on (.g 14 rfl) rfl rfl) (.b 0 rfl) rfl fPY) (.k (ldc (.on (.g 14 rfl) rfl rfl) (.g 15 rfl) (.b 0 rfl) tyI) (.k (faddr (.on (.g 14 rfl) rfl rfl) (.b 1 rfl) rfl fPY) (.k (ldc (.on (.g 14 rfl) rfl rfl) (.g 17 rfl) (.b 1 rfl) tyI) (.k (add_ (.on (.g 14 rfl) rfl rfl) (.g 16 rfl) (.g 18 rfl) (Bd.wrap (Bd.add f1.y f2.y) (by decide))) (.k (rem_ (.on (.g 14 rfl) rfl rfl) (.g 19 rfl) .c (by decide) rfl) (.k (ne_ (.on (.g 14 rfl) rfl rfl) (.g 20 rfl) .c (show (_ != (0 : Int)) = true by simpa using s2)) (.k (pickF .k (.g 14 rfl) (.g 21 rfl)) .n))))))))))))))))))))))) [0, 1, 2] [22] rfl rfl ?_)
  refine Tr.cond 3 rfl (fun _ => ?_) nofun
  rw [if_neg hn, if_neg hn, decide_eq_false hn]
  refine Tr.rs [(2, 1)] (.k (bld .k .n bP0 (aP 0 0)) (.k (sto .k (.b 2 rfl) (.g 0 rfl) tyP) (.k (asg .k .c) .n))) [] [1, 2] rfl rfl ?_
  refine Tr.ret (end_cell_tmp 0 1 rfl rfl rfl tyP)
 ·
  obtain ⟨f1, f2⟩ := fit2 hF
  refine Tr.seq (Tr.rs [] (.k (ld .k (.b 0 rfl) tyP) (.k (ld .k (.b 1 rfl) tyP) (.k (mkrow .k rwP (.k (.g 0 rfl) (.k (.g 1 rfl) .n)) rfl rfl (by kernel_rfl)) (.k (cal .k Try.func58 rfl (hF ▸ fn_Fits [(_, _), (_, _)] (by simp)) (.k (.g 2 rfl) .n)) (.k (not_ .k (.g 3 rfl)) (.k (mv .k (.g 4 rfl)) (.k (faddr (.on (.g 5 rfl) rfl rfl) (.b 0 rfl) rfl fPX) (.k (ldc (.on (.g 5 rfl) rfl rfl) (.g 6 rfl) (.b 0 rfl) tyI) (.k (faddr (.on (.g 5 rfl) rfl rfl) (.b 1 rfl) rfl fPX) (.k (ldc (.on (.g 5 rfl) rfl rfl) (.g 8 rfl) (.b 1 rfl) tyI) (.k (add_ (.on (.g 5 rfl) rfl rfl) (.g 7 rfl) (.g 9 rfl) (Bd.wrap (Bd.add f1.x f2.x) (by decide))) (.k (rem_ (.on (.g 5 rfl) rfl rfl) (.g 10 rfl) .c (by decide) rfl) (.k (ne_ (.on (.g 5 rfl) rfl rfl) (.g 11 rfl) .c (show (_ != (0 : Int)) = false by simpa using s1)) (.k (pickF .k (.g 5 rfl) (.g 12 rfl)) (.k (mv .k (.g 13 rfl)) (.k (faddr (.on (.g 14 rfl) rfl rfl) (.b 0 rfl) rfl fPY) (.k (ldc (.on (.g 14 rfl) rfl rfl) (.g 15 rfl) (.b 0 rfl) tyI) (.k (faddr (.on (.g 14 rfl) rfl rfl) (.b 1 rfl) rfl fPY) (.k (ldc (.on (.g 14 rfl) rfl rfl) (.g 17 rfl) (.b 1 rfl) tyI) (.k (add_ (.on (.g 14 rfl) rfl rfl) (.g 16 rfl) (.g 18 rfl) (Bd.wrap (Bd.add f1.y f2.y) (by decide))) (.k (rem_ (.on (.g 14 rfl) rfl rfl) (.g 19 rfl) .c (by decide) rfl) (.k (ne_ (.on (.g 14 rfl) rfl rfl) (.g 20 rfl) .c (show (_ != (0 : Int)) = false by simpa using s2)) (.k (pickF .k (.g 14 rfl) (.g 21 rfl)) .n))))))))))))))))))))))) [0, 1, 2] [22] rfl rfl ?_)
  refine Tr.cond 3 rfl nofun (fun _ => ?_)
  refine Tr.skip (Nx.go (?_))
  rw [if_pos ⟨f1, f2, s1, s2⟩, if_pos ⟨f1, f2, s1, s2⟩, decide_eq_true (show midP ax ay bx b_y from ⟨f1, f2, s1, s2⟩)]
  refine Tr.rs [(2, 13)] (.k (faddr .k (.b 0 rfl) rfl fPX) (.k (ldc .k (.g 0 rfl) (.b 0 rfl) tyI) (.k (faddr .k (.b 1 rfl) rfl fPX) (.k (ldc .k (.g 2 rfl) (.b 1 rfl) tyI) (.k (add_ .k (.g 1 rfl) (.g 3 rfl) (Bd.wrap (Bd.add f1.x f2.x) (by decide))) (.k (quo_ .k (.g 4 rfl) .c (by decide) (half_wrap (Bd.add f1.x f2.x))) (.k (faddr .k (.b 0 rfl) rfl fPY) (.k (ldc .k (.g 6 rfl) (.b 0 rfl) tyI) (.k (faddr .k (.b 1 rfl) rfl fPY) (.k (ldc .k (.g 8 rfl) (.b 1 rfl) tyI) (.k (add_ .k (.g 7 rfl) (.g 9 rfl) (Bd.wrap (Bd.add f1.y f2.y) (by decide))) (.k (quo_ .k (.g 10 rfl) .c (by decide) (half_wrap (Bd.add f1.y f2.y))) (.k (bld .k (.k (.g 5 rfl) (.k (.g 11 rfl) .n)) (bP _ _) (aP _ _)) (.k (sto .k (.b 2 rfl) (.g 12 rfl) tyP) (.k (asg .k .c) .n))))))))))))))) [] [13, 14] rfl rfl ?_
  refine Tr.ret (end_cell_tmp 0 1 rfl rfl rfl tyP)
end Go.Proofs.Ytmpbbodafenonaa

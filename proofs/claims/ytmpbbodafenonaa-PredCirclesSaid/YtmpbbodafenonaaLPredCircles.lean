/- PredCircles: the fourth place and the circle of the others, in other orders; plain words and the walk. -/
import Derived.Test.YtmpbbodafenonaaLPredOrients
set_option linter.unusedVariables false
set_option linter.unusedSimpArgs false
namespace Go.Proofs.Ytmpbbodafenonaa
open Go Go.RowKit Go.Proofs.Ytmpbbodafenonaa.Fx Go.Proofs.YtmpbbodafenonaaW.PrintWords
theorem all_cyc (ax ay bx b_y cx cy dx dy : Int) : allZ bx b_y cx cy ax ay dx dy = allZ ax ay bx b_y cx cy dx dy := by unfold allZ; omega
theorem tu_flip (x y u v : Int) : tuZ u v x y = -tuZ x y u v := by unfold tuZ; grind
theorem all_flip (ax ay bx b_y cx cy dx dy : Int) : allZ bx b_y ax ay cx cy dx dy = -allZ ax ay bx b_y cx cy dx dy := by
  unfold allZ
  rw [tu_flip (cx - dx) (cy - dy) (ax - dx), tu_flip (bx - dx) (b_y - dy) (cx - dx), tu_flip (ax - dx) (ay - dy) (bx - dx), Int.mul_neg, Int.mul_neg, Int.mul_neg]
  omega
theorem all4_zero (ax ay bx b_y cx cy : Int) : allZ ax ay bx b_y cx cy ax ay = 0 := by unfold allZ sqZ tuZ; grind
theorem inc_cyc (ax ay bx b_y cx cy dx dy : Int) : incZ bx b_y cx cy ax ay dx dy = incZ ax ay bx b_y cx cy dx dy := by
  unfold incZ
  rw [all_cyc, area_cyc]
  by_cases h1 : fit ax ay <;> by_cases h2 : fit bx b_y <;> by_cases h3 : fit cx cy <;> by_cases h4 : fit dx dy <;> simp [h1, h2, h3, h4]
theorem inc_flip (ax ay bx b_y cx cy dx dy : Int) : incZ bx b_y ax ay cx cy dx dy = incZ ax ay bx b_y cx cy dx dy := by
  unfold incZ
  rw [all_flip, area_flip, sgn_negz, sgn_negz, Int.neg_mul_neg]
  by_cases h1 : fit ax ay <;> by_cases h2 : fit bx b_y <;> by_cases h3 : fit cx cy <;> by_cases h4 : fit dx dy <;> simp [h1, h2, h3, h4]
theorem inc_same (ax ay bx b_y cx cy : Int) : incZ ax ay bx b_y cx cy ax ay = 0 := by
  unfold incZ
  rw [all4_zero]
  split
  · exact Int.zero_mul _
  · rfl
set_option maxRecDepth 100000 in
theorem law_PredCircles {ax ay bx b_y cx cy dx dy : Int} : FnC Try.prog 12 [.is (ptv ax ay), .is (ptv bx b_y), .is (ptv cx cy), .is (ptv dx dy)] (bv true) := by
 refine FnC.of (N := 51) Try.func12 rfl rfl (Nat.le_of_ble_eq_true rfl) (fun w0 ok0 => ?_)
 refine Tr.rs [] (.k (bxx .k (.b 0 rfl)) (.k (bxx .k (.b 1 rfl)) (.k (bxx .k (.b 2 rfl)) (.k (bxx .k (.b 3 rfl)) (.k (asg .k .c) .n))))) [] [0, 1, 2, 3] rfl rfl ?_
 refine Tr.rs [] (.k (ld .k (.b 0 rfl) tyP) (.k (ld .k (.b 1 rfl) tyP) (.k (ld .k (.b 2 rfl) tyP) (.k (ld .k (.b 3 rfl) tyP) (.k (cal .k Try.func47 rfl fn_InCircle (.k (.g 0 rfl) (.k (.g 1 rfl) (.k (.g 2 rfl) (.k (.g 3 rfl) .n))))) (.k (asg .k (.g 4 rfl)) .n)))))) [0, 1, 2, 3] [5] rfl rfl ?_
 refine Tr.rs [] (.k (mv .k (.b 4 rfl)) (.k (ld .k (.b 0 rfl) tyP) (.k (ld .k (.b 1 rfl) tyP) (.k (ld .k (.b 2 rfl) tyP) (.k (ld .k (.b 3 rfl) tyP) (.k (cal .k Try.func48 rfl fn_rInCircle (.k (.g 1 rfl) (.k (.g 2 rfl) (.k (.g 3 rfl) (.k (.g 4 rfl) .n))))) (.k (eq_ .k (.g 0 rfl) (.g 5 rfl) (show (_ == _) = true from (beq_self_eq_true _))) (.k (mv .k (.g 6 rfl)) (.k (ld (.on (.g 7 rfl) rfl rfl) (.b 1 rfl) tyP) (.k (ld (.on (.g 7 rfl) rfl rfl) (.b 2 rfl) tyP) (.k (ld (.on (.g 7 rfl) rfl rfl) (.b 0 rfl) tyP) (.k (ld (.on (.g 7 rfl) rfl rfl) (.b 3 rfl) tyP) (.k (cal (.on (.g 7 rfl) rfl rfl) Try.func47 rfl fn_InCircle (.k (.g 8 rfl) (.k (.g 9 rfl) (.k (.g 10 rfl) (.k (.g 11 rfl) .n))))) (.k (mv (.on (.g 7 rfl) rfl rfl) (.b 4 rfl)) (.k (eq_ (.on (.g 7 rfl) rfl rfl) (.g 12 rfl) (.g 13 rfl) (show (_ == _) = true from (beq_iff_eq.2 (inc_cyc ..)))) (.k (pickT .k (.g 7 rfl) (.g 14 rfl)) (.k (mv .k (.g 15 rfl)) (.k (ld (.on (.g 16 rfl) rfl rfl) (.b 1 rfl) tyP) (.k (ld (.on (.g 16 rfl) rfl rfl) (.b 0 rfl) tyP) (.k (ld (.on (.g 16 rfl) rfl rfl) (.b 2 rfl) tyP) (.k (ld (.on (.g 16 rfl) rfl rfl) (.b 3 rfl) tyP) (.k (cal (.on (.g 16 rfl) rfl rfl) Try.func47 rfl fn_InCircle (.k (.g 17 rfl) (.k (.g 18 rfl) (.k (.g 19 rfl) (.k (.g 20 rfl) .n))))) (.k (mv (.on (.g 16 rfl) rfl rfl) (.b 4 rfl)) (.k (eq_ (.on (.g 16 rfl) rfl rfl) (.g 21 rfl) (.g 22 rfl) (show (_ == _) = true from (beq_iff_eq.2 (inc_flip ..)))) (.k (pickT .k (.g 16 rfl) (.g 23 rfl)) (.k (mv .k (.g 24 rfl)) (.k (ld (.on (.g 25 rfl) rfl rfl) (.b 0 rfl) tyP) (.k (ld (.on (.g 25 rfl) rfl rfl) (.b 1 rfl) tyP) (.k (ld (.on (.g 25 rfl) rfl rfl) (.b 2 rfl) tyP) (.k (ld (.on (.g 25 rfl) rfl rfl) (.b 0 rfl) tyP) (.k (cal (.on (.g 25 rfl) rfl rfl) Try.func47 rfl fn_InCircle (.k (.g 26 rfl) (.k (.g 27 rfl) (.k (.g 28 rfl) (.k (.g 29 rfl) .n))))) (.k (eq_ (.on (.g 25 rfl) rfl rfl) (.g 30 rfl) .c (show (_ == _) = true from (beq_iff_eq.2 (inc_same ..)))) (.k (pickT .k (.g 25 rfl) (.g 31 rfl)) (.k (mv .k (.g 32 rfl)) (.k (cal (.on (.g 33 rfl) rfl rfl) Try.func46 rfl fn_known .n) (.k (pickT .k (.g 33 rfl) (.g 34 rfl)) (.k (asg .k (.g 35 rfl)) .n))))))))))))))))))))))))))))))))))))) [] [36] rfl rfl ?_
 refine Tr.ret (end_tmp 0 rfl rfl)
theorem predCircles_any (a0 b0 a1 b1 a2 b2 a3 b3 : Int) (W : World) (w0 : I64 a0 ∧ I64 b0) (w1 : I64 a1 ∧ I64 b1) (w2 : I64 a2 ∧ I64 b2) (w3 : I64 a3 ∧ I64 b3) : Calls Try.prog 12 #[ptv a0 b0, ptv a1 b1, ptv a2 b2, ptv a3 b3] W fun e w' => e = .returned (.bool true) ∧ Below W.heap.size W w' :=
  FnC.go (vs := [ptv a0 b0, ptv a1 b1, ptv a2 b2, ptv a3 b3]) law_PredCircles W ⟨rfl, rfl, rfl, rfl, trivial⟩
end Go.Proofs.Ytmpbbodafenonaa

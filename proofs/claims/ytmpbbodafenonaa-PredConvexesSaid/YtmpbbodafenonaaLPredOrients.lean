/- PredOrients: how three places turn, told in other orders; plain words and the walk. -/
import Derived.Test.YtmpbbodafenonaaLk
import Derived.Test.YtmpbbodafenonaaPtRow
set_option linter.unusedVariables false
set_option linter.unusedSimpArgs false
namespace Go.Proofs.Ytmpbbodafenonaa
open Go Go.RowKit Go.Proofs.Ytmpbbodafenonaa.Fx Go.Proofs.YtmpbbodafenonaaW.PrintWords
theorem sgn_negz (z : Int) : sgn (-z) = -sgn z := by rcases sgn_cases z with ⟨e, h⟩ | ⟨e, h⟩ | ⟨e, h⟩ <;> rcases sgn_cases (-z) with ⟨e', h'⟩ | ⟨e', h'⟩ | ⟨e', h'⟩ <;> rw [e, e'] <;> omega
theorem area_cyc (ax ay bx b_y cx cy : Int) : areaZ bx b_y cx cy ax ay = areaZ ax ay bx b_y cx cy := by unfold areaZ; grind
theorem area_flip (ax ay bx b_y cx cy : Int) : areaZ bx b_y ax ay cx cy = -areaZ ax ay bx b_y cx cy := by unfold areaZ; grind
theorem area_same (ax ay bx b_y : Int) : areaZ ax ay ax ay bx b_y = 0 := by unfold areaZ; grind
theorem ori_cyc (ax ay bx b_y cx cy : Int) : oriZ bx b_y cx cy ax ay = oriZ ax ay bx b_y cx cy := by
  unfold oriZ
  rw [area_cyc]
  by_cases h1 : fit ax ay <;> by_cases h2 : fit bx b_y <;> by_cases h3 : fit cx cy <;> simp [h1, h2, h3]
theorem ori_flip (ax ay bx b_y cx cy : Int) : oriZ bx b_y ax ay cx cy = -oriZ ax ay bx b_y cx cy := by
  unfold oriZ
  rw [area_flip, sgn_negz]
  by_cases h1 : fit ax ay <;> by_cases h2 : fit bx b_y <;> by_cases h3 : fit cx cy <;> simp [h1, h2, h3]
theorem ori_same (ax ay bx b_y : Int) : oriZ ax ay ax ay bx b_y = 0 := by
  unfold oriZ
  rw [area_same]
  split <;> rfl
theorem ori_wrap (ax ay bx b_y cx cy : Int) : IntKind.i64.wrap (0 - oriZ ax ay bx b_y cx cy) = -oriZ ax ay bx b_y cx cy := by
  have h : oriZ ax ay bx b_y cx cy = -1 ∨ oriZ ax ay bx b_y cx cy = 0 ∨ oriZ ax ay bx b_y cx cy = 1 := by
    unfold oriZ
    split
    · rcases sgn_cases (areaZ ax ay bx b_y cx cy) with ⟨e, _⟩ | ⟨e, _⟩ | ⟨e, _⟩ <;> simp [e]
    · simp
  rcases h with h | h | h <;> rw [h] <;> rfl
set_option maxRecDepth 100000 in
theorem law_PredOrients {ax ay bx b_y cx cy : Int} : FnC Try.prog 11 [.is (ptv ax ay), .is (ptv bx b_y), .is (ptv cx cy)] (bv true) := by
 refine FnC.of (N := 45) Try.func11 rfl rfl (Nat.le_of_ble_eq_true rfl) (fun w0 ok0 => ?_)
 refine Tr.rs [] (.k (bxx .k (.b 0 rfl)) (.k (bxx .k (.b 1 rfl)) (.k (bxx .k (.b 2 rfl)) (.k (asg .k .c) .n)))) [] [0, 1, 2] rfl rfl ?_
 refine Tr.rs [] (.k (ld .k (.b 0 rfl) tyP) (.k (ld .k (.b 1 rfl) tyP) (.k (ld .k (.b 2 rfl) tyP) (.k (cal .k Try.func44 rfl fn_Orient (.k (.g 0 rfl) (.k (.g 1 rfl) (.k (.g 2 rfl) .n)))) (.k (asg .k (.g 3 rfl)) .n))))) [0, 1, 2] [4] rfl rfl ?_
 refine Tr.rs [] (.k (mv .k (.b 3 rfl)) (.k (ld .k (.b 0 rfl) tyP) (.k (ld .k (.b 1 rfl) tyP) (.k (ld .k (.b 2 rfl) tyP) (.k (cal .k Try.func45 rfl fn_rOrient (.k (.g 1 rfl) (.k (.g 2 rfl) (.k (.g 3 rfl) .n)))) (.k (eq_ .k (.g 0 rfl) (.g 4 rfl) (show (_ == _) = true from (beq_self_eq_true _))) (.k (mv .k (.g 5 rfl)) (.k (ld (.on (.g 6 rfl) rfl rfl) (.b 1 rfl) tyP) (.k (ld (.on (.g 6 rfl) rfl rfl) (.b 2 rfl) tyP) (.k (ld (.on (.g 6 rfl) rfl rfl) (.b 0 rfl) tyP) (.k (cal (.on (.g 6 rfl) rfl rfl) Try.func44 rfl fn_Orient (.k (.g 7 rfl) (.k (.g 8 rfl) (.k (.g 9 rfl) .n)))) (.k (mv (.on (.g 6 rfl) rfl rfl) (.b 3 rfl)) (.k (eq_ (.on (.g 6 rfl) rfl rfl) (.g 10 rfl) (.g 11 rfl) (show (_ == _) = true from (beq_iff_eq.2 (ori_cyc ..)))) (.k (pickT .k (.g 6 rfl) (.g 12 rfl)) (.k (mv .k (.g 13 rfl)) (.k (ld (.on (.g 14 rfl) rfl rfl) (.b 1 rfl) tyP) (.k (ld (.on (.g 14 rfl) rfl rfl) (.b 0 rfl) tyP) (.k (ld (.on (.g 14 rfl) rfl rfl) (.b 2 rfl) tyP) (.k (cal (.on (.g 14 rfl) rfl rfl) Try.func44 rfl fn_Orient (.k (.g 15 rfl) (.k (.g 16 rfl) (.k (.g 17 rfl) .n)))) (.k (mv (.on (.g 14 rfl) rfl rfl) (.b 3 rfl)) (.k (min_ (.on (.g 14 rfl) rfl rfl) (.g 19 rfl) (ori_wrap ..)) (.k (eq_ (.on (.g 14 rfl) rfl rfl) (.g 18 rfl) (.g 20 rfl) (show (_ == _) = true from (beq_iff_eq.2 (ori_flip ..)))) (.k (pickT .k (.g 14 rfl) (.g 21 rfl)) (.k (mv .k (.g 22 rfl)) (.k (ld (.on (.g 23 rfl) rfl rfl) (.b 0 rfl) tyP) (.k (ld (.on (.g 23 rfl) rfl rfl) (.b 0 rfl) tyP) (.k (ld (.on (.g 23 rfl) rfl rfl) (.b 1 rfl) tyP) (.k (cal (.on (.g 23 rfl) rfl rfl) Try.func44 rfl fn_Orient (.k (.g 24 rfl) (.k (.g 25 rfl) (.k (.g 26 rfl) .n)))) (.k (eq_ (.on (.g 23 rfl) rfl rfl) (.g 27 rfl) .c (show (_ == _) = true from (beq_iff_eq.2 (ori_same ..)))) (.k (pickT .k (.g 23 rfl) (.g 28 rfl)) (.k (mv .k (.g 29 rfl)) (.k (cal (.on (.g 30 rfl) rfl rfl) Try.func46 rfl fn_known .n) (.k (pickT .k (.g 30 rfl) (.g 31 rfl)) (.k (asg .k (.g 32 rfl)) .n)))))))))))))))))))))))))))))))))) [] [33] rfl rfl ?_
 refine Tr.ret (end_tmp 0 rfl rfl)
theorem predOrients_any (a0 b0 a1 b1 a2 b2 : Int) (W : World) (w0 : I64 a0 ∧ I64 b0) (w1 : I64 a1 ∧ I64 b1) (w2 : I64 a2 ∧ I64 b2) : Calls Try.prog 11 #[ptv a0 b0, ptv a1 b1, ptv a2 b2] W fun e w' => e = .returned (.bool true) ∧ Below W.heap.size W w' :=
  FnC.go (vs := [ptv a0 b0, ptv a1 b1, ptv a2 b2]) law_PredOrients W ⟨rfl, rfl, rfl, trivial⟩
end Go.Proofs.Ytmpbbodafenonaa

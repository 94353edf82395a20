/- PredSkinny: the circle against the shortest side, in other orders, and halfway; plain words and the walk. -/
import Derived.Test.YtmpbbodafenonaaLPredOrients
set_option linter.unusedVariables false
set_option linter.unusedSimpArgs false
namespace Go.Proofs.Ytmpbbodafenonaa
open Go Go.RowKit Go.Proofs.Ytmpbbodafenonaa.Fx Go.Proofs.YtmpbbodafenonaaW.PrintWords
theorem way_flip (ax ay bx b_y : Int) : wayZ bx b_y ax ay = wayZ ax ay bx b_y := by unfold wayZ sqZ; grind
theorem ls_cyc (x y z : Int) : lsZ y z x = lsZ x y z := by unfold lsZ; (repeat' split) <;> omega
theorem ls_flip (x y z : Int) : lsZ x z y = lsZ x y z := by unfold lsZ; (repeat' split) <;> omega
theorem sk_eq (ax ay bx b_y cx cy : Int) : skB ax ay bx b_y cx cy = if fit ax ay ∧ fit bx b_y ∧ fit cx cy then skR (wayZ ax ay bx b_y) (wayZ bx b_y cx cy) (wayZ cx cy ax ay) (areaZ ax ay bx b_y cx cy) else false := by
  unfold skB
  rw [← sk_same, sho_area]
theorem sk_cyc (ax ay bx b_y cx cy : Int) : skB bx b_y cx cy ax ay = skB ax ay bx b_y cx cy := by
  rw [sk_eq, sk_eq, area_cyc]
  unfold skR
  rw [ls_cyc, show wayZ bx b_y cx cy * wayZ cx cy ax ay * wayZ ax ay bx b_y = wayZ ax ay bx b_y * wayZ bx b_y cx cy * wayZ cx cy ax ay by grind]
  by_cases h1 : fit ax ay <;> by_cases h2 : fit bx b_y <;> by_cases h3 : fit cx cy <;> simp [h1, h2, h3]
theorem sk_flip (ax ay bx b_y cx cy : Int) : skB bx b_y ax ay cx cy = skB ax ay bx b_y cx cy := by
  rw [sk_eq, sk_eq, area_flip]
  unfold skR
  rw [way_flip ax ay bx b_y, way_flip cx cy ax ay, way_flip bx b_y cx cy, ls_flip]
  obtain ⟨x, hx⟩ : ∃ x, x = wayZ ax ay bx b_y := ⟨_, rfl⟩
  obtain ⟨y, hy⟩ : ∃ y, y = wayZ bx b_y cx cy := ⟨_, rfl⟩
  obtain ⟨z, hz⟩ : ∃ z, z = wayZ cx cy ax ay := ⟨_, rfl⟩
  obtain ⟨t, ht⟩ : ∃ t, t = areaZ ax ay bx b_y cx cy := ⟨_, rfl⟩
  rw [← hx, ← hy, ← hz, ← ht]
  have e1 : x * z * y - 8 * lsZ x y z * -t * -t = x * y * z - 8 * lsZ x y z * t * t := by grind
  have e2 : decide (-t = 0) = decide (t = 0) := decide_eq_decide.2 (by omega)
  rw [e1, e2]
  by_cases h1 : fit ax ay <;> by_cases h2 : fit bx b_y <;> by_cases h3 : fit cx cy <;> simp [h1, h2, h3]
theorem and_same (x y : Int) : (x == x && y == y) = true := by simp
set_option maxRecDepth 100000 in
theorem law_PredSkinny {ax ay bx b_y cx cy : Int} : FnC Try.prog 17 [.is (ptv ax ay), .is (ptv bx b_y), .is (ptv cx cy)] (bv true) := by
 refine FnC.of (N := 63) Try.func17 rfl rfl (Nat.le_of_ble_eq_true rfl) (fun w0 ok0 => ?_)
 refine Tr.rs [] (.k (bxx .k (.b 0 rfl)) (.k (bxx .k (.b 1 rfl)) (.k (bxx .k (.b 2 rfl)) (.k (asg .k .c) .n)))) [] [0, 1, 2] rfl rfl ?_
 refine Tr.rs [] (.k (ld .k (.b 0 rfl) tyP) (.k (ld .k (.b 1 rfl) tyP) (.k (ld .k (.b 2 rfl) tyP) (.k (cal .k Try.func60 rfl fn_Skinny (.k (.g 0 rfl) (.k (.g 1 rfl) (.k (.g 2 rfl) .n)))) (.k (asg .k (.g 3 rfl)) .n))))) [0, 1, 2] [4] rfl rfl ?_
 refine Tr.rs [] (.k (ld .k (.b 0 rfl) tyP) (.k (ld .k (.b 1 rfl) tyP) (.k (cal .k Try.func63 rfl fn_Middle (.k (.g 0 rfl) (.k (.g 1 rfl) .n))) (.k (mv .k (.g 2 rfl)) (.k (exx .k (.g 3 rfl) rfl) (.k (exx .k (.g 3 rfl) rfl) (.k (ala .k zP) (.k (sta .k (.g 6 rfl) (.g 4 rfl) tyP) (.k (asg .k (.g 5 rfl)) .n))))))))) [0, 1, 2, 3] [7, 8] rfl rfl ?_
 refine Tr.rs [] (.k (ld .k (.b 0 rfl) tyP) (.k (ld .k (.b 1 rfl) tyP) (.k (cal .k Try.func64 rfl fn_rMiddle (.k (.g 0 rfl) (.k (.g 1 rfl) .n))) (.k (mv .k (.g 2 rfl)) (.k (exx .k (.g 3 rfl) rfl) (.k (exx .k (.g 3 rfl) rfl) (.k (ala .k zP) (.k (sta .k (.g 6 rfl) (.g 4 rfl) tyP) (.k (asg .k (.g 5 rfl)) .n))))))))) [0, 1, 2, 3, 4, 5] [7, 8] rfl rfl ?_
 refine Tr.rs [] (.k (mv .k (.b 3 rfl)) (.k (ld .k (.b 0 rfl) tyP) (.k (ld .k (.b 1 rfl) tyP) (.k (ld .k (.b 2 rfl) tyP) (.k (cal .k Try.func65 rfl fn_rSkinny (.k (.g 1 rfl) (.k (.g 2 rfl) (.k (.g 3 rfl) .n)))) (.k (eqB_ .k Try.underlying4 (.g 0 rfl) (.g 4 rfl) (beq_self_eq_true _)) (.k (mv .k (.g 5 rfl)) (.k (ld (.on (.g 6 rfl) rfl rfl) (.b 1 rfl) tyP) (.k (ld (.on (.g 6 rfl) rfl rfl) (.b 2 rfl) tyP) (.k (ld (.on (.g 6 rfl) rfl rfl) (.b 0 rfl) tyP) (.k (cal (.on (.g 6 rfl) rfl rfl) Try.func60 rfl fn_Skinny (.k (.g 7 rfl) (.k (.g 8 rfl) (.k (.g 9 rfl) .n)))) (.k (mv (.on (.g 6 rfl) rfl rfl) (.b 3 rfl)) (.k (eqB_ (.on (.g 6 rfl) rfl rfl) Try.underlying4 (.g 10 rfl) (.g 11 rfl) (beq_iff_eq.2 (sk_cyc ..))) (.k (pickT .k (.g 6 rfl) (.g 12 rfl)) (.k (mv .k (.g 13 rfl)) (.k (ld (.on (.g 14 rfl) rfl rfl) (.b 1 rfl) tyP) (.k (ld (.on (.g 14 rfl) rfl rfl) (.b 0 rfl) tyP) (.k (ld (.on (.g 14 rfl) rfl rfl) (.b 2 rfl) tyP) (.k (cal (.on (.g 14 rfl) rfl rfl) Try.func60 rfl fn_Skinny (.k (.g 15 rfl) (.k (.g 16 rfl) (.k (.g 17 rfl) .n)))) (.k (mv (.on (.g 14 rfl) rfl rfl) (.b 3 rfl)) (.k (eqB_ (.on (.g 14 rfl) rfl rfl) Try.underlying4 (.g 18 rfl) (.g 19 rfl) (beq_iff_eq.2 (sk_flip ..))) (.k (pickT .k (.g 14 rfl) (.g 20 rfl)) (.k (mv .k (.g 21 rfl)) (.k (ld (.on (.g 22 rfl) rfl rfl) (.b 4 rfl) tyP) (.k (ld (.on (.g 22 rfl) rfl rfl) (.b 6 rfl) tyP) (.k (eqS_ (.on (.g 22 rfl) rfl rfl) ptG (.g 23 rfl) (.g 24 rfl) (eqP _ _ _ _) (and_same ..)) (.k (pickT .k (.g 22 rfl) (.g 25 rfl)) (.k (mv .k (.g 26 rfl)) (.k (mv (.on (.g 27 rfl) rfl rfl) (.b 5 rfl)) (.k (mv (.on (.g 27 rfl) rfl rfl) (.b 7 rfl)) (.k (eqB_ (.on (.g 27 rfl) rfl rfl) Try.underlying4 (.g 28 rfl) (.g 29 rfl) (beq_self_eq_true _)) (.k (pickT .k (.g 27 rfl) (.g 30 rfl)) (.k (mv .k (.g 31 rfl)) (.k (cal (.on (.g 32 rfl) rfl rfl) Try.func46 rfl fn_known .n) (.k (pickT .k (.g 32 rfl) (.g 33 rfl)) (.k (asg .k (.g 34 rfl)) .n)))))))))))))))))))))))))))))))))))) [] [35] rfl rfl ?_
 refine Tr.ret (end_tmp 0 rfl rfl)
theorem predSkinny_any (a0 b0 a1 b1 a2 b2 : Int) (W : World) (w0 : I64 a0 ∧ I64 b0) (w1 : I64 a1 ∧ I64 b1) (w2 : I64 a2 ∧ I64 b2) : Calls Try.prog 17 #[ptv a0 b0, ptv a1 b1, ptv a2 b2] W fun e w' => e = .returned (.bool true) ∧ Below W.heap.size W w' :=
  FnC.go (vs := [ptv a0 b0, ptv a1 b1, ptv a2 b2]) law_PredSkinny W ⟨rfl, rfl, rfl, trivial⟩
end Go.Proofs.Ytmpbbodafenonaa

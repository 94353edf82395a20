/- PredDiscs: in the disc over a way, whichever way; plain words and the walk. -/
import Derived.Test.YtmpbbodafenonaaLk
import Derived.Test.YtmpbbodafenonaaPtRow
set_option linter.unusedVariables false
set_option linter.unusedSimpArgs false
namespace Go.Proofs.Ytmpbbodafenonaa
open Go Go.RowKit Go.Proofs.Ytmpbbodafenonaa.Fx Go.Proofs.YtmpbbodafenonaaW.PrintWords
theorem disc_flip (ax ay bx b_y px py : Int) : discZ bx b_y ax ay px py = discZ ax ay bx b_y px py := by unfold discZ; grind
theorem dis_flip (ax ay bx b_y px py : Int) : disB bx b_y ax ay px py = disB ax ay bx b_y px py := by
  unfold disB
  rw [disc_flip]
  by_cases h1 : fit ax ay <;> by_cases h2 : fit bx b_y <;> by_cases h3 : fit px py <;> cases same px py ax ay <;> cases same px py bx b_y <;> simp [h1, h2, h3]
theorem dis_same (ax ay px py : Int) : disB ax ay ax ay px py = false := by
  unfold disB
  split
  · rfl
  · rename_i h
    refine decide_eq_false ?_
    rw [sgn_le]
    intro h0
    apply h
    right; left
    unfold discZ at h0
    have h1 := sq_nn (ax - px)
    have h2 := sq_nn (ay - py)
    have h3 : (ax - px) * (ax - px) = 0 := by omega
    have h4 : (ay - py) * (ay - py) = 0 := by omega
    have h5 : ax - px = 0 := by rcases Int.mul_eq_zero.1 h3 with h | h <;> exact h
    have h6 : ay - py = 0 := by rcases Int.mul_eq_zero.1 h4 with h | h <;> exact h
    unfold same
    rw [show px = ax by omega, show py = ay by omega, beq_self_eq_true, beq_self_eq_true]; rfl
set_option maxRecDepth 100000 in
theorem law_PredDiscs {ax ay bx b_y px py : Int} : FnC Try.prog 13 [.is (ptv ax ay), .is (ptv bx b_y), .is (ptv px py)] (bv true) := by
 refine FnC.of (N := 36) Try.func13 rfl rfl (Nat.le_of_ble_eq_true rfl) (fun w0 ok0 => ?_)
 refine Tr.rs [] (.k (bxx .k (.b 0 rfl)) (.k (bxx .k (.b 1 rfl)) (.k (bxx .k (.b 2 rfl)) (.k (asg .k .c) .n)))) [] [0, 1, 2] rfl rfl ?_
 refine Tr.rs [] (.k (ld .k (.b 0 rfl) tyP) (.k (ld .k (.b 1 rfl) tyP) (.k (ld .k (.b 2 rfl) tyP) (.k (cal .k Try.func49 rfl fn_InDisc (.k (.g 0 rfl) (.k (.g 1 rfl) (.k (.g 2 rfl) .n)))) (.k (asg .k (.g 3 rfl)) .n))))) [0, 1, 2] [4] rfl rfl ?_
 refine Tr.rs [] (.k (mv .k (.b 3 rfl)) (.k (ld .k (.b 0 rfl) tyP) (.k (ld .k (.b 1 rfl) tyP) (.k (ld .k (.b 2 rfl) tyP) (.k (cal .k Try.func50 rfl fn_rInDisc (.k (.g 1 rfl) (.k (.g 2 rfl) (.k (.g 3 rfl) .n)))) (.k (eqB_ .k Try.underlying4 (.g 0 rfl) (.g 4 rfl) (beq_self_eq_true _)) (.k (mv .k (.g 5 rfl)) (.k (ld (.on (.g 6 rfl) rfl rfl) (.b 1 rfl) tyP) (.k (ld (.on (.g 6 rfl) rfl rfl) (.b 0 rfl) tyP) (.k (ld (.on (.g 6 rfl) rfl rfl) (.b 2 rfl) tyP) (.k (cal (.on (.g 6 rfl) rfl rfl) Try.func49 rfl fn_InDisc (.k (.g 7 rfl) (.k (.g 8 rfl) (.k (.g 9 rfl) .n)))) (.k (mv (.on (.g 6 rfl) rfl rfl) (.b 3 rfl)) (.k (eqB_ (.on (.g 6 rfl) rfl rfl) Try.underlying4 (.g 10 rfl) (.g 11 rfl) (beq_iff_eq.2 (dis_flip ..))) (.k (pickT .k (.g 6 rfl) (.g 12 rfl)) (.k (mv .k (.g 13 rfl)) (.k (ld (.on (.g 14 rfl) rfl rfl) (.b 0 rfl) tyP) (.k (ld (.on (.g 14 rfl) rfl rfl) (.b 0 rfl) tyP) (.k (ld (.on (.g 14 rfl) rfl rfl) (.b 2 rfl) tyP) (.k (cal (.on (.g 14 rfl) rfl rfl) Try.func49 rfl (show FnC _ _ _ (bv false) from dis_same ax ay px py ▸ fn_InDisc) (.k (.g 15 rfl) (.k (.g 16 rfl) (.k (.g 17 rfl) .n)))) (.k (not_ (.on (.g 14 rfl) rfl rfl) (.g 18 rfl)) (.k (pickT .k (.g 14 rfl) (.g 19 rfl)) (.k (mv .k (.g 20 rfl)) (.k (cal (.on (.g 21 rfl) rfl rfl) Try.func46 rfl fn_known .n) (.k (pickT .k (.g 21 rfl) (.g 22 rfl)) (.k (asg .k (.g 23 rfl)) .n))))))))))))))))))))))))) [] [24] rfl rfl ?_
 refine Tr.ret (end_tmp 0 rfl rfl)
theorem predDiscs_any (a0 b0 a1 b1 a2 b2 : Int) (W : World) (w0 : I64 a0 ∧ I64 b0) (w1 : I64 a1 ∧ I64 b1) (w2 : I64 a2 ∧ I64 b2) : Calls Try.prog 13 #[ptv a0 b0, ptv a1 b1, ptv a2 b2] W fun e w' => e = .returned (.bool true) ∧ Below W.heap.size W w' :=
  FnC.go (vs := [ptv a0 b0, ptv a1 b1, ptv a2 b2]) law_PredDiscs W ⟨rfl, rfl, rfl, trivial⟩
end Go.Proofs.Ytmpbbodafenonaa

/- PredTells: ends, middles, angles and circles; plain words and the walk. -/
import Derived.Test.YtmpbbodafenonaaLPredOrients
set_option linter.unusedVariables false
set_option linter.unusedSimpArgs false
namespace Go.Proofs.Ytmpbbodafenonaa
open Go Go.RowKit Go.Proofs.Ytmpbbodafenonaa.Fx Go.Proofs.YtmpbbodafenonaaW.PrintWords
theorem dis_end1 (ax ay bx b_y : Int) : disB ax ay bx b_y ax ay = false := by
  unfold disB
  rw [if_pos (.inr (.inl (by simp [same])))]
theorem dis_end2 (ax ay bx b_y : Int) : disB ax ay bx b_y bx b_y = false := by
  unfold disB
  rw [if_pos (.inr (.inr (by simp [same])))]
/-- Halfway, as numbers. -/
theorem mid_two {x : Int} (h : x.tmod 2 = 0) : 2 * x.tdiv 2 = x := by have := Int.mul_tdiv_add_tmod x 2; omega
theorem mid_fit {ax ay bx b_y : Int} (h : midP ax ay bx b_y) : fit ((ax + bx).tdiv 2) ((ay + b_y).tdiv 2) := by
  obtain ⟨h1, h2, h3, h4⟩ := h
  have e1 := mid_two h3
  have e2 := mid_two h4
  unfold fit at *
  omega
theorem mid_in {ax ay bx b_y : Int} (h : midP ax ay bx b_y) (hne : ¬ (ax = bx ∧ ay = b_y)) : disB ax ay bx b_y ((ax + bx).tdiv 2) ((ay + b_y).tdiv 2) = true := by
  have hm := mid_fit h
  have e1 := mid_two h.2.2.1
  have e2 := mid_two h.2.2.2
  obtain ⟨m, hm0⟩ : ∃ m, m = (ax + bx).tdiv 2 := ⟨_, rfl⟩
  obtain ⟨n, hn0⟩ : ∃ n, n = (ay + b_y).tdiv 2 := ⟨_, rfl⟩
  rw [← hm0, ← hn0] at hm ⊢
  rw [← hm0] at e1
  rw [← hn0] at e2
  unfold disB
  rw [if_neg (by
    rintro (h' | h' | h')
    · exact h' ⟨h.1, h.2.1, hm⟩
    · simp [same] at h'; omega
    · simp [same] at h'; omega)]
  refine decide_eq_true (sgn_le.2 ?_)
  unfold discZ
  rw [show bx - m = -(ax - m) by omega, show b_y - n = -(ay - n) by omega, Int.mul_neg, Int.mul_neg]
  have h1 := sq_nn (ax - m)
  have h2 := sq_nn (ay - n)
  omega
theorem all_mid {ax ay bx b_y cx cy m n : Int} (e1 : 2 * m = ax + bx) (e2 : 2 * n = ay + b_y) : allZ ax ay bx b_y cx cy m n = sqZ (ax - m) (ay - n) * areaZ ax ay bx b_y cx cy := by
  rw [show bx = 2 * m - ax by omega, show b_y = 2 * n - ay by omega]
  unfold allZ areaZ sqZ tuZ
  grind
theorem sgn_mul_pos {a b : Int} (h : 0 < a) : sgn (a * b) = sgn b := by
  rcases sgn_cases b with ⟨e, hb⟩ | ⟨e, hb⟩ | ⟨e, hb⟩
  · rw [e]; exact sgn_neg (Int.mul_neg_of_pos_of_neg h hb)
  · rw [hb, Int.mul_zero]
  · rw [e]; exact sgn_pos (Int.mul_pos h hb)
theorem inc_mid {ax ay bx b_y cx cy : Int} (h : midP ax ay bx b_y) (hn : oriZ ax ay bx b_y cx cy ≠ 0) : incZ ax ay bx b_y cx cy ((ax + bx).tdiv 2) ((ay + b_y).tdiv 2) = 1 := by
  have hm := mid_fit h
  unfold oriZ at hn
  split at hn
  · rename_i hf
    unfold incZ
    rw [if_pos ⟨hf.1, hf.2.1, hf.2.2, hm⟩, all_mid (mid_two h.2.2.1) (mid_two h.2.2.2)]
    have hs : 0 < sqZ (ax - (ax + bx).tdiv 2) (ay - (ay + b_y).tdiv 2) := by
      have h1 := sq_nn (ax - (ax + bx).tdiv 2)
      have h2 := sq_nn (ay - (ay + b_y).tdiv 2)
      unfold sqZ
      rcases Int.lt_or_eq_of_le (Int.add_nonneg h1 h2) with h3 | h3
      · exact h3
      · exfalso
        have h4 : (ax - (ax + bx).tdiv 2) * (ax - (ax + bx).tdiv 2) = 0 := by omega
        have h5 : (ay - (ay + b_y).tdiv 2) * (ay - (ay + b_y).tdiv 2) = 0 := by omega
        have h6 : ax - (ax + bx).tdiv 2 = 0 := by rcases Int.mul_eq_zero.1 h4 with h | h <;> exact h
        have h7 : ay - (ay + b_y).tdiv 2 = 0 := by rcases Int.mul_eq_zero.1 h5 with h | h <;> exact h
        have e1 := mid_two h.2.2.1
        have e2 := mid_two h.2.2.2
        have h8 : bx = ax := by omega
        have h9 : b_y = ay := by omega
        apply hn
        rw [h8, h9, area_same]
        rfl
    rw [sgn_mul_pos hs]
    rcases sgn_cases (areaZ ax ay bx b_y cx cy) with ⟨e, _⟩ | ⟨e, _⟩ | ⟨e, _⟩
    · rw [e]; rfl
    · exact absurd e hn
    · rw [e]; rfl
  · exact absurd rfl hn
theorem inc_b (ax ay bx b_y cx cy : Int) : incZ ax ay bx b_y cx cy bx b_y = 0 := by
  unfold incZ
  rw [show allZ ax ay bx b_y cx cy bx b_y = 0 by unfold allZ sqZ tuZ; grind]
  split
  · exact Int.zero_mul _
  · rfl
theorem inc_c (ax ay bx b_y cx cy : Int) : incZ ax ay bx b_y cx cy cx cy = 0 := by
  unfold incZ
  rw [show allZ ax ay bx b_y cx cy cx cy = 0 by unfold allZ sqZ tuZ; grind]
  split
  · exact Int.zero_mul _
  · rfl
theorem dis_le {ax ay bx b_y px py : Int} (h : disB ax ay bx b_y px py = true) : discZ ax ay bx b_y px py ≤ 0 := by
  unfold disB at h
  split at h
  · cases h
  · exact sgn_le.1 (of_decide_eq_true h)
theorem three_dis {ax ay bx b_y cx cy : Int} (h1 : disB ax ay bx b_y cx cy = true) (h2 : disB bx b_y cx cy ax ay = true) : oriZ ax ay bx b_y cx cy = 0 := by
  have d1 := dis_le h1
  have d2 := dis_le h2
  have e : discZ ax ay bx b_y cx cy + discZ bx b_y cx cy ax ay = (cx - ax) * (cx - ax) + (cy - ay) * (cy - ay) := by unfold discZ; grind
  have s1 := sq_nn (cx - ax)
  have s2 := sq_nn (cy - ay)
  have h4 : (cx - ax) * (cx - ax) = 0 := by omega
  have h5 : (cy - ay) * (cy - ay) = 0 := by omega
  have h6 : cx - ax = 0 := by rcases Int.mul_eq_zero.1 h4 with h | h <;> exact h
  have h7 : cy - ay = 0 := by rcases Int.mul_eq_zero.1 h5 with h | h <;> exact h
  unfold oriZ areaZ
  rw [h6, h7]
  simp
  intros; rfl
theorem ways4 (ax ay bx b_y : Int) : ¬ midP ax ay bx b_y ∨ midP ax ay bx b_y ∧ (ax = bx ∧ ay = b_y) ∨ midP ax ay bx b_y ∧ ¬ (ax = bx ∧ ay = b_y) := by
  by_cases h1 : midP ax ay bx b_y
  · by_cases h2 : ax = bx ∧ ay = b_y
    · exact .inr (.inl ⟨h1, h2⟩)
    · exact .inr (.inr ⟨h1, h2⟩)
  · exact .inl h1
theorem ways7 (ax ay bx b_y cx cy : Int) : oriZ ax ay bx b_y cx cy = 0 ∨ oriZ ax ay bx b_y cx cy ≠ 0 ∧ ¬ midP ax ay bx b_y ∨ oriZ ax ay bx b_y cx cy ≠ 0 ∧ midP ax ay bx b_y := by
  by_cases h2 : oriZ ax ay bx b_y cx cy = 0
  · exact .inl h2
  · by_cases h1 : midP ax ay bx b_y
    · exact .inr (.inr ⟨h2, h1⟩)
    · exact .inr (.inl ⟨h2, h1⟩)
theorem ways11 (ax ay bx b_y cx cy : Int) : disB ax ay bx b_y cx cy = false ∨ disB ax ay bx b_y cx cy = true ∧ oriZ ax ay bx b_y cx cy = 0 ∨ disB ax ay bx b_y cx cy = true ∧ oriZ ax ay bx b_y cx cy ≠ 0 ∧ disB bx b_y cx cy ax ay = false := by
  cases h1 : disB ax ay bx b_y cx cy
  · exact .inl rfl
  · by_cases h2 : oriZ ax ay bx b_y cx cy = 0
    · exact .inr (.inl ⟨rfl, h2⟩)
    · cases h3 : disB bx b_y cx cy ax ay
      · exact .inr (.inr ⟨rfl, h2, rfl⟩)
      · exact absurd (three_dis h1 h3) h2
theorem mid_in' {ax ay bx b_y : Int} (h : midP ax ay bx b_y) (hne : ¬ (ax = bx ∧ ay = b_y)) : disB ax ay bx b_y (if midP ax ay bx b_y then (ax + bx).tdiv 2 else 0) (if midP ax ay bx b_y then (ay + b_y).tdiv 2 else 0) = true := by
  rw [if_pos h, if_pos h]
  exact mid_in h hne
theorem inc_mid' {ax ay bx b_y cx cy : Int} (h : midP ax ay bx b_y) (hn : oriZ ax ay bx b_y cx cy ≠ 0) : incZ ax ay bx b_y cx cy (if midP ax ay bx b_y then (ax + bx).tdiv 2 else 0) (if midP ax ay bx b_y then (ay + b_y).tdiv 2 else 0) = 1 := by
  rw [if_pos h, if_pos h]
  exact inc_mid h hn
section
variable {P : Program} {w0 : World} {ok0 : Nat → Prop} {N : Nat} {R : Rg} {ops : Array Oper} {Q : Exit → Act → World → Prop} {i : Nat} {o : Oper}
/-- A truth handed on, of which the answer is known. -/
theorem mvk {d : Tmp} {b r : Bool} {x : Operand} (hh : Pl R ops i o (some d) (.move x) true) (hx : Vl R i x (bv b)) (hr : b = r) : Does P w0 ok0 N R ops Q i o (some (.s d (bv r))) := hr ▸ mv hh hx
end
set_option maxRecDepth 100000 in
set_option maxHeartbeats 8000000 in
theorem law_PredTells {ax ay bx b_y cx cy : Int} : FnC Try.prog 18 [.is (ptv ax ay), .is (ptv bx b_y), .is (ptv cx cy)] (bv true) := by
 refine FnC.of (N := 96) Try.func18 rfl rfl (Nat.le_of_ble_eq_true rfl) (fun w0 ok0 => ?_)
 refine Tr.rs [] (.k (bxx .k (.b 0 rfl)) (.k (bxx .k (.b 1 rfl)) (.k (bxx .k (.b 2 rfl)) (.k (asg .k .c) .n)))) [] [0, 1, 2] rfl rfl ?_
 refine Tr.seq (Tr.rs [] (.k (ld .k (.b 0 rfl) tyP) (.k (ld .k (.b 1 rfl) tyP) (.k (ld .k (.b 0 rfl) tyP) (.k (cal .k Try.func49 rfl (show FnC _ _ _ (bv false) from dis_end1 ax ay bx b_y ▸ fn_InDisc) (.k (.g 0 rfl) (.k (.g 1 rfl) (.k (.g 2 rfl) .n)))) (.k (mv .k (.g 3 rfl)) (.k (ld (.on (.g 4 rfl) rfl rfl) (.b 0 rfl) tyP) (.k (ld (.on (.g 4 rfl) rfl rfl) (.b 1 rfl) tyP) (.k (ld (.on (.g 4 rfl) rfl rfl) (.b 1 rfl) tyP) (.k (cal (.on (.g 4 rfl) rfl rfl) Try.func49 rfl (show FnC _ _ _ (bv false) from dis_end2 ax ay bx b_y ▸ fn_InDisc) (.k (.g 5 rfl) (.k (.g 6 rfl) (.k (.g 7 rfl) .n)))) (.k (pickF .k (.g 4 rfl) (.g 8 rfl)) .n)))))))))) [0, 1, 2] [9] rfl rfl ?_)
 refine Tr.cond 3 rfl nofun (fun _ => ?_)
 refine Tr.skip (Nx.go (Tr.rs [] (.k (ld .k (.b 0 rfl) tyP) (.k (ld .k (.b 1 rfl) tyP) (.k (cal .k Try.func63 rfl fn_Middle (.k (.g 0 rfl) (.k (.g 1 rfl) .n))) (.k (mv .k (.g 2 rfl)) (.k (exx .k (.g 3 rfl) rfl) (.k (exx .k (.g 3 rfl) rfl) (.k (ala .k zP) (.k (sta .k (.g 6 rfl) (.g 4 rfl) tyP) (.k (asg .k (.g 5 rfl)) .n))))))))) [0, 1, 2] [7, 8] rfl rfl ?_))
 rcases ways4 ax ay bx b_y with hm | ⟨hm, he⟩ | ⟨hm, he⟩
 ·
  refine Tr.cut [.b 3 (.is (ptv ax ay)) 65 2, .b 4 (.is (ptv bx b_y)) 65 2, .b 5 (.is (ptv cx cy)) 65 2, .b 7 (.is (ptv (if midP ax ay bx b_y then (ax + bx).tdiv 2 else 0) (if midP ax ay bx b_y then (ay + b_y).tdiv 2 else 0))) 65 2, .s 8 (bv (decide (midP ax ay bx b_y)))] ?_ ?_
  ·
   refine Tr.rs [] (.k (mvk .k (.b 4 rfl) (decide_eq_false hm)) (.k (mv .k (.g 0 rfl)) (.k (skp (.on (.g 1 rfl) rfl rfl)) (.k (skp (.on (.g 1 rfl) rfl rfl)) (.k (skp (.on (.g 1 rfl) rfl rfl)) (.k (pickF .k (.g 1 rfl) .c) (.k (mv .k (.g 5 rfl)) (.k (skp (.on (.g 6 rfl) rfl rfl)) (.k (skp (.on (.g 6 rfl) rfl rfl)) (.k (skp (.on (.g 6 rfl) rfl rfl)) (.k (skp (.on (.g 6 rfl) rfl rfl)) (.k (skp (.on (.g 6 rfl) rfl rfl)) (.k (pickF .k (.g 6 rfl) .c) .n))))))))))))) [0, 1, 2, 3, 4] [12] rfl rfl ?_
   refine Tr.cond 5 rfl nofun (fun _ => ?_)
   refine Tr.skip (Nx.met _ (Sub.all (.cons 0 rfl (.cons 1 rfl (.cons 2 rfl (.cons 3 rfl (.cons 4 rfl .nil)))))))
  ·
   refine Tr.rs [] (.k (ld .k (.b 0 rfl) tyP) (.k (ld .k (.b 1 rfl) tyP) (.k (ld .k (.b 2 rfl) tyP) (.k (cal .k Try.func44 rfl fn_Orient (.k (.g 0 rfl) (.k (.g 1 rfl) (.k (.g 2 rfl) .n)))) (.k (asg .k (.g 3 rfl)) .n))))) [0, 1, 2, 3, 4] [4] rfl rfl ?_
   rcases ways7 ax ay bx b_y cx cy with hn | ⟨hn, hm⟩ | ⟨hn, hm⟩
   ·
    refine Tr.cut [.b 3 (.is (ptv ax ay)) 65 2, .b 4 (.is (ptv bx b_y)) 65 2, .b 5 (.is (ptv cx cy)) 65 2, .s 9 (iv (oriZ ax ay bx b_y cx cy))] ?_ ?_
    ·
     refine Tr.rs [] (.k (mv .k (.b 5 rfl)) (.k (ne_ .k (.g 0 rfl) .c (show (_ != _) = false from bne_eq_false_iff_eq.2 hn)) (.k (mv .k (.g 1 rfl)) (.k (skp (.on (.g 2 rfl) rfl rfl)) (.k (pickF .k (.g 2 rfl) .c) (.k (mv .k (.g 4 rfl)) (.k (skp (.on (.g 5 rfl) rfl rfl)) (.k (skp (.on (.g 5 rfl) rfl rfl)) (.k (skp (.on (.g 5 rfl) rfl rfl)) (.k (skp (.on (.g 5 rfl) rfl rfl)) (.k (skp (.on (.g 5 rfl) rfl rfl)) (.k (skp (.on (.g 5 rfl) rfl rfl)) (.k (pickF .k (.g 5 rfl) .c) .n))))))))))))) [0, 1, 2, 5] [12] rfl rfl ?_
     refine Tr.cond 4 rfl nofun (fun _ => ?_)
     refine Tr.skip (Nx.met _ (Sub.all (.cons 0 rfl (.cons 1 rfl (.cons 2 rfl (.cons 3 rfl .nil))))))
    ·
     refine Tr.seq (Tr.rs [] (.k (ld .k (.b 0 rfl) tyP) (.k (ld .k (.b 1 rfl) tyP) (.k (ld .k (.b 2 rfl) tyP) (.k (ld .k (.b 1 rfl) tyP) (.k (cal .k Try.func47 rfl fn_InCircle (.k (.g 0 rfl) (.k (.g 1 rfl) (.k (.g 2 rfl) (.k (.g 3 rfl) .n))))) (.k (ne_ .k (.g 4 rfl) .c (show (_ != _) = false from bne_eq_false_iff_eq.2 (inc_b ..))) (.k (mv .k (.g 5 rfl)) (.k (ld (.on (.g 6 rfl) rfl rfl) (.b 0 rfl) tyP) (.k (ld (.on (.g 6 rfl) rfl rfl) (.b 1 rfl) tyP) (.k (ld (.on (.g 6 rfl) rfl rfl) (.b 2 rfl) tyP) (.k (ld (.on (.g 6 rfl) rfl rfl) (.b 2 rfl) tyP) (.k (cal (.on (.g 6 rfl) rfl rfl) Try.func47 rfl fn_InCircle (.k (.g 7 rfl) (.k (.g 8 rfl) (.k (.g 9 rfl) (.k (.g 10 rfl) .n))))) (.k (ne_ (.on (.g 6 rfl) rfl rfl) (.g 11 rfl) .c (show (_ != _) = false from bne_eq_false_iff_eq.2 (inc_c ..))) (.k (pickF .k (.g 6 rfl) (.g 12 rfl)) .n)))))))))))))) [0, 1, 2, 3] [13] rfl rfl ?_)
     refine Tr.cond 4 rfl nofun (fun _ => ?_)
     refine Tr.skip (Nx.go (?_))
     rcases ways11 ax ay bx b_y cx cy with hd | ⟨hd, hn⟩ | ⟨hd, hn, he⟩
     ·
      refine Tr.rs [] (.k (ld .k (.b 0 rfl) tyP) (.k (ld .k (.b 1 rfl) tyP) (.k (ld .k (.b 2 rfl) tyP) (.k (cal .k Try.func49 rfl (show FnC _ _ _ (bv false) from hd ▸ fn_InDisc) (.k (.g 0 rfl) (.k (.g 1 rfl) (.k (.g 2 rfl) .n)))) (.k (not_ .k (.g 3 rfl)) (.k (mv .k (.g 4 rfl)) (.k (skp (.on (.g 5 rfl) rfl rfl)) (.k (skp (.on (.g 5 rfl) rfl rfl)) (.k (pickT .k (.g 5 rfl) .c) (.k (mv .k (.g 8 rfl)) (.k (skp (.on (.g 9 rfl) rfl rfl)) (.k (skp (.on (.g 9 rfl) rfl rfl)) (.k (skp (.on (.g 9 rfl) rfl rfl)) (.k (skp (.on (.g 9 rfl) rfl rfl)) (.k (skp (.on (.g 9 rfl) rfl rfl)) (.k (pickT .k (.g 9 rfl) .c) (.k (mv .k (.g 15 rfl)) (.k (skp (.on (.g 16 rfl) rfl rfl)) (.k (skp (.on (.g 16 rfl) rfl rfl)) (.k (skp (.on (.g 16 rfl) rfl rfl)) (.k (skp (.on (.g 16 rfl) rfl rfl)) (.k (skp (.on (.g 16 rfl) rfl rfl)) (.k (pickT .k (.g 16 rfl) .c) (.k (mv .k (.g 22 rfl)) (.k (cal (.on (.g 23 rfl) rfl rfl) Try.func46 rfl fn_known .n) (.k (pickT .k (.g 23 rfl) (.g 24 rfl)) (.k (asg .k (.g 25 rfl)) .n))))))))))))))))))))))))))) [] [26] rfl rfl ?_
      refine Tr.ret (end_tmp 0 rfl rfl)
     ·
      refine Tr.rs [] (.k (ld .k (.b 0 rfl) tyP) (.k (ld .k (.b 1 rfl) tyP) (.k (ld .k (.b 2 rfl) tyP) (.k (cal .k Try.func49 rfl (show FnC _ _ _ (bv true) from hd ▸ fn_InDisc) (.k (.g 0 rfl) (.k (.g 1 rfl) (.k (.g 2 rfl) .n)))) (.k (not_ .k (.g 3 rfl)) (.k (mv .k (.g 4 rfl)) (.k (mv (.on (.g 5 rfl) rfl rfl) (.b 3 rfl)) (.k (eq_ (.on (.g 5 rfl) rfl rfl) (.g 6 rfl) .c (show (_ == _) = true from beq_iff_eq.2 hn)) (.k (pickF .k (.g 5 rfl) (.g 7 rfl)) (.k (mv .k (.g 8 rfl)) (.k (skp (.on (.g 9 rfl) rfl rfl)) (.k (skp (.on (.g 9 rfl) rfl rfl)) (.k (skp (.on (.g 9 rfl) rfl rfl)) (.k (skp (.on (.g 9 rfl) rfl rfl)) (.k (skp (.on (.g 9 rfl) rfl rfl)) (.k (pickT .k (.g 9 rfl) .c) (.k (mv .k (.g 15 rfl)) (.k (skp (.on (.g 16 rfl) rfl rfl)) (.k (skp (.on (.g 16 rfl) rfl rfl)) (.k (skp (.on (.g 16 rfl) rfl rfl)) (.k (skp (.on (.g 16 rfl) rfl rfl)) (.k (skp (.on (.g 16 rfl) rfl rfl)) (.k (pickT .k (.g 16 rfl) .c) (.k (mv .k (.g 22 rfl)) (.k (cal (.on (.g 23 rfl) rfl rfl) Try.func46 rfl fn_known .n) (.k (pickT .k (.g 23 rfl) (.g 24 rfl)) (.k (asg .k (.g 25 rfl)) .n))))))))))))))))))))))))))) [] [26] rfl rfl ?_
      refine Tr.ret (end_tmp 0 rfl rfl)
     ·
      refine Tr.rs [] (.k (ld .k (.b 0 rfl) tyP) (.k (ld .k (.b 1 rfl) tyP) (.k (ld .k (.b 2 rfl) tyP) (.k (cal .k Try.func49 rfl (show FnC _ _ _ (bv true) from hd ▸ fn_InDisc) (.k (.g 0 rfl) (.k (.g 1 rfl) (.k (.g 2 rfl) .n)))) (.k (not_ .k (.g 3 rfl)) (.k (mv .k (.g 4 rfl)) (.k (mv (.on (.g 5 rfl) rfl rfl) (.b 3 rfl)) (.k (eq_ (.on (.g 5 rfl) rfl rfl) (.g 6 rfl) .c (show (_ == _) = false from beq_eq_false_iff_ne.2 hn)) (.k (pickF .k (.g 5 rfl) (.g 7 rfl)) (.k (mv .k (.g 8 rfl)) (.k (ld (.on (.g 9 rfl) rfl rfl) (.b 1 rfl) tyP) (.k (ld (.on (.g 9 rfl) rfl rfl) (.b 2 rfl) tyP) (.k (ld (.on (.g 9 rfl) rfl rfl) (.b 0 rfl) tyP) (.k (cal (.on (.g 9 rfl) rfl rfl) Try.func49 rfl (show FnC _ _ _ (bv false) from he ▸ fn_InDisc) (.k (.g 10 rfl) (.k (.g 11 rfl) (.k (.g 12 rfl) .n)))) (.k (not_ (.on (.g 9 rfl) rfl rfl) (.g 13 rfl)) (.k (pickF .k (.g 9 rfl) (.g 14 rfl)) (.k (mv .k (.g 15 rfl)) (.k (skp (.on (.g 16 rfl) rfl rfl)) (.k (skp (.on (.g 16 rfl) rfl rfl)) (.k (skp (.on (.g 16 rfl) rfl rfl)) (.k (skp (.on (.g 16 rfl) rfl rfl)) (.k (skp (.on (.g 16 rfl) rfl rfl)) (.k (pickT .k (.g 16 rfl) .c) (.k (mv .k (.g 22 rfl)) (.k (cal (.on (.g 23 rfl) rfl rfl) Try.func46 rfl fn_known .n) (.k (pickT .k (.g 23 rfl) (.g 24 rfl)) (.k (asg .k (.g 25 rfl)) .n))))))))))))))))))))))))))) [] [26] rfl rfl ?_
      refine Tr.ret (end_tmp 0 rfl rfl)
   ·
    refine Tr.cut [.b 3 (.is (ptv ax ay)) 65 2, .b 4 (.is (ptv bx b_y)) 65 2, .b 5 (.is (ptv cx cy)) 65 2, .s 9 (iv (oriZ ax ay bx b_y cx cy))] ?_ ?_
    ·
     refine Tr.rs [] (.k (mv .k (.b 5 rfl)) (.k (ne_ .k (.g 0 rfl) .c (show (_ != _) = true from bne_iff_ne.2 hn)) (.k (mv .k (.g 1 rfl)) (.k (mvk (.on (.g 2 rfl) rfl rfl) (.b 4 rfl) (decide_eq_false hm)) (.k (pickT .k (.g 2 rfl) (.g 3 rfl)) (.k (mv .k (.g 4 rfl)) (.k (skp (.on (.g 5 rfl) rfl rfl)) (.k (skp (.on (.g 5 rfl) rfl rfl)) (.k (skp (.on (.g 5 rfl) rfl rfl)) (.k (skp (.on (.g 5 rfl) rfl rfl)) (.k (skp (.on (.g 5 rfl) rfl rfl)) (.k (skp (.on (.g 5 rfl) rfl rfl)) (.k (pickF .k (.g 5 rfl) .c) .n))))))))))))) [0, 1, 2, 5] [12] rfl rfl ?_
     refine Tr.cond 4 rfl nofun (fun _ => ?_)
     refine Tr.skip (Nx.met _ (Sub.all (.cons 0 rfl (.cons 1 rfl (.cons 2 rfl (.cons 3 rfl .nil))))))
    ·
     refine Tr.seq (Tr.rs [] (.k (ld .k (.b 0 rfl) tyP) (.k (ld .k (.b 1 rfl) tyP) (.k (ld .k (.b 2 rfl) tyP) (.k (ld .k (.b 1 rfl) tyP) (.k (cal .k Try.func47 rfl fn_InCircle (.k (.g 0 rfl) (.k (.g 1 rfl) (.k (.g 2 rfl) (.k (.g 3 rfl) .n))))) (.k (ne_ .k (.g 4 rfl) .c (show (_ != _) = false from bne_eq_false_iff_eq.2 (inc_b ..))) (.k (mv .k (.g 5 rfl)) (.k (ld (.on (.g 6 rfl) rfl rfl) (.b 0 rfl) tyP) (.k (ld (.on (.g 6 rfl) rfl rfl) (.b 1 rfl) tyP) (.k (ld (.on (.g 6 rfl) rfl rfl) (.b 2 rfl) tyP) (.k (ld (.on (.g 6 rfl) rfl rfl) (.b 2 rfl) tyP) (.k (cal (.on (.g 6 rfl) rfl rfl) Try.func47 rfl fn_InCircle (.k (.g 7 rfl) (.k (.g 8 rfl) (.k (.g 9 rfl) (.k (.g 10 rfl) .n))))) (.k (ne_ (.on (.g 6 rfl) rfl rfl) (.g 11 rfl) .c (show (_ != _) = false from bne_eq_false_iff_eq.2 (inc_c ..))) (.k (pickF .k (.g 6 rfl) (.g 12 rfl)) .n)))))))))))))) [0, 1, 2, 3] [13] rfl rfl ?_)
     refine Tr.cond 4 rfl nofun (fun _ => ?_)
     refine Tr.skip (Nx.go (?_))
     rcases ways11 ax ay bx b_y cx cy with hd | ⟨hd, hn⟩ | ⟨hd, hn, he⟩
     ·
      refine Tr.rs [] (.k (ld .k (.b 0 rfl) tyP) (.k (ld .k (.b 1 rfl) tyP) (.k (ld .k (.b 2 rfl) tyP) (.k (cal .k Try.func49 rfl (show FnC _ _ _ (bv false) from hd ▸ fn_InDisc) (.k (.g 0 rfl) (.k (.g 1 rfl) (.k (.g 2 rfl) .n)))) (.k (not_ .k (.g 3 rfl)) (.k (mv .k (.g 4 rfl)) (.k (skp (.on (.g 5 rfl) rfl rfl)) (.k (skp (.on (.g 5 rfl) rfl rfl)) (.k (pickT .k (.g 5 rfl) .c) (.k (mv .k (.g 8 rfl)) (.k (skp (.on (.g 9 rfl) rfl rfl)) (.k (skp (.on (.g 9 rfl) rfl rfl)) (.k (skp (.on (.g 9 rfl) rfl rfl)) (.k (skp (.on (.g 9 rfl) rfl rfl)) (.k (skp (.on (.g 9 rfl) rfl rfl)) (.k (pickT .k (.g 9 rfl) .c) (.k (mv .k (.g 15 rfl)) (.k (skp (.on (.g 16 rfl) rfl rfl)) (.k (skp (.on (.g 16 rfl) rfl rfl)) (.k (skp (.on (.g 16 rfl) rfl rfl)) (.k (skp (.on (.g 16 rfl) rfl rfl)) (.k (skp (.on (.g 16 rfl) rfl rfl)) (.k (pickT .k (.g 16 rfl) .c) (.k (mv .k (.g 22 rfl)) (.k (cal (.on (.g 23 rfl) rfl rfl) Try.func46 rfl fn_known .n) (.k (pickT .k (.g 23 rfl) (.g 24 rfl)) (.k (asg .k (.g 25 rfl)) .n))))))))))))))))))))))))))) [] [26] rfl rfl ?_
      refine Tr.ret (end_tmp 0 rfl rfl)
     ·
      refine Tr.rs [] (.k (ld .k (.b 0 rfl) tyP) (.k (ld .k (.b 1 rfl) tyP) (.k (ld .k (.b 2 rfl) tyP) (.k (cal .k Try.func49 rfl (show FnC _ _ _ (bv true) from hd ▸ fn_InDisc) (.k (.g 0 rfl) (.k (.g 1 rfl) (.k (.g 2 rfl) .n)))) (.k (not_ .k (.g 3 rfl)) (.k (mv .k (.g 4 rfl)) (.k (mv (.on (.g 5 rfl) rfl rfl) (.b 3 rfl)) (.k (eq_ (.on (.g 5 rfl) rfl rfl) (.g 6 rfl) .c (show (_ == _) = true from beq_iff_eq.2 hn)) (.k (pickF .k (.g 5 rfl) (.g 7 rfl)) (.k (mv .k (.g 8 rfl)) (.k (skp (.on (.g 9 rfl) rfl rfl)) (.k (skp (.on (.g 9 rfl) rfl rfl)) (.k (skp (.on (.g 9 rfl) rfl rfl)) (.k (skp (.on (.g 9 rfl) rfl rfl)) (.k (skp (.on (.g 9 rfl) rfl rfl)) (.k (pickT .k (.g 9 rfl) .c) (.k (mv .k (.g 15 rfl)) (.k (skp (.on (.g 16 rfl) rfl rfl)) (.k (skp (.on (.g 16 rfl) rfl rfl)) (.k (skp (.on (.g 16 rfl) rfl rfl)) (.k (skp (.on (.g 16 rfl) rfl rfl)) (.k (skp (.on (.g 16 rfl) rfl rfl)) (.k (pickT .k (.g 16 rfl) .c) (.k (mv .k (.g 22 rfl)) (.k (cal (.on (.g 23 rfl) rfl rfl) Try.func46 rfl fn_known .n) (.k (pickT .k (.g 23 rfl) (.g 24 rfl)) (.k (asg .k (.g 25 rfl)) .n))))))))))))))))))))))))))) [] [26] rfl rfl ?_
      refine Tr.ret (end_tmp 0 rfl rfl)
     ·
      refine Tr.rs [] (.k (ld .k (.b 0 rfl) tyP) (.k (ld .k (.b 1 rfl) tyP) (.k (ld .k (.b 2 rfl) tyP) (.k (cal .k Try.func49 rfl (show FnC _ _ _ (bv true) from hd ▸ fn_InDisc) (.k (.g 0 rfl) (.k (.g 1 rfl) (.k (.g 2 rfl) .n)))) (.k (not_ .k (.g 3 rfl)) (.k (mv .k (.g 4 rfl)) (.k (mv (.on (.g 5 rfl) rfl rfl) (.b 3 rfl)) (.k (eq_ (.on (.g 5 rfl) rfl rfl) (.g 6 rfl) .c (show (_ == _) = false from beq_eq_false_iff_ne.2 hn)) (.k (pickF .k (.g 5 rfl) (.g 7 rfl)) (.k (mv .k (.g 8 rfl)) (.k (ld (.on (.g 9 rfl) rfl rfl) (.b 1 rfl) tyP) (.k (ld (.on (.g 9 rfl) rfl rfl) (.b 2 rfl) tyP) (.k (ld (.on (.g 9 rfl) rfl rfl) (.b 0 rfl) tyP) (.k (cal (.on (.g 9 rfl) rfl rfl) Try.func49 rfl (show FnC _ _ _ (bv false) from he ▸ fn_InDisc) (.k (.g 10 rfl) (.k (.g 11 rfl) (.k (.g 12 rfl) .n)))) (.k (not_ (.on (.g 9 rfl) rfl rfl) (.g 13 rfl)) (.k (pickF .k (.g 9 rfl) (.g 14 rfl)) (.k (mv .k (.g 15 rfl)) (.k (skp (.on (.g 16 rfl) rfl rfl)) (.k (skp (.on (.g 16 rfl) rfl rfl)) (.k (skp (.on (.g 16 rfl) rfl rfl)) (.k (skp (.on (.g 16 rfl) rfl rfl)) (.k (skp (.on (.g 16 rfl) rfl rfl)) (.k (pickT .k (.g 16 rfl) .c) (.k (mv .k (.g 22 rfl)) (.k (cal (.on (.g 23 rfl) rfl rfl) Try.func46 rfl fn_known .n) (.k (pickT .k (.g 23 rfl) (.g 24 rfl)) (.k (asg .k (.g 25 rfl)) .n))))))))))))))))))))))))))) [] [26] rfl rfl ?_
      refine Tr.ret (end_tmp 0 rfl rfl)
   ·
    refine Tr.cut [.b 3 (.is (ptv ax ay)) 65 2, .b 4 (.is (ptv bx b_y)) 65 2, .b 5 (.is (ptv cx cy)) 65 2, .s 9 (iv (oriZ ax ay bx b_y cx cy))] ?_ ?_
    ·
     refine Tr.rs [] (.k (mv .k (.b 5 rfl)) (.k (ne_ .k (.g 0 rfl) .c (show (_ != _) = true from bne_iff_ne.2 hn)) (.k (mv .k (.g 1 rfl)) (.k (mvk (.on (.g 2 rfl) rfl rfl) (.b 4 rfl) (decide_eq_true hm)) (.k (pickT .k (.g 2 rfl) (.g 3 rfl)) (.k (mv .k (.g 4 rfl)) (.k (ld (.on (.g 5 rfl) rfl rfl) (.b 0 rfl) tyP) (.k (ld (.on (.g 5 rfl) rfl rfl) (.b 1 rfl) tyP) (.k (ld (.on (.g 5 rfl) rfl rfl) (.b 2 rfl) tyP) (.k (ld (.on (.g 5 rfl) rfl rfl) (.b 3 rfl) tyP) (.k (cal (.on (.g 5 rfl) rfl rfl) Try.func47 rfl (show FnC _ _ _ (iv 1) from inc_mid' hm hn ▸ fn_InCircle) (.k (.g 6 rfl) (.k (.g 7 rfl) (.k (.g 8 rfl) (.k (.g 9 rfl) .n))))) (.k (ne_ (.on (.g 5 rfl) rfl rfl) (.g 10 rfl) .c (show (_ != _) = false from bne_eq_false_iff_eq.2 rfl)) (.k (pickT .k (.g 5 rfl) (.g 11 rfl)) .n))))))))))))) [0, 1, 2, 5] [12] rfl rfl ?_
     refine Tr.cond 4 rfl nofun (fun _ => ?_)
     refine Tr.skip (Nx.met _ (Sub.all (.cons 0 rfl (.cons 1 rfl (.cons 2 rfl (.cons 3 rfl .nil))))))
    ·
     refine Tr.seq (Tr.rs [] (.k (ld .k (.b 0 rfl) tyP) (.k (ld .k (.b 1 rfl) tyP) (.k (ld .k (.b 2 rfl) tyP) (.k (ld .k (.b 1 rfl) tyP) (.k (cal .k Try.func47 rfl fn_InCircle (.k (.g 0 rfl) (.k (.g 1 rfl) (.k (.g 2 rfl) (.k (.g 3 rfl) .n))))) (.k (ne_ .k (.g 4 rfl) .c (show (_ != _) = false from bne_eq_false_iff_eq.2 (inc_b ..))) (.k (mv .k (.g 5 rfl)) (.k (ld (.on (.g 6 rfl) rfl rfl) (.b 0 rfl) tyP) (.k (ld (.on (.g 6 rfl) rfl rfl) (.b 1 rfl) tyP) (.k (ld (.on (.g 6 rfl) rfl rfl) (.b 2 rfl) tyP) (.k (ld (.on (.g 6 rfl) rfl rfl) (.b 2 rfl) tyP) (.k (cal (.on (.g 6 rfl) rfl rfl) Try.func47 rfl fn_InCircle (.k (.g 7 rfl) (.k (.g 8 rfl) (.k (.g 9 rfl) (.k (.g 10 rfl) .n))))) (.k (ne_ (.on (.g 6 rfl) rfl rfl) (.g 11 rfl) .c (show (_ != _) = false from bne_eq_false_iff_eq.2 (inc_c ..))) (.k (pickF .k (.g 6 rfl) (.g 12 rfl)) .n)))))))))))))) [0, 1, 2, 3] [13] rfl rfl ?_)
     refine Tr.cond 4 rfl nofun (fun _ => ?_)
     refine Tr.skip (Nx.go (?_))
     rcases ways11 ax ay bx b_y cx cy with hd | ⟨hd, hn⟩ | ⟨hd, hn, he⟩
     ·
      refine Tr.rs [] (.k (ld .k (.b 0 rfl) tyP) (.k (ld .k (.b 1 rfl) tyP) (.k (ld .k (.b 2 rfl) tyP) (.k (cal .k Try.func49 rfl (show FnC _ _ _ (bv false) from hd ▸ fn_InDisc) (.k (.g 0 rfl) (.k (.g 1 rfl) (.k (.g 2 rfl) .n)))) (.k (not_ .k (.g 3 rfl)) (.k (mv .k (.g 4 rfl)) (.k (skp (.on (.g 5 rfl) rfl rfl)) (.k (skp (.on (.g 5 rfl) rfl rfl)) (.k (pickT .k (.g 5 rfl) .c) (.k (mv .k (.g 8 rfl)) (.k (skp (.on (.g 9 rfl) rfl rfl)) (.k (skp (.on (.g 9 rfl) rfl rfl)) (.k (skp (.on (.g 9 rfl) rfl rfl)) (.k (skp (.on (.g 9 rfl) rfl rfl)) (.k (skp (.on (.g 9 rfl) rfl rfl)) (.k (pickT .k (.g 9 rfl) .c) (.k (mv .k (.g 15 rfl)) (.k (skp (.on (.g 16 rfl) rfl rfl)) (.k (skp (.on (.g 16 rfl) rfl rfl)) (.k (skp (.on (.g 16 rfl) rfl rfl)) (.k (skp (.on (.g 16 rfl) rfl rfl)) (.k (skp (.on (.g 16 rfl) rfl rfl)) (.k (pickT .k (.g 16 rfl) .c) (.k (mv .k (.g 22 rfl)) (.k (cal (.on (.g 23 rfl) rfl rfl) Try.func46 rfl fn_known .n) (.k (pickT .k (.g 23 rfl) (.g 24 rfl)) (.k (asg .k (.g 25 rfl)) .n))))))))))))))))))))))))))) [] [26] rfl rfl ?_
      refine Tr.ret (end_tmp 0 rfl rfl)
     ·
      refine Tr.rs [] (.k (ld .k (.b 0 rfl) tyP) (.k (ld .k (.b 1 rfl) tyP) (.k (ld .k (.b 2 rfl) tyP) (.k (cal .k Try.func49 rfl (show FnC _ _ _ (bv true) from hd ▸ fn_InDisc) (.k (.g 0 rfl) (.k (.g 1 rfl) (.k (.g 2 rfl) .n)))) (.k (not_ .k (.g 3 rfl)) (.k (mv .k (.g 4 rfl)) (.k (mv (.on (.g 5 rfl) rfl rfl) (.b 3 rfl)) (.k (eq_ (.on (.g 5 rfl) rfl rfl) (.g 6 rfl) .c (show (_ == _) = true from beq_iff_eq.2 hn)) (.k (pickF .k (.g 5 rfl) (.g 7 rfl)) (.k (mv .k (.g 8 rfl)) (.k (skp (.on (.g 9 rfl) rfl rfl)) (.k (skp (.on (.g 9 rfl) rfl rfl)) (.k (skp (.on (.g 9 rfl) rfl rfl)) (.k (skp (.on (.g 9 rfl) rfl rfl)) (.k (skp (.on (.g 9 rfl) rfl rfl)) (.k (pickT .k (.g 9 rfl) .c) (.k (mv .k (.g 15 rfl)) (.k (skp (.on (.g 16 rfl) rfl rfl)) (.k (skp (.on (.g 16 rfl) rfl rfl)) (.k (skp (.on (.g 16 rfl) rfl rfl)) (.k (skp (.on (.g 16 rfl) rfl rfl)) (.k (skp (.on (.g 16 rfl) rfl rfl)) (.k (pickT .k (.g 16 rfl) .c) (.k (mv .k (.g 22 rfl)) (.k (cal (.on (.g 23 rfl) rfl rfl) Try.func46 rfl fn_known .n) (.k (pickT .k (.g 23 rfl) (.g 24 rfl)) (.k (asg .k (.g 25 rfl)) .n))))))))))))))))))))))))))) [] [26] rfl rfl ?_
      refine Tr.ret (end_tmp 0 rfl rfl)
     ·
      refine Tr.rs [] (.k (ld .k (.b 0 rfl) tyP) (.k (ld .k (.b 1 rfl) tyP) (.k (ld .k (.b 2 rfl) tyP) (.k (cal .k Try.func49 rfl (show FnC _ _ _ (bv true) from hd ▸ fn_InDisc) (.k (.g 0 rfl) (.k (.g 1 rfl) (.k (.g 2 rfl) .n)))) (.k (not_ .k (.g 3 rfl)) (.k (mv .k (.g 4 rfl)) (.k (mv (.on (.g 5 rfl) rfl rfl) (.b 3 rfl)) (.k (eq_ (.on (.g 5 rfl) rfl rfl) (.g 6 rfl) .c (show (_ == _) = false from beq_eq_false_iff_ne.2 hn)) (.k (pickF .k (.g 5 rfl) (.g 7 rfl)) (.k (mv .k (.g 8 rfl)) (.k (ld (.on (.g 9 rfl) rfl rfl) (.b 1 rfl) tyP) (.k (ld (.on (.g 9 rfl) rfl rfl) (.b 2 rfl) tyP) (.k (ld (.on (.g 9 rfl) rfl rfl) (.b 0 rfl) tyP) (.k (cal (.on (.g 9 rfl) rfl rfl) Try.func49 rfl (show FnC _ _ _ (bv false) from he ▸ fn_InDisc) (.k (.g 10 rfl) (.k (.g 11 rfl) (.k (.g 12 rfl) .n)))) (.k (not_ (.on (.g 9 rfl) rfl rfl) (.g 13 rfl)) (.k (pickF .k (.g 9 rfl) (.g 14 rfl)) (.k (mv .k (.g 15 rfl)) (.k (skp (.on (.g 16 rfl) rfl rfl)) (.k (skp (.on (.g 16 rfl) rfl rfl)) (.k (skp (.on (.g 16 rfl) rfl rfl)) (.k (skp (.on (.g 16 rfl) rfl rfl)) (.k (skp (.on (.g 16 rfl) rfl rfl)) (.k (pickT .k (.g 16 rfl) .c) (.k (mv .k (.g 22 rfl)) (.k (cal (.on (.g 23 rfl) rfl rfl) Try.func46 rfl fn_known .n) (.k (pickT .k (.g 23 rfl) (.g 24 rfl)) (.k (asg .k (.g 25 rfl)) .n))))))))))))))))))))))))))) [] [26] rfl rfl ?_
      refine Tr.ret (end_tmp 0 rfl rfl)
 ·
  refine Tr.cut [.b 3 (.is (ptv ax ay)) 65 2, .b 4 (.is (ptv bx b_y)) 65 2, .b 5 (.is (ptv cx cy)) 65 2, .b 7 (.is (ptv (if midP ax ay bx b_y then (ax + bx).tdiv 2 else 0) (if midP ax ay bx b_y then (ay + b_y).tdiv 2 else 0))) 65 2, .s 8 (bv (decide (midP ax ay bx b_y)))] ?_ ?_
  ·
   refine Tr.rs [] (.k (mvk .k (.b 4 rfl) (decide_eq_true hm)) (.k (mv .k (.g 0 rfl)) (.k (ld (.on (.g 1 rfl) rfl rfl) (.b 0 rfl) tyP) (.k (ld (.on (.g 1 rfl) rfl rfl) (.b 1 rfl) tyP) (.k (neS_ (.on (.g 1 rfl) rfl rfl) ptG (.g 2 rfl) (.g 3 rfl) (eqP _ _ _ _) (show (!(ax == bx && ay == b_y)) = false by simp [he])) (.k (pickT .k (.g 1 rfl) (.g 4 rfl)) (.k (mv .k (.g 5 rfl)) (.k (skp (.on (.g 6 rfl) rfl rfl)) (.k (skp (.on (.g 6 rfl) rfl rfl)) (.k (skp (.on (.g 6 rfl) rfl rfl)) (.k (skp (.on (.g 6 rfl) rfl rfl)) (.k (skp (.on (.g 6 rfl) rfl rfl)) (.k (pickF .k (.g 6 rfl) .c) .n))))))))))))) [0, 1, 2, 3, 4] [12] rfl rfl ?_
   refine Tr.cond 5 rfl nofun (fun _ => ?_)
   refine Tr.skip (Nx.met _ (Sub.all (.cons 0 rfl (.cons 1 rfl (.cons 2 rfl (.cons 3 rfl (.cons 4 rfl .nil)))))))
  ·
   refine Tr.rs [] (.k (ld .k (.b 0 rfl) tyP) (.k (ld .k (.b 1 rfl) tyP) (.k (ld .k (.b 2 rfl) tyP) (.k (cal .k Try.func44 rfl fn_Orient (.k (.g 0 rfl) (.k (.g 1 rfl) (.k (.g 2 rfl) .n)))) (.k (asg .k (.g 3 rfl)) .n))))) [0, 1, 2, 3, 4] [4] rfl rfl ?_
   rcases ways7 ax ay bx b_y cx cy with hn | ⟨hn, hm⟩ | ⟨hn, hm⟩
   ·
    refine Tr.cut [.b 3 (.is (ptv ax ay)) 65 2, .b 4 (.is (ptv bx b_y)) 65 2, .b 5 (.is (ptv cx cy)) 65 2, .s 9 (iv (oriZ ax ay bx b_y cx cy))] ?_ ?_
    ·
     refine Tr.rs [] (.k (mv .k (.b 5 rfl)) (.k (ne_ .k (.g 0 rfl) .c (show (_ != _) = false from bne_eq_false_iff_eq.2 hn)) (.k (mv .k (.g 1 rfl)) (.k (skp (.on (.g 2 rfl) rfl rfl)) (.k (pickF .k (.g 2 rfl) .c) (.k (mv .k (.g 4 rfl)) (.k (skp (.on (.g 5 rfl) rfl rfl)) (.k (skp (.on (.g 5 rfl) rfl rfl)) (.k (skp (.on (.g 5 rfl) rfl rfl)) (.k (skp (.on (.g 5 rfl) rfl rfl)) (.k (skp (.on (.g 5 rfl) rfl rfl)) (.k (skp (.on (.g 5 rfl) rfl rfl)) (.k (pickF .k (.g 5 rfl) .c) .n))))))))))))) [0, 1, 2, 5] [12] rfl rfl ?_
     refine Tr.cond 4 rfl nofun (fun _ => ?_)
     refine Tr.skip (Nx.met _ (Sub.all (.cons 0 rfl (.cons 1 rfl (.cons 2 rfl (.cons 3 rfl .nil))))))
    ·
     refine Tr.seq (Tr.rs [] (.k (ld .k (.b 0 rfl) tyP) (.k (ld .k (.b 1 rfl) tyP) (.k (ld .k (.b 2 rfl) tyP) (.k (ld .k (.b 1 rfl) tyP) (.k (cal .k Try.func47 rfl fn_InCircle (.k (.g 0 rfl) (.k (.g 1 rfl) (.k (.g 2 rfl) (.k (.g 3 rfl) .n))))) (.k (ne_ .k (.g 4 rfl) .c (show (_ != _) = false from bne_eq_false_iff_eq.2 (inc_b ..))) (.k (mv .k (.g 5 rfl)) (.k (ld (.on (.g 6 rfl) rfl rfl) (.b 0 rfl) tyP) (.k (ld (.on (.g 6 rfl) rfl rfl) (.b 1 rfl) tyP) (.k (ld (.on (.g 6 rfl) rfl rfl) (.b 2 rfl) tyP) (.k (ld (.on (.g 6 rfl) rfl rfl) (.b 2 rfl) tyP) (.k (cal (.on (.g 6 rfl) rfl rfl) Try.func47 rfl fn_InCircle (.k (.g 7 rfl) (.k (.g 8 rfl) (.k (.g 9 rfl) (.k (.g 10 rfl) .n))))) (.k (ne_ (.on (.g 6 rfl) rfl rfl) (.g 11 rfl) .c (show (_ != _) = false from bne_eq_false_iff_eq.2 (inc_c ..))) (.k (pickF .k (.g 6 rfl) (.g 12 rfl)) .n)))))))))))))) [0, 1, 2, 3] [13] rfl rfl ?_)
     refine Tr.cond 4 rfl nofun (fun _ => ?_)
     refine Tr.skip (Nx.go (?_))
     rcases ways11 ax ay bx b_y cx cy with hd | ⟨hd, hn⟩ | ⟨hd, hn, he⟩
     ·
      refine Tr.rs [] (.k (ld .k (.b 0 rfl) tyP) (.k (ld .k (.b 1 rfl) tyP) (.k (ld .k (.b 2 rfl) tyP) (.k (cal .k Try.func49 rfl (show FnC _ _ _ (bv false) from hd ▸ fn_InDisc) (.k (.g 0 rfl) (.k (.g 1 rfl) (.k (.g 2 rfl) .n)))) (.k (not_ .k (.g 3 rfl)) (.k (mv .k (.g 4 rfl)) (.k (skp (.on (.g 5 rfl) rfl rfl)) (.k (skp (.on (.g 5 rfl) rfl rfl)) (.k (pickT .k (.g 5 rfl) .c) (.k (mv .k (.g 8 rfl)) (.k (skp (.on (.g 9 rfl) rfl rfl)) (.k (skp (.on (.g 9 rfl) rfl rfl)) (.k (skp (.on (.g 9 rfl) rfl rfl)) (.k (skp (.on (.g 9 rfl) rfl rfl)) (.k (skp (.on (.g 9 rfl) rfl rfl)) (.k (pickT .k (.g 9 rfl) .c) (.k (mv .k (.g 15 rfl)) (.k (skp (.on (.g 16 rfl) rfl rfl)) (.k (skp (.on (.g 16 rfl) rfl rfl)) (.k (skp (.on (.g 16 rfl) rfl rfl)) (.k (skp (.on (.g 16 rfl) rfl rfl)) (.k (skp (.on (.g 16 rfl) rfl rfl)) (.k (pickT .k (.g 16 rfl) .c) (.k (mv .k (.g 22 rfl)) (.k (cal (.on (.g 23 rfl) rfl rfl) Try.func46 rfl fn_known .n) (.k (pickT .k (.g 23 rfl) (.g 24 rfl)) (.k (asg .k (.g 25 rfl)) .n))))))))))))))))))))))))))) [] [26] rfl rfl ?_
      refine Tr.ret (end_tmp 0 rfl rfl)
     ·
      refine Tr.rs [] (.k (ld .k (.b 0 rfl) tyP) (.k (ld .k (.b 1 rfl) tyP) (.k (ld .k (.b 2 rfl) tyP) (.k (cal .k Try.func49 rfl (show FnC _ _ _ (bv true) from hd ▸ fn_InDisc) (.k (.g 0 rfl) (.k (.g 1 rfl) (.k (.g 2 rfl) .n)))) (.k (not_ .k (.g 3 rfl)) (.k (mv .k (.g 4 rfl)) (.k (mv (.on (.g 5 rfl) rfl rfl) (.b 3 rfl)) (.k (eq_ (.on (.g 5 rfl) rfl rfl) (.g 6 rfl) .c (show (_ == _) = true from beq_iff_eq.2 hn)) (.k (pickF .k (.g 5 rfl) (.g 7 rfl)) (.k (mv .k (.g 8 rfl)) (.k (skp (.on (.g 9 rfl) rfl rfl)) (.k (skp (.on (.g 9 rfl) rfl rfl)) (.k (skp (.on (.g 9 rfl) rfl rfl)) (.k (skp (.on (.g 9 rfl) rfl rfl)) (.k (skp (.on (.g 9 rfl) rfl rfl)) (.k (pickT .k (.g 9 rfl) .c) (.k (mv .k (.g 15 rfl)) (.k (skp (.on (.g 16 rfl) rfl rfl)) (.k (skp (.on (.g 16 rfl) rfl rfl)) (.k (skp (.on (.g 16 rfl) rfl rfl)) (.k (skp (.on (.g 16 rfl) rfl rfl)) (.k (skp (.on (.g 16 rfl) rfl rfl)) (.k (pickT .k (.g 16 rfl) .c) (.k (mv .k (.g 22 rfl)) (.k (cal (.on (.g 23 rfl) rfl rfl) Try.func46 rfl fn_known .n) (.k (pickT .k (.g 23 rfl) (.g 24 rfl)) (.k (asg .k (.g 25 rfl)) .n))))))))))))))))))))))))))) [] [26] rfl rfl ?_
      refine Tr.ret (end_tmp 0 rfl rfl)
     ·
      refine Tr.rs [] (.k (ld .k (.b 0 rfl) tyP) (.k (ld .k (.b 1 rfl) tyP) (.k (ld .k (.b 2 rfl) tyP) (.k (cal .k Try.func49 rfl (show FnC _ _ _ (bv true) from hd ▸ fn_InDisc) (.k (.g 0 rfl) (.k (.g 1 rfl) (.k (.g 2 rfl) .n)))) (.k (not_ .k (.g 3 rfl)) (.k (mv .k (.g 4 rfl)) (.k (mv (.on (.g 5 rfl) rfl rfl) (.b 3 rfl)) (.k (eq_ (.on (.g 5 rfl) rfl rfl) (.g 6 rfl) .c (show (_ == _) = false from beq_eq_false_iff_ne.2 hn)) (.k (pickF .k (.g 5 rfl) (.g 7 rfl)) (.k (mv .k (.g 8 rfl)) (.k (ld (.on (.g 9 rfl) rfl rfl) (.b 1 rfl) tyP) (.k (ld (.on (.g 9 rfl) rfl rfl) (.b 2 rfl) tyP) (.k (ld (.on (.g 9 rfl) rfl rfl) (.b 0 rfl) tyP) (.k (cal (.on (.g 9 rfl) rfl rfl) Try.func49 rfl (show FnC _ _ _ (bv false) from he ▸ fn_InDisc) (.k (.g 10 rfl) (.k (.g 11 rfl) (.k (.g 12 rfl) .n)))) (.k (not_ (.on (.g 9 rfl) rfl rfl) (.g 13 rfl)) (.k (pickF .k (.g 9 rfl) (.g 14 rfl)) (.k (mv .k (.g 15 rfl)) (.k (skp (.on (.g 16 rfl) rfl rfl)) (.k (skp (.on (.g 16 rfl) rfl rfl)) (.k (skp (.on (.g 16 rfl) rfl rfl)) (.k (skp (.on (.g 16 rfl) rfl rfl)) (.k (skp (.on (.g 16 rfl) rfl rfl)) (.k (pickT .k (.g 16 rfl) .c) (.k (mv .k (.g 22 rfl)) (.k (cal (.on (.g 23 rfl) rfl rfl) Try.func46 rfl fn_known .n) (.k (pickT .k (.g 23 rfl) (.g 24 rfl)) (.k (asg .k (.g 25 rfl)) .n))))))))))))))))))))))))))) [] [26] rfl rfl ?_
      refine Tr.ret (end_tmp 0 rfl rfl)
   ·
    refine Tr.cut [.b 3 (.is (ptv ax ay)) 65 2, .b 4 (.is (ptv bx b_y)) 65 2, .b 5 (.is (ptv cx cy)) 65 2, .s 9 (iv (oriZ ax ay bx b_y cx cy))] ?_ ?_
    ·
     refine Tr.rs [] (.k (mv .k (.b 5 rfl)) (.k (ne_ .k (.g 0 rfl) .c (show (_ != _) = true from bne_iff_ne.2 hn)) (.k (mv .k (.g 1 rfl)) (.k (mvk (.on (.g 2 rfl) rfl rfl) (.b 4 rfl) (decide_eq_false hm)) (.k (pickT .k (.g 2 rfl) (.g 3 rfl)) (.k (mv .k (.g 4 rfl)) (.k (skp (.on (.g 5 rfl) rfl rfl)) (.k (skp (.on (.g 5 rfl) rfl rfl)) (.k (skp (.on (.g 5 rfl) rfl rfl)) (.k (skp (.on (.g 5 rfl) rfl rfl)) (.k (skp (.on (.g 5 rfl) rfl rfl)) (.k (skp (.on (.g 5 rfl) rfl rfl)) (.k (pickF .k (.g 5 rfl) .c) .n))))))))))))) [0, 1, 2, 5] [12] rfl rfl ?_
     refine Tr.cond 4 rfl nofun (fun _ => ?_)
     refine Tr.skip (Nx.met _ (Sub.all (.cons 0 rfl (.cons 1 rfl (.cons 2 rfl (.cons 3 rfl .nil))))))
    ·
     refine Tr.seq (Tr.rs [] (.k (ld .k (.b 0 rfl) tyP) (.k (ld .k (.b 1 rfl) tyP) (.k (ld .k (.b 2 rfl) tyP) (.k (ld .k (.b 1 rfl) tyP) (.k (cal .k Try.func47 rfl fn_InCircle (.k (.g 0 rfl) (.k (.g 1 rfl) (.k (.g 2 rfl) (.k (.g 3 rfl) .n))))) (.k (ne_ .k (.g 4 rfl) .c (show (_ != _) = false from bne_eq_false_iff_eq.2 (inc_b ..))) (.k (mv .k (.g 5 rfl)) (.k (ld (.on (.g 6 rfl) rfl rfl) (.b 0 rfl) tyP) (.k (ld (.on (.g 6 rfl) rfl rfl) (.b 1 rfl) tyP) (.k (ld (.on (.g 6 rfl) rfl rfl) (.b 2 rfl) tyP) (.k (ld (.on (.g 6 rfl) rfl rfl) (.b 2 rfl) tyP) (.k (cal (.on (.g 6 rfl) rfl rfl) Try.func47 rfl fn_InCircle (.k (.g 7 rfl) (.k (.g 8 rfl) (.k (.g 9 rfl) (.k (.g 10 rfl) .n))))) (.k (ne_ (.on (.g 6 rfl) rfl rfl) (.g 11 rfl) .c (show (_ != _) = false from bne_eq_false_iff_eq.2 (inc_c ..))) (.k (pickF .k (.g 6 rfl) (.g 12 rfl)) .n)))))))))))))) [0, 1, 2, 3] [13] rfl rfl ?_)
     refine Tr.cond 4 rfl nofun (fun _ => ?_)
     refine Tr.skip (Nx.go (?_))
     rcases ways11 ax ay bx b_y cx cy with hd | ⟨hd, hn⟩ | ⟨hd, hn, he⟩
     ·
      refine Tr.rs [] (.k (ld .k (.b 0 rfl) tyP) (.k (ld .k (.b 1 rfl) tyP) (.k (ld .k (.b 2 rfl) tyP) (.k (cal .k Try.func49 rfl (show FnC _ _ _ (bv false) from hd ▸ fn_InDisc) (.k (.g 0 rfl) (.k (.g 1 rfl) (.k (.g 2 rfl) .n)))) (.k (not_ .k (.g 3 rfl)) (.k (mv .k (.g 4 rfl)) (.k (skp (.on (.g 5 rfl) rfl rfl)) (.k (skp (.on (.g 5 rfl) rfl rfl)) (.k (pickT .k (.g 5 rfl) .c) (.k (mv .k (.g 8 rfl)) (.k (skp (.on (.g 9 rfl) rfl rfl)) (.k (skp (.on (.g 9 rfl) rfl rfl)) (.k (skp (.on (.g 9 rfl) rfl rfl)) (.k (skp (.on (.g 9 rfl) rfl rfl)) (.k (skp (.on (.g 9 rfl) rfl rfl)) (.k (pickT .k (.g 9 rfl) .c) (.k (mv .k (.g 15 rfl)) (.k (skp (.on (.g 16 rfl) rfl rfl)) (.k (skp (.on (.g 16 rfl) rfl rfl)) (.k (skp (.on (.g 16 rfl) rfl rfl)) (.k (skp (.on (.g 16 rfl) rfl rfl)) (.k (skp (.on (.g 16 rfl) rfl rfl)) (.k (pickT .k (.g 16 rfl) .c) (.k (mv .k (.g 22 rfl)) (.k (cal (.on (.g 23 rfl) rfl rfl) Try.func46 rfl fn_known .n) (.k (pickT .k (.g 23 rfl) (.g 24 rfl)) (.k (asg .k (.g 25 rfl)) .n))))))))))))))))))))))))))) [] [26] rfl rfl ?_
      refine Tr.ret (end_tmp 0 rfl rfl)
     ·
      refine Tr.rs [] (.k (ld .k (.b 0 rfl) tyP) (.k (ld .k (.b 1 rfl) tyP) (.k (ld .k (.b 2 rfl) tyP) (.k (cal .k Try.func49 rfl (show FnC _ _ _ (bv true) from hd ▸ fn_InDisc) (.k (.g 0 rfl) (.k (.g 1 rfl) (.k (.g 2 rfl) .n)))) (.k (not_ .k (.g 3 rfl)) (.k (mv .k (.g 4 rfl)) (.k (mv (.on (.g 5 rfl) rfl rfl) (.b 3 rfl)) (.k (eq_ (.on (.g 5 rfl) rfl rfl) (.g 6 rfl) .c (show (_ == _) = true from beq_iff_eq.2 hn)) (.k (pickF .k (.g 5 rfl) (.g 7 rfl)) (.k (mv .k (.g 8 rfl)) (.k (skp (.on (.g 9 rfl) rfl rfl)) (.k (skp (.on (.g 9 rfl) rfl rfl)) (.k (skp (.on (.g 9 rfl) rfl rfl)) (.k (skp (.on (.g 9 rfl) rfl rfl)) (.k (skp (.on (.g 9 rfl) rfl rfl)) (.k (pickT .k (.g 9 rfl) .c) (.k (mv .k (.g 15 rfl)) (.k (skp (.on (.g 16 rfl) rfl rfl)) (.k (skp (.on (.g 16 rfl) rfl rfl)) (.k (skp (.on (.g 16 rfl) rfl rfl)) (.k (skp (.on (.g 16 rfl) rfl rfl)) (.k (skp (.on (.g 16 rfl) rfl rfl)) (.k (pickT .k (.g 16 rfl) .c) (.k (mv .k (.g 22 rfl)) (.k (cal (.on (.g 23 rfl) rfl rfl) Try.func46 rfl fn_known .n) (.k (pickT .k (.g 23 rfl) (.g 24 rfl)) (.k (asg .k (.g 25 rfl)) .n))))))))))))))))))))))))))) [] [26] rfl rfl ?_
      refine Tr.ret (end_tmp 0 rfl rfl)
     ·
      refine Tr.rs [] (.k (ld .k (.b 0 rfl) tyP) (.k (ld .k (.b 1 rfl) tyP) (.k (ld .k (.b 2 rfl) tyP) (.k (cal .k Try.func49 rfl (show FnC _ _ _ (bv true) from hd ▸ fn_InDisc) (.k (.g 0 rfl) (.k (.g 1 rfl) (.k (.g 2 rfl) .n)))) (.k (not_ .k (.g 3 rfl)) (.k (mv .k (.g 4 rfl)) (.k (mv (.on (.g 5 rfl) rfl rfl) (.b 3 rfl)) (.k (eq_ (.on (.g 5 rfl) rfl rfl) (.g 6 rfl) .c (show (_ == _) = false from beq_eq_false_iff_ne.2 hn)) (.k (pickF .k (.g 5 rfl) (.g 7 rfl)) (.k (mv .k (.g 8 rfl)) (.k (ld (.on (.g 9 rfl) rfl rfl) (.b 1 rfl) tyP) (.k (ld (.on (.g 9 rfl) rfl rfl) (.b 2 rfl) tyP) (.k (ld (.on (.g 9 rfl) rfl rfl) (.b 0 rfl) tyP) (.k (cal (.on (.g 9 rfl) rfl rfl) Try.func49 rfl (show FnC _ _ _ (bv false) from he ▸ fn_InDisc) (.k (.g 10 rfl) (.k (.g 11 rfl) (.k (.g 12 rfl) .n)))) (.k (not_ (.on (.g 9 rfl) rfl rfl) (.g 13 rfl)) (.k (pickF .k (.g 9 rfl) (.g 14 rfl)) (.k (mv .k (.g 15 rfl)) (.k (skp (.on (.g 16 rfl) rfl rfl)) (.k (skp (.on (.g 16 rfl) rfl rfl)) (.k (skp (.on (.g 16 rfl) rfl rfl)) (.k (skp (.on (.g 16 rfl) rfl rfl)) (.k (skp (.on (.g 16 rfl) rfl rfl)) (.k (pickT .k (.g 16 rfl) .c) (.k (mv .k (.g 22 rfl)) (.k (cal (.on (.g 23 rfl) rfl rfl) Try.func46 rfl fn_known .n) (.k (pickT .k (.g 23 rfl) (.g 24 rfl)) (.k (asg .k (.g 25 rfl)) .n))))))))))))))))))))))))))) [] [26] rfl rfl ?_
      refine Tr.ret (end_tmp 0 rfl rfl)
   ·
    refine Tr.cut [.b 3 (.is (ptv ax ay)) 65 2, .b 4 (.is (ptv bx b_y)) 65 2, .b 5 (.is (ptv cx cy)) 65 2, .s 9 (iv (oriZ ax ay bx b_y cx cy))] ?_ ?_
    ·
     refine Tr.rs [] (.k (mv .k (.b 5 rfl)) (.k (ne_ .k (.g 0 rfl) .c (show (_ != _) = true from bne_iff_ne.2 hn)) (.k (mv .k (.g 1 rfl)) (.k (mvk (.on (.g 2 rfl) rfl rfl) (.b 4 rfl) (decide_eq_true hm)) (.k (pickT .k (.g 2 rfl) (.g 3 rfl)) (.k (mv .k (.g 4 rfl)) (.k (ld (.on (.g 5 rfl) rfl rfl) (.b 0 rfl) tyP) (.k (ld (.on (.g 5 rfl) rfl rfl) (.b 1 rfl) tyP) (.k (ld (.on (.g 5 rfl) rfl rfl) (.b 2 rfl) tyP) (.k (ld (.on (.g 5 rfl) rfl rfl) (.b 3 rfl) tyP) (.k (cal (.on (.g 5 rfl) rfl rfl) Try.func47 rfl (show FnC _ _ _ (iv 1) from inc_mid' hm hn ▸ fn_InCircle) (.k (.g 6 rfl) (.k (.g 7 rfl) (.k (.g 8 rfl) (.k (.g 9 rfl) .n))))) (.k (ne_ (.on (.g 5 rfl) rfl rfl) (.g 10 rfl) .c (show (_ != _) = false from bne_eq_false_iff_eq.2 rfl)) (.k (pickT .k (.g 5 rfl) (.g 11 rfl)) .n))))))))))))) [0, 1, 2, 5] [12] rfl rfl ?_
     refine Tr.cond 4 rfl nofun (fun _ => ?_)
     refine Tr.skip (Nx.met _ (Sub.all (.cons 0 rfl (.cons 1 rfl (.cons 2 rfl (.cons 3 rfl .nil))))))
    ·
     refine Tr.seq (Tr.rs [] (.k (ld .k (.b 0 rfl) tyP) (.k (ld .k (.b 1 rfl) tyP) (.k (ld .k (.b 2 rfl) tyP) (.k (ld .k (.b 1 rfl) tyP) (.k (cal .k Try.func47 rfl fn_InCircle (.k (.g 0 rfl) (.k (.g 1 rfl) (.k (.g 2 rfl) (.k (.g 3 rfl) .n))))) (.k (ne_ .k (.g 4 rfl) .c (show (_ != _) = false from bne_eq_false_iff_eq.2 (inc_b ..))) (.k (mv .k (.g 5 rfl)) (.k (ld (.on (.g 6 rfl) rfl rfl) (.b 0 rfl) tyP) (.k (ld (.on (.g 6 rfl) rfl rfl) (.b 1 rfl) tyP) (.k (ld (.on (.g 6 rfl) rfl rfl) (.b 2 rfl) tyP) (.k (ld (.on (.g 6 rfl) rfl rfl) (.b 2 rfl) tyP) (.k (cal (.on (.g 6 rfl) rfl rfl) Try.func47 rfl fn_InCircle (.k (.g 7 rfl) (.k (.g 8 rfl) (.k (.g 9 rfl) (.k (.g 10 rfl) .n))))) (.k (ne_ (.on (.g 6 rfl) rfl rfl) (.g 11 rfl) .c (show (_ != _) = false from bne_eq_false_iff_eq.2 (inc_c ..))) (.k (pickF .k (.g 6 rfl) (.g 12 rfl)) .n)))))))))))))) [0, 1, 2, 3] [13] rfl rfl ?_)
     refine Tr.cond 4 rfl nofun (fun _ => ?_)
     refine Tr.skip (Nx.go (?_))
     rcases ways11 ax ay bx b_y cx cy with hd | ⟨hd, hn⟩ | ⟨hd, hn, he⟩
     ·
      refine Tr.rs [] (.k (ld .k (.b 0 rfl) tyP) (.k (ld .k (.b 1 rfl) tyP) (.k (ld .k (.b 2 rfl) tyP) (.k (cal .k Try.func49 rfl (show FnC _ _ _ (bv false) from hd ▸ fn_InDisc) (.k (.g 0 rfl) (.k (.g 1 rfl) (.k (.g 2 rfl) .n)))) (.k (not_ .k (.g 3 rfl)) (.k (mv .k (.g 4 rfl)) (.k (skp (.on (.g 5 rfl) rfl rfl)) (.k (skp (.on (.g 5 rfl) rfl rfl)) (.k (pickT .k (.g 5 rfl) .c) (.k (mv .k (.g 8 rfl)) (.k (skp (.on (.g 9 rfl) rfl rfl)) (.k (skp (.on (.g 9 rfl) rfl rfl)) (.k (skp (.on (.g 9 rfl) rfl rfl)) (.k (skp (.on (.g 9 rfl) rfl rfl)) (.k (skp (.on (.g 9 rfl) rfl rfl)) (.k (pickT .k (.g 9 rfl) .c) (.k (mv .k (.g 15 rfl)) (.k (skp (.on (.g 16 rfl) rfl rfl)) (.k (skp (.on (.g 16 rfl) rfl rfl)) (.k (skp (.on (.g 16 rfl) rfl rfl)) (.k (skp (.on (.g 16 rfl) rfl rfl)) (.k (skp (.on (.g 16 rfl) rfl rfl)) (.k (pickT .k (.g 16 rfl) .c) (.k (mv .k (.g 22 rfl)) (.k (cal (.on (.g 23 rfl) rfl rfl) Try.func46 rfl fn_known .n) (.k (pickT .k (.g 23 rfl) (.g 24 rfl)) (.k (asg .k (.g 25 rfl)) .n))))))))))))))))))))))))))) [] [26] rfl rfl ?_
      refine Tr.ret (end_tmp 0 rfl rfl)
     ·
      refine Tr.rs [] (.k (ld .k (.b 0 rfl) tyP) (.k (ld .k (.b 1 rfl) tyP) (.k (ld .k (.b 2 rfl) tyP) (.k (cal .k Try.func49 rfl (show FnC _ _ _ (bv true) from hd ▸ fn_InDisc) (.k (.g 0 rfl) (.k (.g 1 rfl) (.k (.g 2 rfl) .n)))) (.k (not_ .k (.g 3 rfl)) (.k (mv .k (.g 4 rfl)) (.k (mv (.on (.g 5 rfl) rfl rfl) (.b 3 rfl)) (.k (eq_ (.on (.g 5 rfl) rfl rfl) (.g 6 rfl) .c (show (_ == _) = true from beq_iff_eq.2 hn)) (.k (pickF .k (.g 5 rfl) (.g 7 rfl)) (.k (mv .k (.g 8 rfl)) (.k (skp (.on (.g 9 rfl) rfl rfl)) (.k (skp (.on (.g 9 rfl) rfl rfl)) (.k (skp (.on (.g 9 rfl) rfl rfl)) (.k (skp (.on (.g 9 rfl) rfl rfl)) (.k (skp (.on (.g 9 rfl) rfl rfl)) (.k (pickT .k (.g 9 rfl) .c) (.k (mv .k (.g 15 rfl)) (.k (skp (.on (.g 16 rfl) rfl rfl)) (.k (skp (.on (.g 16 rfl) rfl rfl)) (.k (skp (.on (.g 16 rfl) rfl rfl)) (.k (skp (.on (.g 16 rfl) rfl rfl)) (.k (skp (.on (.g 16 rfl) rfl rfl)) (.k (pickT .k (.g 16 rfl) .c) (.k (mv .k (.g 22 rfl)) (.k (cal (.on (.g 23 rfl) rfl rfl) Try.func46 rfl fn_known .n) (.k (pickT .k (.g 23 rfl) (.g 24 rfl)) (.k (asg .k (.g 25 rfl)) .n))))))))))))))))))))))))))) [] [26] rfl rfl ?_
      refine Tr.ret (end_tmp 0 rfl rfl)
     ·
      refine Tr.rs [] (.k (ld .k (.b 0 rfl) tyP) (.k (ld .k (.b 1 rfl) tyP) (.k (ld .k (.b 2 rfl) tyP) (.k (cal .k Try.func49 rfl (show FnC _ _ _ (bv true) from hd ▸ fn_InDisc) (.k (.g 0 rfl) (.k (.g 1 rfl) (.k (.g 2 rfl) .n)))) (.k (not_ .k (.g 3 rfl)) (.k (mv .k (.g 4 rfl)) (.k (mv (.on (.g 5 rfl) rfl rfl) (.b 3 rfl)) (.k (eq_ (.on (.g 5 rfl) rfl rfl) (.g 6 rfl) .c (show (_ == _) = false from beq_eq_false_iff_ne.2 hn)) (.k (pickF .k (.g 5 rfl) (.g 7 rfl)) (.k (mv .k (.g 8 rfl)) (.k (ld (.on (.g 9 rfl) rfl rfl) (.b 1 rfl) tyP) (.k (ld (.on (.g 9 rfl) rfl rfl) (.b 2 rfl) tyP) (.k (ld (.on (.g 9 rfl) rfl rfl) (.b 0 rfl) tyP) (.k (cal (.on (.g 9 rfl) rfl rfl) Try.func49 rfl (show FnC _ _ _ (bv false) from he ▸ fn_InDisc) (.k (.g 10 rfl) (.k (.g 11 rfl) (.k (.g 12 rfl) .n)))) (.k (not_ (.on (.g 9 rfl) rfl rfl) (.g 13 rfl)) (.k (pickF .k (.g 9 rfl) (.g 14 rfl)) (.k (mv .k (.g 15 rfl)) (.k (skp (.on (.g 16 rfl) rfl rfl)) (.k (skp (.on (.g 16 rfl) rfl rfl)) (.k (skp (.on (.g 16 rfl) rfl rfl)) (.k (skp (.on (.g 16 rfl) rfl rfl)) (.k (skp (.on (.g 16 rfl) rfl rfl)) (.k (pickT .k (.g 16 rfl) .c) (.k (mv .k (.g 22 rfl)) (.k (cal (.on (.g 23 rfl) rfl rfl) Try.func46 rfl fn_known .n) (.k (pickT .k (.g 23 rfl) (.g 24 rfl)) (.k (asg .k (.g 25 rfl)) .n))))))))))))))))))))))))))) [] [26] rfl rfl ?_
      refine Tr.ret (end_tmp 0 rfl rfl)
 ·
  refine Tr.cut [.b 3 (.is (ptv ax ay)) 65 2, .b 4 (.is (ptv bx b_y)) 65 2, .b 5 (.is (ptv cx cy)) 65 2, .b 7 (.is (ptv (if midP ax ay bx b_y then (ax + bx).tdiv 2 else 0) (if midP ax ay bx b_y then (ay + b_y).tdiv 2 else 0))) 65 2, .s 8 (bv (decide (midP ax ay bx b_y)))] ?_ ?_
  ·
   refine Tr.rs [] (.k (mvk .k (.b 4 rfl) (decide_eq_true hm)) (.k (mv .k (.g 0 rfl)) (.k (ld (.on (.g 1 rfl) rfl rfl) (.b 0 rfl) tyP) (.k (ld (.on (.g 1 rfl) rfl rfl) (.b 1 rfl) tyP) (.k (neS_ (.on (.g 1 rfl) rfl rfl) ptG (.g 2 rfl) (.g 3 rfl) (eqP _ _ _ _) (show (!(ax == bx && ay == b_y)) = true by simp; omega)) (.k (pickT .k (.g 1 rfl) (.g 4 rfl)) (.k (mv .k (.g 5 rfl)) (.k (ld (.on (.g 6 rfl) rfl rfl) (.b 0 rfl) tyP) (.k (ld (.on (.g 6 rfl) rfl rfl) (.b 1 rfl) tyP) (.k (ld (.on (.g 6 rfl) rfl rfl) (.b 3 rfl) tyP) (.k (cal (.on (.g 6 rfl) rfl rfl) Try.func49 rfl (show FnC _ _ _ (bv true) from mid_in' hm he ▸ fn_InDisc) (.k (.g 7 rfl) (.k (.g 8 rfl) (.k (.g 9 rfl) .n)))) (.k (not_ (.on (.g 6 rfl) rfl rfl) (.g 10 rfl)) (.k (pickT .k (.g 6 rfl) (.g 11 rfl)) .n))))))))))))) [0, 1, 2, 3, 4] [12] rfl rfl ?_
   refine Tr.cond 5 rfl nofun (fun _ => ?_)
   refine Tr.skip (Nx.met _ (Sub.all (.cons 0 rfl (.cons 1 rfl (.cons 2 rfl (.cons 3 rfl (.cons 4 rfl .nil)))))))
  ·
   refine Tr.rs [] (.k (ld .k (.b 0 rfl) tyP) (.k (ld .k (.b 1 rfl) tyP) (.k (ld .k (.b 2 rfl) tyP) (.k (cal .k Try.func44 rfl fn_Orient (.k (.g 0 rfl) (.k (.g 1 rfl) (.k (.g 2 rfl) .n)))) (.k (asg .k (.g 3 rfl)) .n))))) [0, 1, 2, 3, 4] [4] rfl rfl ?_
   rcases ways7 ax ay bx b_y cx cy with hn | ⟨hn, hm⟩ | ⟨hn, hm⟩
   ·
    refine Tr.cut [.b 3 (.is (ptv ax ay)) 65 2, .b 4 (.is (ptv bx b_y)) 65 2, .b 5 (.is (ptv cx cy)) 65 2, .s 9 (iv (oriZ ax ay bx b_y cx cy))] ?_ ?_
    ·
     refine Tr.rs [] (.k (mv .k (.b 5 rfl)) (.k (ne_ .k (.g 0 rfl) .c (show (_ != _) = false from bne_eq_false_iff_eq.2 hn)) (.k (mv .k (.g 1 rfl)) (.k (skp (.on (.g 2 rfl) rfl rfl)) (.k (pickF .k (.g 2 rfl) .c) (.k (mv .k (.g 4 rfl)) (.k (skp (.on (.g 5 rfl) rfl rfl)) (.k (skp (.on (.g 5 rfl) rfl rfl)) (.k (skp (.on (.g 5 rfl) rfl rfl)) (.k (skp (.on (.g 5 rfl) rfl rfl)) (.k (skp (.on (.g 5 rfl) rfl rfl)) (.k (skp (.on (.g 5 rfl) rfl rfl)) (.k (pickF .k (.g 5 rfl) .c) .n))))))))))))) [0, 1, 2, 5] [12] rfl rfl ?_
     refine Tr.cond 4 rfl nofun (fun _ => ?_)
     refine Tr.skip (Nx.met _ (Sub.all (.cons 0 rfl (.cons 1 rfl (.cons 2 rfl (.cons 3 rfl .nil))))))
    ·
     refine Tr.seq (Tr.rs [] (.k (ld .k (.b 0 rfl) tyP) (.k (ld .k (.b 1 rfl) tyP) (.k (ld .k (.b 2 rfl) tyP) (.k (ld .k (.b 1 rfl) tyP) (.k (cal .k Try.func47 rfl fn_InCircle (.k (.g 0 rfl) (.k (.g 1 rfl) (.k (.g 2 rfl) (.k (.g 3 rfl) .n))))) (.k (ne_ .k (.g 4 rfl) .c (show (_ != _) = false from bne_eq_false_iff_eq.2 (inc_b ..))) (.k (mv .k (.g 5 rfl)) (.k (ld (.on (.g 6 rfl) rfl rfl) (.b 0 rfl) tyP) (.k (ld (.on (.g 6 rfl) rfl rfl) (.b 1 rfl) tyP) (.k (ld (.on (.g 6 rfl) rfl rfl) (.b 2 rfl) tyP) (.k (ld (.on (.g 6 rfl) rfl rfl) (.b 2 rfl) tyP) (.k (cal (.on (.g 6 rfl) rfl rfl) Try.func47 rfl fn_InCircle (.k (.g 7 rfl) (.k (.g 8 rfl) (.k (.g 9 rfl) (.k (.g 10 rfl) .n))))) (.k (ne_ (.on (.g 6 rfl) rfl rfl) (.g 11 rfl) .c (show (_ != _) = false from bne_eq_false_iff_eq.2 (inc_c ..))) (.k (pickF .k (.g 6 rfl) (.g 12 rfl)) .n)))))))))))))) [0, 1, 2, 3] [13] rfl rfl ?_)
     refine Tr.cond 4 rfl nofun (fun _ => ?_)
     refine Tr.skip (Nx.go (?_))
     rcases ways11 ax ay bx b_y cx cy with hd | ⟨hd, hn⟩ | ⟨hd, hn, he⟩
     ·
      refine Tr.rs [] (.k (ld .k (.b 0 rfl) tyP) (.k (ld .k (.b 1 rfl) tyP) (.k (ld .k (.b 2 rfl) tyP) (.k (cal .k Try.func49 rfl (show FnC _ _ _ (bv false) from hd ▸ fn_InDisc) (.k (.g 0 rfl) (.k (.g 1 rfl) (.k (.g 2 rfl) .n)))) (.k (not_ .k (.g 3 rfl)) (.k (mv .k (.g 4 rfl)) (.k (skp (.on (.g 5 rfl) rfl rfl)) (.k (skp (.on (.g 5 rfl) rfl rfl)) (.k (pickT .k (.g 5 rfl) .c) (.k (mv .k (.g 8 rfl)) (.k (skp (.on (.g 9 rfl) rfl rfl)) (.k (skp (.on (.g 9 rfl) rfl rfl)) (.k (skp (.on (.g 9 rfl) rfl rfl)) (.k (skp (.on (.g 9 rfl) rfl rfl)) (.k (skp (.on (.g 9 rfl) rfl rfl)) (.k (pickT .k (.g 9 rfl) .c) (.k (mv .k (.g 15 rfl)) (.k (skp (.on (.g 16 rfl) rfl rfl)) (.k (skp (.on (.g 16 rfl) rfl rfl)) (.k (skp (.on (.g 16 rfl) rfl rfl)) (.k (skp (.on (.g 16 rfl) rfl rfl)) (.k (skp (.on (.g 16 rfl) rfl rfl)) (.k (pickT .k (.g 16 rfl) .c) (.k (mv .k (.g 22 rfl)) (.k (cal (.on (.g 23 rfl) rfl rfl) Try.func46 rfl fn_known .n) (.k (pickT .k (.g 23 rfl) (.g 24 rfl)) (.k (asg .k (.g 25 rfl)) .n))))))))))))))))))))))))))) [] [26] rfl rfl ?_
      refine Tr.ret (end_tmp 0 rfl rfl)
     ·
      refine Tr.rs [] (.k (ld .k (.b 0 rfl) tyP) (.k (ld .k (.b 1 rfl) tyP) (.k (ld .k (.b 2 rfl) tyP) (.k (cal .k Try.func49 rfl (show FnC _ _ _ (bv true) from hd ▸ fn_InDisc) (.k (.g 0 rfl) (.k (.g 1 rfl) (.k (.g 2 rfl) .n)))) (.k (not_ .k (.g 3 rfl)) (.k (mv .k (.g 4 rfl)) (.k (mv (.on (.g 5 rfl) rfl rfl) (.b 3 rfl)) (.k (eq_ (.on (.g 5 rfl) rfl rfl) (.g 6 rfl) .c (show (_ == _) = true from beq_iff_eq.2 hn)) (.k (pickF .k (.g 5 rfl) (.g 7 rfl)) (.k (mv .k (.g 8 rfl)) (.k (skp (.on (.g 9 rfl) rfl rfl)) (.k (skp (.on (.g 9 rfl) rfl rfl)) (.k (skp (.on (.g 9 rfl) rfl rfl)) (.k (skp (.on (.g 9 rfl) rfl rfl)) (.k (skp (.on (.g 9 rfl) rfl rfl)) (.k (pickT .k (.g 9 rfl) .c) (.k (mv .k (.g 15 rfl)) (.k (skp (.on (.g 16 rfl) rfl rfl)) (.k (skp (.on (.g 16 rfl) rfl rfl)) (.k (skp (.on (.g 16 rfl) rfl rfl)) (.k (skp (.on (.g 16 rfl) rfl rfl)) (.k (skp (.on (.g 16 rfl) rfl rfl)) (.k (pickT .k (.g 16 rfl) .c) (.k (mv .k (.g 22 rfl)) (.k (cal (.on (.g 23 rfl) rfl rfl) Try.func46 rfl fn_known .n) (.k (pickT .k (.g 23 rfl) (.g 24 rfl)) (.k (asg .k (.g 25 rfl)) .n))))))))))))))))))))))))))) [] [26] rfl rfl ?_
      refine Tr.ret (end_tmp 0 rfl rfl)
     ·
      refine Tr.rs [] (.k (ld .k (.b 0 rfl) tyP) (.k (ld .k (.b 1 rfl) tyP) (.k (ld .k (.b 2 rfl) tyP) (.k (cal .k Try.func49 rfl (show FnC _ _ _ (bv true) from hd ▸ fn_InDisc) (.k (.g 0 rfl) (.k (.g 1 rfl) (.k (.g 2 rfl) .n)))) (.k (not_ .k (.g 3 rfl)) (.k (mv .k (.g 4 rfl)) (.k (mv (.on (.g 5 rfl) rfl rfl) (.b 3 rfl)) (.k (eq_ (.on (.g 5 rfl) rfl rfl) (.g 6 rfl) .c (show (_ == _) = false from beq_eq_false_iff_ne.2 hn)) (.k (pickF .k (.g 5 rfl) (.g 7 rfl)) (.k (mv .k (.g 8 rfl)) (.k (ld (.on (.g 9 rfl) rfl rfl) (.b 1 rfl) tyP) (.k (ld (.on (.g 9 rfl) rfl rfl) (.b 2 rfl) tyP) (.k (ld (.on (.g 9 rfl) rfl rfl) (.b 0 rfl) tyP) (.k (cal (.on (.g 9 rfl) rfl rfl) Try.func49 rfl (show FnC _ _ _ (bv false) from he ▸ fn_InDisc) (.k (.g 10 rfl) (.k (.g 11 rfl) (.k (.g 12 rfl) .n)))) (.k (not_ (.on (.g 9 rfl) rfl rfl) (.g 13 rfl)) (.k (pickF .k (.g 9 rfl) (.g 14 rfl)) (.k (mv .k (.g 15 rfl)) (.k (skp (.on (.g 16 rfl) rfl rfl)) (.k (skp (.on (.g 16 rfl) rfl rfl)) (.k (skp (.on (.g 16 rfl) rfl rfl)) (.k (skp (.on (.g 16 rfl) rfl rfl)) (.k (skp (.on (.g 16 rfl) rfl rfl)) (.k (pickT .k (.g 16 rfl) .c) (.k (mv .k (.g 22 rfl)) (.k (cal (.on (.g 23 rfl) rfl rfl) Try.func46 rfl fn_known .n) (.k (pickT .k (.g 23 rfl) (.g 24 rfl)) (.k (asg .k (.g 25 rfl)) .n))))))))))))))))))))))))))) [] [26] rfl rfl ?_
      refine Tr.ret (end_tmp 0 rfl rfl)
   ·
    refine Tr.cut [.b 3 (.is (ptv ax ay)) 65 2, .b 4 (.is (ptv bx b_y)) 65 2, .b 5 (.is (ptv cx cy)) 65 2, .s 9 (iv (oriZ ax ay bx b_y cx cy))] ?_ ?_
    ·
     refine Tr.rs [] (.k (mv .k (.b 5 rfl)) (.k (ne_ .k (.g 0 rfl) .c (show (_ != _) = true from bne_iff_ne.2 hn)) (.k (mv .k (.g 1 rfl)) (.k (mvk (.on (.g 2 rfl) rfl rfl) (.b 4 rfl) (decide_eq_false hm)) (.k (pickT .k (.g 2 rfl) (.g 3 rfl)) (.k (mv .k (.g 4 rfl)) (.k (skp (.on (.g 5 rfl) rfl rfl)) (.k (skp (.on (.g 5 rfl) rfl rfl)) (.k (skp (.on (.g 5 rfl) rfl rfl)) (.k (skp (.on (.g 5 rfl) rfl rfl)) (.k (skp (.on (.g 5 rfl) rfl rfl)) (.k (skp (.on (.g 5 rfl) rfl rfl)) (.k (pickF .k (.g 5 rfl) .c) .n))))))))))))) [0, 1, 2, 5] [12] rfl rfl ?_
     refine Tr.cond 4 rfl nofun (fun _ => ?_)
     refine Tr.skip (Nx.met _ (Sub.all (.cons 0 rfl (.cons 1 rfl (.cons 2 rfl (.cons 3 rfl .nil))))))
    ·
     refine Tr.seq (Tr.rs [] (.k (ld .k (.b 0 rfl) tyP) (.k (ld .k (.b 1 rfl) tyP) (.k (ld .k (.b 2 rfl) tyP) (.k (ld .k (.b 1 rfl) tyP) (.k (cal .k Try.func47 rfl fn_InCircle (.k (.g 0 rfl) (.k (.g 1 rfl) (.k (.g 2 rfl) (.k (.g 3 rfl) .n))))) (.k (ne_ .k (.g 4 rfl) .c (show (_ != _) = false from bne_eq_false_iff_eq.2 (inc_b ..))) (.k (mv .k (.g 5 rfl)) (.k (ld (.on (.g 6 rfl) rfl rfl) (.b 0 rfl) tyP) (.k (ld (.on (.g 6 rfl) rfl rfl) (.b 1 rfl) tyP) (.k (ld (.on (.g 6 rfl) rfl rfl) (.b 2 rfl) tyP) (.k (ld (.on (.g 6 rfl) rfl rfl) (.b 2 rfl) tyP) (.k (cal (.on (.g 6 rfl) rfl rfl) Try.func47 rfl fn_InCircle (.k (.g 7 rfl) (.k (.g 8 rfl) (.k (.g 9 rfl) (.k (.g 10 rfl) .n))))) (.k (ne_ (.on (.g 6 rfl) rfl rfl) (.g 11 rfl) .c (show (_ != _) = false from bne_eq_false_iff_eq.2 (inc_c ..))) (.k (pickF .k (.g 6 rfl) (.g 12 rfl)) .n)))))))))))))) [0, 1, 2, 3] [13] rfl rfl ?_)
     refine Tr.cond 4 rfl nofun (fun _ => ?_)
     refine Tr.skip (Nx.go (?_))
     rcases ways11 ax ay bx b_y cx cy with hd | ⟨hd, hn⟩ | ⟨hd, hn, he⟩
     ·
      refine Tr.rs [] (.k (ld .k (.b 0 rfl) tyP) (.k (ld .k (.b 1 rfl) tyP) (.k (ld .k (.b 2 rfl) tyP) (.k (cal .k Try.func49 rfl (show FnC _ _ _ (bv false) from hd ▸ fn_InDisc) (.k (.g 0 rfl) (.k (.g 1 rfl) (.k (.g 2 rfl) .n)))) (.k (not_ .k (.g 3 rfl)) (.k (mv .k (.g 4 rfl)) (.k (skp (.on (.g 5 rfl) rfl rfl)) (.k (skp (.on (.g 5 rfl) rfl rfl)) (.k (pickT .k (.g 5 rfl) .c) (.k (mv .k (.g 8 rfl)) (.k (skp (.on (.g 9 rfl) rfl rfl)) (.k (skp (.on (.g 9 rfl) rfl rfl)) (.k (skp (.on (.g 9 rfl) rfl rfl)) (.k (skp (.on (.g 9 rfl) rfl rfl)) (.k (skp (.on (.g 9 rfl) rfl rfl)) (.k (pickT .k (.g 9 rfl) .c) (.k (mv .k (.g 15 rfl)) (.k (skp (.on (.g 16 rfl) rfl rfl)) (.k (skp (.on (.g 16 rfl) rfl rfl)) (.k (skp (.on (.g 16 rfl) rfl rfl)) (.k (skp (.on (.g 16 rfl) rfl rfl)) (.k (skp (.on (.g 16 rfl) rfl rfl)) (.k (pickT .k (.g 16 rfl) .c) (.k (mv .k (.g 22 rfl)) (.k (cal (.on (.g 23 rfl) rfl rfl) Try.func46 rfl fn_known .n) (.k (pickT .k (.g 23 rfl) (.g 24 rfl)) (.k (asg .k (.g 25 rfl)) .n))))))))))))))))))))))))))) [] [26] rfl rfl ?_
      refine Tr.ret (end_tmp 0 rfl rfl)
     ·
      refine Tr.rs [] (.k (ld .k (.b 0 rfl) tyP) (.k (ld .k (.b 1 rfl) tyP) (.k (ld .k (.b 2 rfl) tyP) (.k (cal .k Try.func49 rfl (show FnC _ _ _ (bv true) from hd ▸ fn_InDisc) (.k (.g 0 rfl) (.k (.g 1 rfl) (.k (.g 2 rfl) .n)))) (.k (not_ .k (.g 3 rfl)) (.k (mv .k (.g 4 rfl)) (.k (mv (.on (.g 5 rfl) rfl rfl) (.b 3 rfl)) (.k (eq_ (.on (.g 5 rfl) rfl rfl) (.g 6 rfl) .c (show (_ == _) = true from beq_iff_eq.2 hn)) (.k (pickF .k (.g 5 rfl) (.g 7 rfl)) (.k (mv .k (.g 8 rfl)) (.k (skp (.on (.g 9 rfl) rfl rfl)) (.k (skp (.on (.g 9 rfl) rfl rfl)) (.k (skp (.on (.g 9 rfl) rfl rfl)) (.k (skp (.on (.g 9 rfl) rfl rfl)) (.k (skp (.on (.g 9 rfl) rfl rfl)) (.k (pickT .k (.g 9 rfl) .c) (.k (mv .k (.g 15 rfl)) (.k (skp (.on (.g 16 rfl) rfl rfl)) (.k (skp (.on (.g 16 rfl) rfl rfl)) (.k (skp (.on (.g 16 rfl) rfl rfl)) (.k (skp (.on (.g 16 rfl) rfl rfl)) (.k (skp (.on (.g 16 rfl) rfl rfl)) (.k (pickT .k (.g 16 rfl) .c) (.k (mv .k (.g 22 rfl)) (.k (cal (.on (.g 23 rfl) rfl rfl) Try.func46 rfl fn_known .n) (.k (pickT .k (.g 23 rfl) (.g 24 rfl)) (.k (asg .k (.g 25 rfl)) .n))))))))))))))))))))))))))) [] [26] rfl rfl ?_
      refine Tr.ret (end_tmp 0 rfl rfl)
     ·
      refine Tr.rs [] (.k (ld .k (.b 0 rfl) tyP) (.k (ld .k (.b 1 rfl) tyP) (.k (ld .k (.b 2 rfl) tyP) (.k (cal .k Try.func49 rfl (show FnC _ _ _ (bv true) from hd ▸ fn_InDisc) (.k (.g 0 rfl) (.k (.g 1 rfl) (.k (.g 2 rfl) .n)))) (.k (not_ .k (.g 3 rfl)) (.k (mv .k (.g 4 rfl)) (.k (mv (.on (.g 5 rfl) rfl rfl) (.b 3 rfl)) (.k (eq_ (.on (.g 5 rfl) rfl rfl) (.g 6 rfl) .c (show (_ == _) = false from beq_eq_false_iff_ne.2 hn)) (.k (pickF .k (.g 5 rfl) (.g 7 rfl)) (.k (mv .k (.g 8 rfl)) (.k (ld (.on (.g 9 rfl) rfl rfl) (.b 1 rfl) tyP) (.k (ld (.on (.g 9 rfl) rfl rfl) (.b 2 rfl) tyP) (.k (ld (.on (.g 9 rfl) rfl rfl) (.b 0 rfl) tyP) (.k (cal (.on (.g 9 rfl) rfl rfl) Try.func49 rfl (show FnC _ _ _ (bv false) from he ▸ fn_InDisc) (.k (.g 10 rfl) (.k (.g 11 rfl) (.k (.g 12 rfl) .n)))) (.k (not_ (.on (.g 9 rfl) rfl rfl) (.g 13 rfl)) (.k (pickF .k (.g 9 rfl) (.g 14 rfl)) (.k (mv .k (.g 15 rfl)) (.k (skp (.on (.g 16 rfl) rfl rfl)) (.k (skp (.on (.g 16 rfl) rfl rfl)) (.k (skp (.on (.g 16 rfl) rfl rfl)) (.k (skp (.on (.g 16 rfl) rfl rfl)) (.k (skp (.on (.g 16 rfl) rfl rfl)) (.k (pickT .k (.g 16 rfl) .c) (.k (mv .k (.g 22 rfl)) (.k (cal (.on (.g 23 rfl) rfl rfl) Try.func46 rfl fn_known .n) (.k (pickT .k (.g 23 rfl) (.g 24 rfl)) (.k (asg .k (.g 25 rfl)) .n))))))))))))))))))))))))))) [] [26] rfl rfl ?_
      refine Tr.ret (end_tmp 0 rfl rfl)
   ·
    refine Tr.cut [.b 3 (.is (ptv ax ay)) 65 2, .b 4 (.is (ptv bx b_y)) 65 2, .b 5 (.is (ptv cx cy)) 65 2, .s 9 (iv (oriZ ax ay bx b_y cx cy))] ?_ ?_
    ·
     refine Tr.rs [] (.k (mv .k (.b 5 rfl)) (.k (ne_ .k (.g 0 rfl) .c (show (_ != _) = true from bne_iff_ne.2 hn)) (.k (mv .k (.g 1 rfl)) (.k (mvk (.on (.g 2 rfl) rfl rfl) (.b 4 rfl) (decide_eq_true hm)) (.k (pickT .k (.g 2 rfl) (.g 3 rfl)) (.k (mv .k (.g 4 rfl)) (.k (ld (.on (.g 5 rfl) rfl rfl) (.b 0 rfl) tyP) (.k (ld (.on (.g 5 rfl) rfl rfl) (.b 1 rfl) tyP) (.k (ld (.on (.g 5 rfl) rfl rfl) (.b 2 rfl) tyP) (.k (ld (.on (.g 5 rfl) rfl rfl) (.b 3 rfl) tyP) (.k (cal (.on (.g 5 rfl) rfl rfl) Try.func47 rfl (show FnC _ _ _ (iv 1) from inc_mid' hm hn ▸ fn_InCircle) (.k (.g 6 rfl) (.k (.g 7 rfl) (.k (.g 8 rfl) (.k (.g 9 rfl) .n))))) (.k (ne_ (.on (.g 5 rfl) rfl rfl) (.g 10 rfl) .c (show (_ != _) = false from bne_eq_false_iff_eq.2 rfl)) (.k (pickT .k (.g 5 rfl) (.g 11 rfl)) .n))))))))))))) [0, 1, 2, 5] [12] rfl rfl ?_
     refine Tr.cond 4 rfl nofun (fun _ => ?_)
     refine Tr.skip (Nx.met _ (Sub.all (.cons 0 rfl (.cons 1 rfl (.cons 2 rfl (.cons 3 rfl .nil))))))
    ·
     refine Tr.seq (Tr.rs [] (.k (ld .k (.b 0 rfl) tyP) (.k (ld .k (.b 1 rfl) tyP) (.k (ld .k (.b 2 rfl) tyP) (.k (ld .k (.b 1 rfl) tyP) (.k (cal .k Try.func47 rfl fn_InCircle (.k (.g 0 rfl) (.k (.g 1 rfl) (.k (.g 2 rfl) (.k (.g 3 rfl) .n))))) (.k (ne_ .k (.g 4 rfl) .c (show (_ != _) = false from bne_eq_false_iff_eq.2 (inc_b ..))) (.k (mv .k (.g 5 rfl)) (.k (ld (.on (.g 6 rfl) rfl rfl) (.b 0 rfl) tyP) (.k (ld (.on (.g 6 rfl) rfl rfl) (.b 1 rfl) tyP) (.k (ld (.on (.g 6 rfl) rfl rfl) (.b 2 rfl) tyP) (.k (ld (.on (.g 6 rfl) rfl rfl) (.b 2 rfl) tyP) (.k (cal (.on (.g 6 rfl) rfl rfl) Try.func47 rfl fn_InCircle (.k (.g 7 rfl) (.k (.g 8 rfl) (.k (.g 9 rfl) (.k (.g 10 rfl) .n))))) (.k (ne_ (.on (.g 6 rfl) rfl rfl) (.g 11 rfl) .c (show (_ != _) = false from bne_eq_false_iff_eq.2 (inc_c ..))) (.k (pickF .k (.g 6 rfl) (.g 12 rfl)) .n)))))))))))))) [0, 1, 2, 3] [13] rfl rfl ?_)
     refine Tr.cond 4 rfl nofun (fun _ => ?_)
     refine Tr.skip (Nx.go (?_))
     rcases ways11 ax ay bx b_y cx cy with hd | ⟨hd, hn⟩ | ⟨hd, hn, he⟩
     ·
      refine Tr.rs [] (.k (ld .k (.b 0 rfl) tyP) (.k (ld .k (.b 1 rfl) tyP) (.k (ld .k (.b 2 rfl) tyP) (.k (cal .k Try.func49 rfl (show FnC _ _ _ (bv false) from hd ▸ fn_InDisc) (.k (.g 0 rfl) (.k (.g 1 rfl) (.k (.g 2 rfl) .n)))) (.k (not_ .k (.g 3 rfl)) (.k (mv .k (.g 4 rfl)) (.k (skp (.on (.g 5 rfl) rfl rfl)) (.k (skp (.on (.g 5 rfl) rfl rfl)) (.k (pickT .k (.g 5 rfl) .c) (.k (mv .k (.g 8 rfl)) (.k (skp (.on (.g 9 rfl) rfl rfl)) (.k (skp (.on (.g 9 rfl) rfl rfl)) (.k (skp (.on (.g 9 rfl) rfl rfl)) (.k (skp (.on (.g 9 rfl) rfl rfl)) (.k (skp (.on (.g 9 rfl) rfl rfl)) (.k (pickT .k (.g 9 rfl) .c) (.k (mv .k (.g 15 rfl)) (.k (skp (.on (.g 16 rfl) rfl rfl)) (.k (skp (.on (.g 16 rfl) rfl rfl)) (.k (skp (.on (.g 16 rfl) rfl rfl)) (.k (skp (.on (.g 16 rfl) rfl rfl)) (.k (skp (.on (.g 16 rfl) rfl rfl)) (.k (pickT .k (.g 16 rfl) .c) (.k (mv .k (.g 22 rfl)) (.k (cal (.on (.g 23 rfl) rfl rfl) Try.func46 rfl fn_known .n) (.k (pickT .k (.g 23 rfl) (.g 24 rfl)) (.k (asg .k (.g 25 rfl)) .n))))))))))))))))))))))))))) [] [26] rfl rfl ?_
      refine Tr.ret (end_tmp 0 rfl rfl)
     ·
      refine Tr.rs [] (.k (ld .k (.b 0 rfl) tyP) (.k (ld .k (.b 1 rfl) tyP) (.k (ld .k (.b 2 rfl) tyP) (.k (cal .k Try.func49 rfl (show FnC _ _ _ (bv true) from hd ▸ fn_InDisc) (.k (.g 0 rfl) (.k (.g 1 rfl) (.k (.g 2 rfl) .n)))) (.k (not_ .k (.g 3 rfl)) (.k (mv .k (.g 4 rfl)) (.k (mv (.on (.g 5 rfl) rfl rfl) (.b 3 rfl)) (.k (eq_ (.on (.g 5 rfl) rfl rfl) (.g 6 rfl) .c (show (_ == _) = true from beq_iff_eq.2 hn)) (.k (pickF .k (.g 5 rfl) (.g 7 rfl)) (.k (mv .k (.g 8 rfl)) (.k (skp (.on (.g 9 rfl) rfl rfl)) (.k (skp (.on (.g 9 rfl) rfl rfl)) (.k (skp (.on (.g 9 rfl) rfl rfl)) (.k (skp (.on (.g 9 rfl) rfl rfl)) (.k (skp (.on (.g 9 rfl) rfl rfl)) (.k (pickT .k (.g 9 rfl) .c) (.k (mv .k (.g 15 rfl)) (.k (skp (.on (.g 16 rfl) rfl rfl)) (.k (skp (.on (.g 16 rfl) rfl rfl)) (.k (skp (.on (.g 16 rfl) rfl rfl)) (.k (skp (.on (.g 16 rfl) rfl rfl)) (.k (skp (.on (.g 16 rfl) rfl rfl)) (.k (pickT .k (.g 16 rfl) .c) (.k (mv .k (.g 22 rfl)) (.k (cal (.on (.g 23 rfl) rfl rfl) Try.func46 rfl fn_known .n) (.k (pickT .k (.g 23 rfl) (.g 24 rfl)) (.k (asg .k (.g 25 rfl)) .n))))))))))))))))))))))))))) [] [26] rfl rfl ?_
      refine Tr.ret (end_tmp 0 rfl rfl)
     ·
      refine Tr.rs [] (.k (ld .k (.b 0 rfl) tyP) (.k (ld .k (.b 1 rfl) tyP) (.k (ld .k (.b 2 rfl) tyP) (.k (cal .k Try.func49 rfl (show FnC _ _ _ (bv true) from hd ▸ fn_InDisc) (.k (.g 0 rfl) (.k (.g 1 rfl) (.k (.g 2 rfl) .n)))) (.k (not_ .k (.g 3 rfl)) (.k (mv .k (.g 4 rfl)) (.k (mv (.on (.g 5 rfl) rfl rfl) (.b 3 rfl)) (.k (eq_ (.on (.g 5 rfl) rfl rfl) (.g 6 rfl) .c (show (_ == _) = false from beq_eq_false_iff_ne.2 hn)) (.k (pickF .k (.g 5 rfl) (.g 7 rfl)) (.k (mv .k (.g 8 rfl)) (.k (ld (.on (.g 9 rfl) rfl rfl) (.b 1 rfl) tyP) (.k (ld (.on (.g 9 rfl) rfl rfl) (.b 2 rfl) tyP) (.k (ld (.on (.g 9 rfl) rfl rfl) (.b 0 rfl) tyP) (.k (cal (.on (.g 9 rfl) rfl rfl) Try.func49 rfl (show FnC _ _ _ (bv false) from he ▸ fn_InDisc) (.k (.g 10 rfl) (.k (.g 11 rfl) (.k (.g 12 rfl) .n)))) (.k (not_ (.on (.g 9 rfl) rfl rfl) (.g 13 rfl)) (.k (pickF .k (.g 9 rfl) (.g 14 rfl)) (.k (mv .k (.g 15 rfl)) (.k (skp (.on (.g 16 rfl) rfl rfl)) (.k (skp (.on (.g 16 rfl) rfl rfl)) (.k (skp (.on (.g 16 rfl) rfl rfl)) (.k (skp (.on (.g 16 rfl) rfl rfl)) (.k (skp (.on (.g 16 rfl) rfl rfl)) (.k (pickT .k (.g 16 rfl) .c) (.k (mv .k (.g 22 rfl)) (.k (cal (.on (.g 23 rfl) rfl rfl) Try.func46 rfl fn_known .n) (.k (pickT .k (.g 23 rfl) (.g 24 rfl)) (.k (asg .k (.g 25 rfl)) .n))))))))))))))))))))))))))) [] [26] rfl rfl ?_
      refine Tr.ret (end_tmp 0 rfl rfl)
theorem predTells_any (a0 b0 a1 b1 a2 b2 : Int) (W : World) (w0 : I64 a0 ∧ I64 b0) (w1 : I64 a1 ∧ I64 b1) (w2 : I64 a2 ∧ I64 b2) : Calls Try.prog 18 #[ptv a0 b0, ptv a1 b1, ptv a2 b2] W fun e w' => e = .returned (.bool true) ∧ Below W.heap.size W w' :=
  FnC.go (vs := [ptv a0 b0, ptv a1 b1, ptv a2 b2]) law_PredTells W ⟨rfl, rfl, rfl, trivial⟩
end Go.Proofs.Ytmpbbodafenonaa

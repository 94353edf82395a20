/- The document's areas, walked. -/
import Derived.Test.YtcifcohkjifadaaAr1
import Derived.Test.YtcifcohkjifadaaLx
set_option linter.unusedVariables false
set_option linter.unusedSimpArgs false
namespace Go.Proofs.Ytcifcohkjifadaa
open Go Go.RowKit Go.Proofs.Ytcifcohkjifadaa.MT Go.Proofs.Ytcifcohkjifadaa.Fx Go.Proofs.YtcifcohkjifadaaW.PrintWords
set_option maxRecDepth 100000 in
set_option maxHeartbeats 8000000 in
theorem fn_rFits {x y : Int} : FnC Try.prog 36 [.is (ptv x y)] (bv (decide (fit x y))) := by
 refine FnC.of (N := 21) Try.func36 rfl rfl (Nat.le_of_ble_eq_true rfl) (fun w0 ok0 => ?_)
 refine Tr.rs [] (.k (bxx .k (.b 0 rfl)) (.k (asg .k .c) .n)) [] [0] rfl rfl ?_
 rcases (show ¬ x ≥ -4294967296 ∨ x ≥ -4294967296 ∧ ¬ x ≤ 4294967296 ∨ x ≥ -4294967296 ∧ x ≤ 4294967296 ∧ ¬ y ≥ -4294967296 ∨ x ≥ -4294967296 ∧ x ≤ 4294967296 ∧ y ≥ -4294967296 ∧ ¬ y ≤ 4294967296 ∨ x ≥ -4294967296 ∧ x ≤ 4294967296 ∧ y ≥ -4294967296 ∧ y ≤ 4294967296 by omega) with c1 | ⟨c1, c2⟩ | ⟨c1, c2, c3⟩ | ⟨c1, c2, c3, c4⟩ | ⟨c1, c2, c3, c4⟩
 ·
  rw [decide_eq_false (show ¬ fit x y by unfold fit; omega)]
  refine Tr.rs [] (.k (faddr .k (.b 0 rfl) rfl fPX) (.k (ldc .k (.g 0 rfl) (.b 0 rfl) tyI) (.k (ge_ .k (.g 1 rfl) .c (decide_eq_false c1)) (.k (mv .k (.g 2 rfl)) (.k (skp (.on (.g 3 rfl) rfl rfl)) (.k (skp (.on (.g 3 rfl) rfl rfl)) (.k (skp (.on (.g 3 rfl) rfl rfl)) (.k (pickF .k (.g 3 rfl) .c) (.k (mv .k (.g 7 rfl)) (.k (skp (.on (.g 8 rfl) rfl rfl)) (.k (skp (.on (.g 8 rfl) rfl rfl)) (.k (skp (.on (.g 8 rfl) rfl rfl)) (.k (pickF .k (.g 8 rfl) .c) (.k (mv .k (.g 12 rfl)) (.k (skp (.on (.g 13 rfl) rfl rfl)) (.k (skp (.on (.g 13 rfl) rfl rfl)) (.k (skp (.on (.g 13 rfl) rfl rfl)) (.k (pickF .k (.g 13 rfl) .c) (.k (asg .k (.g 17 rfl)) .n))))))))))))))))))) [] [18] rfl rfl ?_
  refine Tr.ret (end_tmp 0 rfl rfl)
 ·
  rw [decide_eq_false (show ¬ fit x y by unfold fit; omega)]
  refine Tr.rs [] (.k (faddr .k (.b 0 rfl) rfl fPX) (.k (ldc .k (.g 0 rfl) (.b 0 rfl) tyI) (.k (ge_ .k (.g 1 rfl) .c (decide_eq_true c1)) (.k (mv .k (.g 2 rfl)) (.k (faddr (.on (.g 3 rfl) rfl rfl) (.b 0 rfl) rfl fPX) (.k (ldc (.on (.g 3 rfl) rfl rfl) (.g 4 rfl) (.b 0 rfl) tyI) (.k (le_ (.on (.g 3 rfl) rfl rfl) (.g 5 rfl) .c (decide_eq_false c2)) (.k (pickT .k (.g 3 rfl) (.g 6 rfl)) (.k (mv .k (.g 7 rfl)) (.k (skp (.on (.g 8 rfl) rfl rfl)) (.k (skp (.on (.g 8 rfl) rfl rfl)) (.k (skp (.on (.g 8 rfl) rfl rfl)) (.k (pickF .k (.g 8 rfl) .c) (.k (mv .k (.g 12 rfl)) (.k (skp (.on (.g 13 rfl) rfl rfl)) (.k (skp (.on (.g 13 rfl) rfl rfl)) (.k (skp (.on (.g 13 rfl) rfl rfl)) (.k (pickF .k (.g 13 rfl) .c) (.k (asg .k (.g 17 rfl)) .n))))))))))))))))))) [] [18] rfl rfl ?_
  refine Tr.ret (end_tmp 0 rfl rfl)
 ·
  rw [decide_eq_false (show ¬ fit x y by unfold fit; omega)]
  refine Tr.rs [] (.k (faddr .k (.b 0 rfl) rfl fPX) (.k (ldc .k (.g 0 rfl) (.b 0 rfl) tyI) (.k (ge_ .k (.g 1 rfl) .c (decide_eq_true c1)) (.k (mv .k (.g 2 rfl)) (.k (faddr (.on (.g 3 rfl) rfl rfl) (.b 0 rfl) rfl fPX) (.k (ldc (.on (.g 3 rfl) rfl rfl) (.g 4 rfl) (.b 0 rfl) tyI) (.k (le_ (.on (.g 3 rfl) rfl rfl) (.g 5 rfl) .c (decide_eq_true c2)) (.k (pickT .k (.g 3 rfl) (.g 6 rfl)) (.k (mv .k (.g 7 rfl)) (.k (faddr (.on (.g 8 rfl) rfl rfl) (.b 0 rfl) rfl fPY) (.k (ldc (.on (.g 8 rfl) rfl rfl) (.g 9 rfl) (.b 0 rfl) tyI) (.k (ge_ (.on (.g 8 rfl) rfl rfl) (.g 10 rfl) .c (decide_eq_false c3)) (.k (pickT .k (.g 8 rfl) (.g 11 rfl)) (.k (mv .k (.g 12 rfl)) (.k (skp (.on (.g 13 rfl) rfl rfl)) (.k (skp (.on (.g 13 rfl) rfl rfl)) (.k (skp (.on (.g 13 rfl) rfl rfl)) (.k (pickF .k (.g 13 rfl) .c) (.k (asg .k (.g 17 rfl)) .n))))))))))))))))))) [] [18] rfl rfl ?_
  refine Tr.ret (end_tmp 0 rfl rfl)
 ·
  rw [decide_eq_false (show ¬ fit x y by unfold fit; omega)]
  refine Tr.rs [] (.k (faddr .k (.b 0 rfl) rfl fPX) (.k (ldc .k (.g 0 rfl) (.b 0 rfl) tyI) (.k (ge_ .k (.g 1 rfl) .c (decide_eq_true c1)) (.k (mv .k (.g 2 rfl)) (.k (faddr (.on (.g 3 rfl) rfl rfl) (.b 0 rfl) rfl fPX) (.k (ldc (.on (.g 3 rfl) rfl rfl) (.g 4 rfl) (.b 0 rfl) tyI) (.k (le_ (.on (.g 3 rfl) rfl rfl) (.g 5 rfl) .c (decide_eq_true c2)) (.k (pickT .k (.g 3 rfl) (.g 6 rfl)) (.k (mv .k (.g 7 rfl)) (.k (faddr (.on (.g 8 rfl) rfl rfl) (.b 0 rfl) rfl fPY) (.k (ldc (.on (.g 8 rfl) rfl rfl) (.g 9 rfl) (.b 0 rfl) tyI) (.k (ge_ (.on (.g 8 rfl) rfl rfl) (.g 10 rfl) .c (decide_eq_true c3)) (.k (pickT .k (.g 8 rfl) (.g 11 rfl)) (.k (mv .k (.g 12 rfl)) (.k (faddr (.on (.g 13 rfl) rfl rfl) (.b 0 rfl) rfl fPY) (.k (ldc (.on (.g 13 rfl) rfl rfl) (.g 14 rfl) (.b 0 rfl) tyI) (.k (le_ (.on (.g 13 rfl) rfl rfl) (.g 15 rfl) .c (decide_eq_false c4)) (.k (pickT .k (.g 13 rfl) (.g 16 rfl)) (.k (asg .k (.g 17 rfl)) .n))))))))))))))))))) [] [18] rfl rfl ?_
  refine Tr.ret (end_tmp 0 rfl rfl)
 ·
  rw [decide_eq_true (show fit x y by unfold fit; omega)]
  refine Tr.rs [] (.k (faddr .k (.b 0 rfl) rfl fPX) (.k (ldc .k (.g 0 rfl) (.b 0 rfl) tyI) (.k (ge_ .k (.g 1 rfl) .c (decide_eq_true c1)) (.k (mv .k (.g 2 rfl)) (.k (faddr (.on (.g 3 rfl) rfl rfl) (.b 0 rfl) rfl fPX) (.k (ldc (.on (.g 3 rfl) rfl rfl) (.g 4 rfl) (.b 0 rfl) tyI) (.k (le_ (.on (.g 3 rfl) rfl rfl) (.g 5 rfl) .c (decide_eq_true c2)) (.k (pickT .k (.g 3 rfl) (.g 6 rfl)) (.k (mv .k (.g 7 rfl)) (.k (faddr (.on (.g 8 rfl) rfl rfl) (.b 0 rfl) rfl fPY) (.k (ldc (.on (.g 8 rfl) rfl rfl) (.g 9 rfl) (.b 0 rfl) tyI) (.k (ge_ (.on (.g 8 rfl) rfl rfl) (.g 10 rfl) .c (decide_eq_true c3)) (.k (pickT .k (.g 8 rfl) (.g 11 rfl)) (.k (mv .k (.g 12 rfl)) (.k (faddr (.on (.g 13 rfl) rfl rfl) (.b 0 rfl) rfl fPY) (.k (ldc (.on (.g 13 rfl) rfl rfl) (.g 14 rfl) (.b 0 rfl) tyI) (.k (le_ (.on (.g 13 rfl) rfl rfl) (.g 15 rfl) .c (decide_eq_true c4)) (.k (pickT .k (.g 13 rfl) (.g 16 rfl)) (.k (asg .k (.g 17 rfl)) .n))))))))))))))))))) [] [18] rfl rfl ?_
  refine Tr.ret (end_tmp 0 rfl rfl)
theorem fn_rFitsT {x y : Int} (h : fit x y) : FnC Try.prog 36 [.is (ptv x y)] (bv true) := decide_eq_true h ▸ fn_rFits
theorem fn_rFitsF {x y : Int} (h : ¬ fit x y) : FnC Try.prog 36 [.is (ptv x y)] (bv false) := decide_eq_false h ▸ fn_rFits
set_option maxRecDepth 100000 in
set_option maxHeartbeats 8000000 in
theorem fn_rnum {n : Int} (h0 : -9223372036854775808 ≤ n) (h1 : n ≤ 9223372036854775807) : FnC Try.prog 47 [iv n] (.num 4 n) := by
 refine FnC.of (N := 5) Try.func47 rfl rfl (Nat.le_of_ble_eq_true rfl) (fun w0 ok0 => ?_)
 refine Tr.rs [] (.k (alc .k zN) .n) [0] [0] rfl rfl ?_
 refine Tr.rs [(1, 2)] (.k (mv .k (.b 0 rfl)) (.k (cal .k Try.func56 rfl (fn_small h0 h1) (.k (.g 0 rfl) .n)) (.k (sto .k (.b 1 rfl) (.g 1 rfl) tyN) .n))) [] [2] rfl rfl ?_
 refine Tr.ret (end_cell 0 rfl rfl tyN)
set_option maxRecDepth 100000 in
set_option maxHeartbeats 8000000 in
theorem fn_rminus {L1 L2 : Nat} {a b : Int} (h1 : L1 ≤ 1000) (h2 : L2 ≤ 1000) : FnC Try.prog 54 [.num L1 a, .num L2 b] (.num (max L1 L2 + 1) (a + -b)) := by
 refine FnC.of (N := 9) Try.func54 rfl rfl (Nat.le_of_ble_eq_true rfl) (fun w0 ok0 => ?_)
 refine Tr.rs [] (.k (bxx .k (.b 0 rfl)) (.k (bxx .k (.b 1 rfl)) (.k (alc .k zN) .n))) [] [0, 1, 2] rfl rfl ?_
 refine Tr.ds hmx [(2, 4)] (.k (ld .k (.b 0 rfl) tyN) (.k (ld .k (.b 1 rfl) tyN) (.k (cal .k Try.func22 rfl fn_nneg (.k (.g 1 rfl) .n)) (.k (cal .k Try.func37 rfl (fn_plus (by omega) (by omega)) (.k (.g 0 rfl) (.k (.g 2 rfl) .n))) (.k (sto .k (.b 2 rfl) (.g 3 rfl) tyN) .n))))) [] [4] rfl rfl ?_
 refine Tr.ret (end_cell 0 rfl rfl tyN)
set_option maxRecDepth 100000 in
set_option maxHeartbeats 8000000 in
theorem fn_rdet {L1 L2 L3 L4 : Nat} {a b c d : Int} (h1 : L1 + L4 ≤ 1000) (h2 : L2 + L3 ≤ 1000) : FnC Try.prog 46 [.num L1 a, .num L2 b, .num L3 c, .num L4 d] (.num (max (L1 + L4) (L2 + L3) + 1) (a * d + -(b * c))) := by
 refine FnC.of (N := 16) Try.func46 rfl rfl (Nat.le_of_ble_eq_true rfl) (fun w0 ok0 => ?_)
 refine Tr.rs [] (.k (bxx .k (.b 0 rfl)) (.k (bxx .k (.b 1 rfl)) (.k (bxx .k (.b 2 rfl)) (.k (bxx .k (.b 3 rfl)) (.k (alc .k zN) .n))))) [] [0, 1, 2, 3, 4] rfl rfl ?_
 refine Tr.ds hmx [(4, 7)] (.k (ld .k (.b 0 rfl) tyN) (.k (ld .k (.b 3 rfl) tyN) (.k (cal .k Try.func55 rfl (fn_times (by omega) (by omega)) (.k (.g 0 rfl) (.k (.g 1 rfl) .n))) (.k (ld .k (.b 1 rfl) tyN) (.k (ld .k (.b 2 rfl) tyN) (.k (cal .k Try.func55 rfl (fn_times (by omega) (by omega)) (.k (.g 3 rfl) (.k (.g 4 rfl) .n))) (.k (cal .k Try.func54 rfl (fn_rminus (by omega) (by omega)) (.k (.g 2 rfl) (.k (.g 5 rfl) .n))) (.k (sto .k (.b 4 rfl) (.g 6 rfl) tyN) .n)))))))) [] [7] rfl rfl ?_
 refine Tr.ret (end_cell 0 rfl rfl tyN)
/-- Twice the area, by the shoelaces. -/
def shoZ (ax ay bx b_y cx cy : Int) : Int := ax * b_y + -(ay * bx) + (bx * cy + -(b_y * cx)) + (cx * ay + -(cy * ax))
set_option maxRecDepth 100000 in
set_option maxHeartbeats 8000000 in
theorem fn_rarea {ax ay bx b_y cx cy : Int} (f1 : fit ax ay) (f2 : fit bx b_y) (f3 : fit cx cy) : FnC Try.prog 38 [.is (ptv ax ay), .is (ptv bx b_y), .is (ptv cx cy)] (.num 11 (shoZ ax ay bx b_y cx cy)) := by
 refine FnC.of (N := 51) Try.func38 rfl rfl (Nat.le_of_ble_eq_true rfl) (fun w0 ok0 => ?_)
 refine Tr.rs [] (.k (bxx .k (.b 0 rfl)) (.k (bxx .k (.b 1 rfl)) (.k (bxx .k (.b 2 rfl)) (.k (alc .k zN) .n)))) [] [0, 1, 2, 3] rfl rfl ?_
 refine Tr.ds hmx [] (.k (faddr .k (.b 0 rfl) rfl fPX) (.k (ldc .k (.g 0 rfl) (.b 0 rfl) tyI) (.k (cal .k Try.func47 rfl (fn_rnum (lN f1.x (by decide)).1 (lN f1.x (by decide)).2) (.k (.g 1 rfl) .n)) (.k (faddr .k (.b 0 rfl) rfl fPY) (.k (ldc .k (.g 3 rfl) (.b 0 rfl) tyI) (.k (cal .k Try.func47 rfl (fn_rnum (lN f1.y (by decide)).1 (lN f1.y (by decide)).2) (.k (.g 4 rfl) .n)) (.k (faddr .k (.b 1 rfl) rfl fPX) (.k (ldc .k (.g 6 rfl) (.b 1 rfl) tyI) (.k (cal .k Try.func47 rfl (fn_rnum (lN f2.x (by decide)).1 (lN f2.x (by decide)).2) (.k (.g 7 rfl) .n)) (.k (faddr .k (.b 1 rfl) rfl fPY) (.k (ldc .k (.g 9 rfl) (.b 1 rfl) tyI) (.k (cal .k Try.func47 rfl (fn_rnum (lN f2.y (by decide)).1 (lN f2.y (by decide)).2) (.k (.g 10 rfl) .n)) (.k (cal .k Try.func46 rfl (fn_rdet (by decide) (by decide)) (.k (.g 2 rfl) (.k (.g 5 rfl) (.k (.g 8 rfl) (.k (.g 11 rfl) .n))))) (.k (ala .k zN) (.k (sta .k (.g 13 rfl) (.g 12 rfl) tyN) .n))))))))))))))) [0, 1, 2, 3] [14] rfl rfl ?_
 refine Tr.ds hmx [(4, 15)] (.k (ld .k (.b 4 rfl) tyN) (.k (faddr .k (.b 1 rfl) rfl fPX) (.k (ldc .k (.g 1 rfl) (.b 1 rfl) tyI) (.k (cal .k Try.func47 rfl (fn_rnum (lN f2.x (by decide)).1 (lN f2.x (by decide)).2) (.k (.g 2 rfl) .n)) (.k (faddr .k (.b 1 rfl) rfl fPY) (.k (ldc .k (.g 4 rfl) (.b 1 rfl) tyI) (.k (cal .k Try.func47 rfl (fn_rnum (lN f2.y (by decide)).1 (lN f2.y (by decide)).2) (.k (.g 5 rfl) .n)) (.k (faddr .k (.b 2 rfl) rfl fPX) (.k (ldc .k (.g 7 rfl) (.b 2 rfl) tyI) (.k (cal .k Try.func47 rfl (fn_rnum (lN f3.x (by decide)).1 (lN f3.x (by decide)).2) (.k (.g 8 rfl) .n)) (.k (faddr .k (.b 2 rfl) rfl fPY) (.k (ldc .k (.g 10 rfl) (.b 2 rfl) tyI) (.k (cal .k Try.func47 rfl (fn_rnum (lN f3.y (by decide)).1 (lN f3.y (by decide)).2) (.k (.g 11 rfl) .n)) (.k (cal .k Try.func46 rfl (fn_rdet (by decide) (by decide)) (.k (.g 3 rfl) (.k (.g 6 rfl) (.k (.g 9 rfl) (.k (.g 12 rfl) .n))))) (.k (cal .k Try.func37 rfl (fn_plus (by decide) (by decide)) (.k (.g 0 rfl) (.k (.g 13 rfl) .n))) (.k (sto .k (.b 4 rfl) (.g 14 rfl) tyN) .n)))))))))))))))) [0, 2, 3] [15] rfl rfl ?_
 refine Tr.ds hmx [(2, 15)] (.k (ld .k (.b 3 rfl) tyN) (.k (faddr .k (.b 1 rfl) rfl fPX) (.k (ldc .k (.g 1 rfl) (.b 1 rfl) tyI) (.k (cal .k Try.func47 rfl (fn_rnum (lN f3.x (by decide)).1 (lN f3.x (by decide)).2) (.k (.g 2 rfl) .n)) (.k (faddr .k (.b 1 rfl) rfl fPY) (.k (ldc .k (.g 4 rfl) (.b 1 rfl) tyI) (.k (cal .k Try.func47 rfl (fn_rnum (lN f3.y (by decide)).1 (lN f3.y (by decide)).2) (.k (.g 5 rfl) .n)) (.k (faddr .k (.b 0 rfl) rfl fPX) (.k (ldc .k (.g 7 rfl) (.b 0 rfl) tyI) (.k (cal .k Try.func47 rfl (fn_rnum (lN f1.x (by decide)).1 (lN f1.x (by decide)).2) (.k (.g 8 rfl) .n)) (.k (faddr .k (.b 0 rfl) rfl fPY) (.k (ldc .k (.g 10 rfl) (.b 0 rfl) tyI) (.k (cal .k Try.func47 rfl (fn_rnum (lN f1.y (by decide)).1 (lN f1.y (by decide)).2) (.k (.g 11 rfl) .n)) (.k (cal .k Try.func46 rfl (fn_rdet (by decide) (by decide)) (.k (.g 3 rfl) (.k (.g 6 rfl) (.k (.g 9 rfl) (.k (.g 12 rfl) .n))))) (.k (cal .k Try.func37 rfl (fn_plus (by decide) (by decide)) (.k (.g 0 rfl) (.k (.g 13 rfl) .n))) (.k (sto .k (.b 2 rfl) (.g 14 rfl) tyN) .n)))))))))))))))) [] [15] rfl rfl ?_
 refine Tr.ret (end_cell 0 rfl rfl tyN)
theorem num_zero (L : Nat) {ok : Nat → Prop} {W : World} : (SP.num L 0).H ok nv0 W :=
  ⟨false, none, 0, 0, [], rfl, rfl, Nat.le_refl _, Kd.F_nil (Kd.int .i64) W ok, ⟨(fun d h => by cases h), (fun n h => by simp at h), (fun h => by cases h), rfl, Nat.zero_le _⟩⟩
section
variable {P : Program} {w0 : World} {ok0 : Nat → Prop} {N : Nat} {R : Rg} {ops : Array Oper} {Q : Exit → Act → World → Prop} {i : Nat} {o : Oper}
/-- No number: naught. -/
theorem bldn (L : Nat) {d : Tmp} {T : TypeId} (hh : Pl R ops i o (some d) (.build T ([] : List (Nat × Operand)).toArray) true) (hb : P.built T [] = some nv0.cells) : Does P w0 ok0 N R ops Q i o (some (.s d (.num L 0))) :=
  does_s hh fun ok a W hf hk K hK => by
    have er : (execOp a.eval o).run P W = .ok (.value nv0) W := by
      unfold execOp
      simp only [hh.op]
      show ((Instr.build T (([] : List (Nat × Operand)).toArray.map (fun p : Nat × Operand => (p.1, a.eval p.2)))) >>= fun v => pure (Next.value v)).run P W = _
      rw [Sem.run_bind, List.map_toArray, List.map_nil, run_build W T _ nv0.cells hb]
      rfl
    unfold Oper.wp
    rw [er]
    exact hK _ W (Below.refl _ _) (num_zero L)
end
theorem bN0 : Try.prog.built 48 [] = some nv0.cells := by kernel_rfl
/-- The fan of triangles from the first place, up to the k-th one. -/
def fanTo (q : List (Int × Int)) : Nat → Int
  | 0 => 0
  | k + 1 => if k < 2 then 0 else fanTo q k + shoZ (q.getD 0 (0, 0)).1 (q.getD 0 (0, 0)).2 (q.getD (k - 1) (0, 0)).1 (q.getD (k - 1) (0, 0)).2 (q.getD k (0, 0)).1 (q.getD k (0, 0)).2
theorem fan_succ {q : List (Int × Int)} {k : Nat} (h : 2 ≤ k) : fanTo q (k + 1) = fanTo q k + shoZ (q.getD 0 (0, 0)).1 (q.getD 0 (0, 0)).2 (q.getD (k - 1) (0, 0)).1 (q.getD (k - 1) (0, 0)).2 (q.getD k (0, 0)).1 (q.getD k (0, 0)).2 := by
  show (if _ then _ else _) = _
  rw [if_neg (by omega)]
def crs (a b : Int × Int) : Int := a.1 * b.2 + -(a.2 * b.1)
theorem shoe_succ {q : List (Int × Int)} {k : Nat} (h : k + 1 < q.length) : shoeTo q (k + 1) = shoeTo q k + crs (q.getD k (0, 0)) (q.getD (k + 1) (0, 0)) := by
  show _ + _ + _ = _
  rw [Nat.mod_eq_of_lt h]
  unfold crs
  omega
theorem shoe_last {q : List (Int × Int)} {k : Nat} (h : k + 1 = q.length) : shoeTo q (k + 1) = shoeTo q k + crs (q.getD k (0, 0)) (q.getD 0 (0, 0)) := by
  show _ + _ + _ = _
  rw [h, Nat.mod_self]
  unfold crs
  omega
theorem fan_open {q : List (Int × Int)} : ∀ {m : Nat}, 2 ≤ m → m ≤ q.length → fanTo q m = shoeTo q (m - 1) + crs (q.getD (m - 1) (0, 0)) (q.getD 0 (0, 0))
  | 0, h, _ => by omega
  | 1, h, _ => by omega
  | 2, _, h => by
    show (if _ then _ else _) = _
    rw [if_pos (by decide), show 2 - 1 = 0 + 1 from rfl, shoe_succ (by omega)]
    show 0 = 0 + _ + _
    unfold crs
    grind
  | m + 3, _, h => by
    have ih := fan_open (q := q) (m := m + 2) (by omega) (by omega)
    rw [fan_succ (by omega), ih, show m + 3 - 1 = (m + 2 - 1) + 1 by omega, shoe_succ (by omega), show m + 2 - 1 + 1 = m + 2 by omega]
    unfold shoZ crs
    grind
theorem fan_shoe (q : List (Int × Int)) : fanTo q (max 2 q.length) = shoeTo q q.length := by
  match hq : q.length with
  | 0 => rfl
  | 1 =>
    show (0 : Int) = _
    rw [show (1 : Nat) = 0 + 1 from rfl, shoe_last (by omega)]
    show 0 = 0 + _
    unfold crs
    grind
  | n + 2 =>
    rw [Nat.max_eq_right (by omega), fan_open (by omega) (by omega), shoe_last (by omega)]
    rfl
theorem ring_at {p : List (Int × Int)} {ring : List Int} (h : ring.any (badPt p) = false) {j : Nat} (hj : j < ring.length) : ∃ c : Nat, ring[j]? = some (c : Int) ∧ c < p.length ∧ fit (p.getD c (0, 0)).1 (p.getD c (0, 0)).2 ∧ (ringPts p ring).getD j (0, 0) = p.getD c (0, 0) := by
  have h1 := List.any_eq_false.1 h ring[j] (List.getElem_mem hj)
  rcases pt_ways p ring[j] with h2 | ⟨_, h2⟩ | ⟨c, e, hc, h3 | h3⟩
  · exact absurd (by unfold badPt; simp [h2]) h1
  · exact absurd (by unfold badPt; simp [h2]) h1
  · rw [e] at h1
    exact absurd (badPt_f h3) h1
  · refine ⟨c, by rw [List.getElem?_eq_getElem hj, e], hc, h3, ?_⟩
    unfold ringPts
    rw [List.getD_eq_getElem?_getD, List.getElem?_map, List.getElem?_eq_getElem hj, e]
    rfl
set_option maxRecDepth 100000 in
set_option maxHeartbeats 8000000 in
theorem fn_rArea (p : List (Int × Int)) (ring : List Int) (hp : p.length ≤ 1000000) (hr : ring.length ≤ 1000) : FnC Try.prog 18 [.vec 2 (p.map pc), ivec ring] (.tup [.num (11 + max 2 ring.length) (areaR p ring).1, iv (areaR p ring).2]) := by
 refine FnC.of (N := 77) Try.func18 rfl rfl (Nat.le_of_ble_eq_true rfl) (fun w0 ok0 => ?_)
 refine Tr.rs [] (.k (alc .k zN) (.k (asg .k .c) .n)) [0, 1] [0] rfl rfl ?_
 refine Tr.seq (Tr.rs [] (.k (mv .k (.b 1 rfl)) (.k (len_ .k rwI (.g 0 rfl) (by rw [List.length_map])) (.k (gt_ .k (.g 1 rfl) .c (decide_eq_false (by omega))) .n))) [0, 1, 2] [2] rfl rfl ?_)
 refine Tr.cond 3 rfl nofun (fun _ => ?_)
 refine Tr.skip (Nx.go (Tr.seq (Tr.rs [] (.k (asg .k .c) .n) [0, 1, 2] [0] rfl rfl ?_)))
 refine Tr.block (?_)
 refine Tr.loop (fun n_ F_ => ∃ k : Nat, (k ≤ ring.length ∧ (ring.take k).any (badPt p) = false) ∧ n_ = ring.length - k ∧ F_ = [.s 0 (.vec 2 (p.map pc)), .s 1 (ivec ring), .b 4 (.is nv0) 48 2, .s 6 (iv ((k : Nat) : Int))]) (ring.length - 0) (F0 := [.s 0 (.vec 2 (p.map pc)), .s 1 (ivec ring), .b 4 (.is nv0) 48 2, .s 6 (iv ((0 : Nat) : Int))]) ⟨0, ⟨Nat.zero_le _, rfl⟩, rfl, rfl⟩ (Sub.all (.cons 0 rfl (.cons 1 rfl (.cons 2 rfl (.cons 3 rfl .nil))))) (fun n_ F_ hI => ?_)
 obtain ⟨k, hinv, rfl, rfl⟩ := hI
 refine Tr.seq (Tr.rs [] (.k (mv .k (.b 3 rfl)) (.k (mv .k (.b 1 rfl)) (.k (len_ .k rwI (.g 1 rfl) (by rw [List.length_map])) (.k (lt_ .k (.g 0 rfl) (.g 2 rfl) rfl) .n)))) [0, 1, 2, 3] [3] rfl rfl ?_)
 refine Tr.cond 4 rfl (fun e16 => ?_) (fun e16 => ?_)
 ·
  have hk2 : k < ring.length := by have := of_decide_eq_true e16; omega
  refine Tr.skip (Nx.go (Tr.seq (Tr.block (?_))))
  obtain ⟨z, p1⟩ : ∃ z, ring[k]? = some z := ⟨_, List.getElem?_eq_getElem hk2⟩; rcases pt_ways p z with h | h | ⟨c, rfl, hc, hf | hf⟩
  ·
   rw [areaR_bad p1 (by simp [badPt]; omega)]
   refine Tr.rs [] (.k (mv .k (.b 1 rfl)) (.k (mv .k (.b 3 rfl)) (.k (idx_ .k rwI (.g 0 rfl) (.g 1 rfl) rfl (by rw [List.getElem?_map, p1]; rfl)) (.k (ldc_at .k (.g 2 rfl) tyI) (.k (lt_ .k (.g 3 rfl) .c (decide_eq_true h)) (.k (mv .k (.g 4 rfl)) (.k (skp (.on (.g 5 rfl) rfl rfl)) (.k (skp (.on (.g 5 rfl) rfl rfl)) (.k (skp (.on (.g 5 rfl) rfl rfl)) (.k (skp (.on (.g 5 rfl) rfl rfl)) (.k (skp (.on (.g 5 rfl) rfl rfl)) (.k (skp (.on (.g 5 rfl) rfl rfl)) (.k (skp (.on (.g 5 rfl) rfl rfl)) (.k (pickT .k (.g 5 rfl) .c) (.k (mv .k (.g 13 rfl)) (.k (skp (.on (.g 14 rfl) rfl rfl)) (.k (skp (.on (.g 14 rfl) rfl rfl)) (.k (skp (.on (.g 14 rfl) rfl rfl)) (.k (skp (.on (.g 14 rfl) rfl rfl)) (.k (skp (.on (.g 14 rfl) rfl rfl)) (.k (skp (.on (.g 14 rfl) rfl rfl)) (.k (skp (.on (.g 14 rfl) rfl rfl)) (.k (skp (.on (.g 14 rfl) rfl rfl)) (.k (skp (.on (.g 14 rfl) rfl rfl)) (.k (pickT .k (.g 14 rfl) .c) .n))))))))))))))))))))))))) [0, 1, 2, 3] [24] rfl rfl ?_
   refine Tr.cond 4 rfl (fun _ => ?_) nofun
   refine Tr.rs [(2, 1)] (.k (bldn (11 + max 2 ring.length) .k bN0) (.k (sto .k (.b 2 rfl) (.g 0 rfl) tyN) (.k (asg .k .c) .n))) [] [1, 2] rfl rfl ?_
   refine Tr.ret (end_cell_tmp 0 1 rfl rfl rfl tyN)
  ·
   obtain ⟨h0, h⟩ := h
   rw [areaR_bad p1 (by simp [badPt]; omega)]
   refine Tr.rs [] (.k (mv .k (.b 1 rfl)) (.k (mv .k (.b 3 rfl)) (.k (idx_ .k rwI (.g 0 rfl) (.g 1 rfl) rfl (by rw [List.getElem?_map, p1]; rfl)) (.k (ldc_at .k (.g 2 rfl) tyI) (.k (lt_ .k (.g 3 rfl) .c (decide_eq_false h0)) (.k (mv .k (.g 4 rfl)) (.k (mv (.on (.g 5 rfl) rfl rfl) (.b 1 rfl)) (.k (mv (.on (.g 5 rfl) rfl rfl) (.b 3 rfl)) (.k (idx_ (.on (.g 5 rfl) rfl rfl) rwI (.g 6 rfl) (.g 7 rfl) rfl (by rw [List.getElem?_map, p1]; rfl)) (.k (ldc_at (.on (.g 5 rfl) rfl rfl) (.g 8 rfl) tyI) (.k (mv (.on (.g 5 rfl) rfl rfl) (.b 0 rfl)) (.k (len_ (.on (.g 5 rfl) rfl rfl) rwP (.g 10 rfl) (by rw [List.length_map])) (.k (ge_ (.on (.g 5 rfl) rfl rfl) (.g 9 rfl) (.g 11 rfl) (decide_eq_true h)) (.k (pickF .k (.g 5 rfl) (.g 12 rfl)) (.k (mv .k (.g 13 rfl)) (.k (skp (.on (.g 14 rfl) rfl rfl)) (.k (skp (.on (.g 14 rfl) rfl rfl)) (.k (skp (.on (.g 14 rfl) rfl rfl)) (.k (skp (.on (.g 14 rfl) rfl rfl)) (.k (skp (.on (.g 14 rfl) rfl rfl)) (.k (skp (.on (.g 14 rfl) rfl rfl)) (.k (skp (.on (.g 14 rfl) rfl rfl)) (.k (skp (.on (.g 14 rfl) rfl rfl)) (.k (skp (.on (.g 14 rfl) rfl rfl)) (.k (pickT .k (.g 14 rfl) .c) .n))))))))))))))))))))))))) [0, 1, 2, 3] [24] rfl rfl ?_
   refine Tr.cond 4 rfl (fun _ => ?_) nofun
   refine Tr.rs [(2, 1)] (.k (bldn (11 + max 2 ring.length) .k bN0) (.k (sto .k (.b 2 rfl) (.g 0 rfl) tyN) (.k (asg .k .c) .n))) [] [1, 2] rfl rfl ?_
   refine Tr.ret (end_cell_tmp 0 1 rfl rfl rfl tyN)
  ·
   rw [areaR_bad p1 (badPt_f hf)]
   refine Tr.rs [] (.k (mv .k (.b 1 rfl)) (.k (mv .k (.b 3 rfl)) (.k (idx_ .k rwI (.g 0 rfl) (.g 1 rfl) rfl (by rw [List.getElem?_map, p1]; rfl)) (.k (ldc_at .k (.g 2 rfl) tyI) (.k (lt_ .k (.g 3 rfl) .c (decide_eq_false (by omega))) (.k (mv .k (.g 4 rfl)) (.k (mv (.on (.g 5 rfl) rfl rfl) (.b 1 rfl)) (.k (mv (.on (.g 5 rfl) rfl rfl) (.b 3 rfl)) (.k (idx_ (.on (.g 5 rfl) rfl rfl) rwI (.g 6 rfl) (.g 7 rfl) rfl (by rw [List.getElem?_map, p1]; rfl)) (.k (ldc_at (.on (.g 5 rfl) rfl rfl) (.g 8 rfl) tyI) (.k (mv (.on (.g 5 rfl) rfl rfl) (.b 0 rfl)) (.k (len_ (.on (.g 5 rfl) rfl rfl) rwP (.g 10 rfl) (by rw [List.length_map])) (.k (ge_ (.on (.g 5 rfl) rfl rfl) (.g 9 rfl) (.g 11 rfl) (decide_eq_false (by omega))) (.k (pickF .k (.g 5 rfl) (.g 12 rfl)) (.k (mv .k (.g 13 rfl)) (.k (mv (.on (.g 14 rfl) rfl rfl) (.b 0 rfl)) (.k (mv (.on (.g 14 rfl) rfl rfl) (.b 1 rfl)) (.k (mv (.on (.g 14 rfl) rfl rfl) (.b 3 rfl)) (.k (idx_ (.on (.g 14 rfl) rfl rfl) rwI (.g 16 rfl) (.g 17 rfl) rfl (by rw [List.getElem?_map, p1]; rfl)) (.k (ldc_at (.on (.g 14 rfl) rfl rfl) (.g 18 rfl) tyI) (.k (idx_ (.on (.g 14 rfl) rfl rfl) rwP (.g 15 rfl) (.g 19 rfl) rfl (by rw [List.getElem?_map, getD_of (d := (0, 0)) hc]; rfl)) (.k (ld_at (.on (.g 14 rfl) rfl rfl) (.g 20 rfl) tyP rfl (aPc _ _)) (.k (cal (.on (.g 14 rfl) rfl rfl) Try.func36 rfl (fn_rFitsF hf) (.k (.g 21 rfl) .n)) (.k (not_ (.on (.g 14 rfl) rfl rfl) (.g 22 rfl)) (.k (pickF .k (.g 14 rfl) (.g 23 rfl)) .n))))))))))))))))))))))))) [0, 1, 2, 3] [24] rfl rfl ?_
   refine Tr.cond 4 rfl (fun _ => ?_) nofun
   refine Tr.rs [(2, 1)] (.k (bldn (11 + max 2 ring.length) .k bN0) (.k (sto .k (.b 2 rfl) (.g 0 rfl) tyN) (.k (asg .k .c) .n))) [] [1, 2] rfl rfl ?_
   refine Tr.ret (end_cell_tmp 0 1 rfl rfl rfl tyN)
  ·
   have hbf := badPt_t hc hf
   refine Tr.rs [] (.k (mv .k (.b 1 rfl)) (.k (mv .k (.b 3 rfl)) (.k (idx_ .k rwI (.g 0 rfl) (.g 1 rfl) rfl (by rw [List.getElem?_map, p1]; rfl)) (.k (ldc_at .k (.g 2 rfl) tyI) (.k (lt_ .k (.g 3 rfl) .c (decide_eq_false (by omega))) (.k (mv .k (.g 4 rfl)) (.k (mv (.on (.g 5 rfl) rfl rfl) (.b 1 rfl)) (.k (mv (.on (.g 5 rfl) rfl rfl) (.b 3 rfl)) (.k (idx_ (.on (.g 5 rfl) rfl rfl) rwI (.g 6 rfl) (.g 7 rfl) rfl (by rw [List.getElem?_map, p1]; rfl)) (.k (ldc_at (.on (.g 5 rfl) rfl rfl) (.g 8 rfl) tyI) (.k (mv (.on (.g 5 rfl) rfl rfl) (.b 0 rfl)) (.k (len_ (.on (.g 5 rfl) rfl rfl) rwP (.g 10 rfl) (by rw [List.length_map])) (.k (ge_ (.on (.g 5 rfl) rfl rfl) (.g 9 rfl) (.g 11 rfl) (decide_eq_false (by omega))) (.k (pickF .k (.g 5 rfl) (.g 12 rfl)) (.k (mv .k (.g 13 rfl)) (.k (mv (.on (.g 14 rfl) rfl rfl) (.b 0 rfl)) (.k (mv (.on (.g 14 rfl) rfl rfl) (.b 1 rfl)) (.k (mv (.on (.g 14 rfl) rfl rfl) (.b 3 rfl)) (.k (idx_ (.on (.g 14 rfl) rfl rfl) rwI (.g 16 rfl) (.g 17 rfl) rfl (by rw [List.getElem?_map, p1]; rfl)) (.k (ldc_at (.on (.g 14 rfl) rfl rfl) (.g 18 rfl) tyI) (.k (idx_ (.on (.g 14 rfl) rfl rfl) rwP (.g 15 rfl) (.g 19 rfl) rfl (by rw [List.getElem?_map, getD_of (d := (0, 0)) hc]; rfl)) (.k (ld_at (.on (.g 14 rfl) rfl rfl) (.g 20 rfl) tyP rfl (aPc _ _)) (.k (cal (.on (.g 14 rfl) rfl rfl) Try.func36 rfl (fn_rFitsT hf) (.k (.g 21 rfl) .n)) (.k (not_ (.on (.g 14 rfl) rfl rfl) (.g 22 rfl)) (.k (pickF .k (.g 14 rfl) (.g 23 rfl)) .n))))))))))))))))))))))))) [0, 1, 2, 3] [24] rfl rfl ?_
   refine Tr.cond 4 rfl nofun (fun _ => ?_)
   refine Tr.skip (Nx.bkN (Nx.go (Tr.reg [(3, 2)] (.k (mv .k (.b 3 rfl)) (.k (add_ .k (.g 0 rfl) .c (show IntKind.i64.wrap ((k : Int) + 1) = ((k + 1 : Nat) : Int) by rw [IntWalk.i64_in _ (by omega)]; omega)) (.k (asg .k (.g 1 rfl)) .n))) [0, 1, 2] [2] rfl rfl (Nx.again (ring.length - (k + 1)) (by omega) [.s 0 (.vec 2 (p.map pc)), .s 1 (ivec ring), .b 4 (.is nv0) 48 2, .s 6 (iv (((k + 1) : Nat) : Int))] ⟨(k + 1), ⟨by omega, badPt_succ hinv.2 p1 hbf⟩, rfl, rfl⟩ (Sub.all (.cons 0 rfl (.cons 1 rfl (.cons 2 rfl (.cons 3 rfl .nil)))))))))
 ·
  obtain rfl : k = ring.length := by have := of_decide_eq_false e16; omega
  refine Tr.exit (Nx.thX (Nx.thX (Nx.bkX (Nx.go (?_)))))
  have hok := hinv.2
  rw [List.take_length] at hok
  rw [areaR_ok hok]
  refine Tr.rs [] (.k (bldn (11 + 2) .k bN0) (.k (ala .k zN) (.k (sta .k (.g 1 rfl) (.g 0 rfl) tyN) .n))) [0, 1, 2] [2] rfl rfl ?_
  refine Tr.seq (Tr.rs [] (.k (asg .k .c) .n) [0, 1, 2, 3] [0] rfl rfl ?_)
  refine Tr.block (?_)
  refine Tr.loop (fun n_ F_ => ∃ k : Nat, (2 ≤ k ∧ k ≤ max 2 ring.length) ∧ n_ = max 2 ring.length - k ∧ F_ = [.s 0 (.vec 2 (p.map pc)), .s 1 (ivec ring), .b 4 (.is nv0) 48 2, .b 7 (.num (11 + k) (fanTo (ringPts p ring) k)) 48 2, .s 8 (iv ((k : Nat) : Int))]) (max 2 ring.length - 2) (F0 := [.s 0 (.vec 2 (p.map pc)), .s 1 (ivec ring), .b 4 (.is nv0) 48 2, .b 7 (.num (11 + 2) (fanTo (ringPts p ring) 2)) 48 2, .s 8 (iv ((2 : Nat) : Int))]) ⟨2, ⟨Nat.le_refl _, by omega⟩, rfl, rfl⟩ (Sub.all (.cons 0 rfl (.cons 1 rfl (.cons 2 rfl (.cons 3 rfl (.cons 4 rfl .nil)))))) (fun n_ F_ hI => ?_)
  obtain ⟨k, hinv, rfl, rfl⟩ := hI
  refine Tr.seq (Tr.rs [] (.k (mv .k (.b 4 rfl)) (.k (mv .k (.b 1 rfl)) (.k (len_ .k rwI (.g 1 rfl) (by rw [List.length_map])) (.k (lt_ .k (.g 0 rfl) (.g 2 rfl) rfl) .n)))) [0, 1, 2, 3, 4] [3] rfl rfl ?_)
  refine Tr.cond 5 rfl (fun e49 => ?_) (fun e49 => ?_)
  ·
   have hk2 : k < ring.length := by have := of_decide_eq_true e49; omega
   refine Tr.skip (Nx.go (Tr.seq (Tr.block (?_))))
   obtain ⟨c0, q0⟩ := ring_at hok (j := 0) (by omega); obtain ⟨c1, q1⟩ := ring_at hok (j := k - 1) (by omega); obtain ⟨c2, q2⟩ := ring_at hok hk2
   refine Tr.draw hmx [(3, 24)] (.k (ld .k (.b 3 rfl) tyN) (.k (mv .k (.b 0 rfl)) (.k (mv .k (.b 1 rfl)) (.k (idx_ .k rwI (.g 2 rfl) .c rfl (by rw [List.getElem?_map, q0.1]; rfl)) (.k (ldc_at .k (.g 3 rfl) tyI) (.k (idx_ .k rwP (.g 1 rfl) (.g 4 rfl) rfl (by rw [List.getElem?_map, getD_of (d := (0, 0)) q0.2.1]; rfl)) (.k (ld_at .k (.g 5 rfl) tyP rfl (aPc _ _)) (.k (mv .k (.b 0 rfl)) (.k (mv .k (.b 1 rfl)) (.k (mv .k (.b 4 rfl)) (.k (sub_ .k (.g 9 rfl) .c (show IntKind.i64.wrap ((k : Int) - 1) = ((k - 1 : Nat) : Int) by rw [IntWalk.i64_in _ (by omega)]; omega)) (.k (idx_ .k rwI (.g 8 rfl) (.g 10 rfl) rfl (by rw [List.getElem?_map, q1.1]; rfl)) (.k (ldc_at .k (.g 11 rfl) tyI) (.k (idx_ .k rwP (.g 7 rfl) (.g 12 rfl) rfl (by rw [List.getElem?_map, getD_of (d := (0, 0)) q1.2.1]; rfl)) (.k (ld_at .k (.g 13 rfl) tyP rfl (aPc _ _)) (.k (mv .k (.b 0 rfl)) (.k (mv .k (.b 1 rfl)) (.k (mv .k (.b 4 rfl)) (.k (idx_ .k rwI (.g 16 rfl) (.g 17 rfl) rfl (by rw [List.getElem?_map, q2.1]; rfl)) (.k (ldc_at .k (.g 18 rfl) tyI) (.k (idx_ .k rwP (.g 15 rfl) (.g 19 rfl) rfl (by rw [List.getElem?_map, getD_of (d := (0, 0)) q2.2.1]; rfl)) (.k (ld_at .k (.g 20 rfl) tyP rfl (aPc _ _)) (.k (cal .k Try.func38 rfl (fn_rarea q0.2.2.1 q1.2.2.1 q2.2.2.1) (.k (.g 6 rfl) (.k (.g 14 rfl) (.k (.g 21 rfl) .n)))) (.k (cal .k Try.func37 rfl (fn_plus (by omega) (by decide)) (.k (.g 0 rfl) (.k (.g 22 rfl) .n))) (.k (sto .k (.b 3 rfl) (.g 23 rfl) tyN) .n))))))))))))))))))))))))) [0, 1, 2, 4] [24] rfl rfl (Nx.bkN (Nx.go (?_)))
   rw [show max (11 + k) 11 + 1 = 11 + (k + 1) by omega, ← q0.2.2.2, ← q1.2.2.2, ← q2.2.2.2, ← fan_succ hinv.1]
   refine Tr.reg [(3, 2)] (.k (mv .k (.b 3 rfl)) (.k (add_ .k (.g 0 rfl) .c (show IntKind.i64.wrap ((k : Int) + 1) = ((k + 1 : Nat) : Int) by rw [IntWalk.i64_in _ (by omega)]; omega)) (.k (asg .k (.g 1 rfl)) .n))) [0, 1, 2, 4] [2] rfl rfl (Nx.again (max 2 ring.length - (k + 1)) (by omega) [.s 0 (.vec 2 (p.map pc)), .s 1 (ivec ring), .b 4 (.is nv0) 48 2, .b 7 (.num (11 + (k + 1)) (fanTo (ringPts p ring) (k + 1))) 48 2, .s 8 (iv (((k + 1) : Nat) : Int))] ⟨(k + 1), ⟨by omega, by omega⟩, rfl, rfl⟩ (Sub.all (.cons 0 rfl (.cons 1 rfl (.cons 2 rfl (.cons 3 rfl (.cons 4 rfl .nil)))))))
  ·
   obtain rfl : k = max 2 ring.length := by have := of_decide_eq_false e49; omega
   refine Tr.exit (Nx.thX (Nx.thX (Nx.bkX (Nx.go (?_)))))
   rw [← ringPts_len p ring, fan_shoe, ringPts_len]
   refine Tr.rs [(2, 1)] (.k (ld .k (.b 3 rfl) tyN) (.k (sto .k (.b 2 rfl) (.g 0 rfl) tyN) (.k (asg .k .c) .n))) [] [1, 2] rfl rfl ?_
   refine Tr.ret (end_cell_tmp 0 1 rfl rfl rfl tyN)
end Go.Proofs.Ytcifcohkjifadaa

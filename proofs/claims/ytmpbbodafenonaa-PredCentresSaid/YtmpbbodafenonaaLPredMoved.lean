/- PredMoved: moved, turned and mirrored; plain words and the walk. -/
import Derived.Test.YtmpbbodafenonaaLPredSkinny
set_option linter.unusedVariables false
set_option linter.unusedSimpArgs false
namespace Go.Proofs.Ytmpbbodafenonaa
open Go Go.RowKit Go.Proofs.Ytmpbbodafenonaa.Fx Go.Proofs.YtmpbbodafenonaaW.PrintWords
theorem six (A B C D E : Prop) : ¬ A ∨ A ∧ ¬ B ∨ A ∧ B ∧ ¬ C ∨ A ∧ B ∧ C ∧ ¬ D ∨ A ∧ B ∧ C ∧ D ∧ ¬ E ∨ A ∧ B ∧ C ∧ D ∧ E := by
  by_cases a : A <;> by_cases b : B <;> by_cases c : C <;> by_cases d : D <;> by_cases e : E <;> simp [a, b, c, d, e]
theorem all_four {ax ay bx b_y cx cy dx dy : Int} (ha : fit ax ay) (hb : fit bx b_y) (hc : fit cx cy) (hd : fit dx dy) : [(ax, ay), (bx, b_y), (cx, cy), (dx, dy)].all fitP = true := by simp [fitP, ha, hb, hc, hd]
theorem ori_ok {ax ay bx b_y cx cy : Int} (ha : fit ax ay) (hb : fit bx b_y) (hc : fit cx cy) : oriZ ax ay bx b_y cx cy = sgn (areaZ ax ay bx b_y cx cy) := if_pos ⟨ha, hb, hc⟩
theorem inc_ok {ax ay bx b_y cx cy dx dy : Int} (ha : fit ax ay) (hb : fit bx b_y) (hc : fit cx cy) (hd : fit dx dy) : incZ ax ay bx b_y cx cy dx dy = sgn (allZ ax ay bx b_y cx cy dx dy) * sgn (areaZ ax ay bx b_y cx cy) := if_pos ⟨ha, hb, hc, hd⟩
def disR (s1 s2 : Bool) (z : Int) : Bool := if s1 = true ∨ s2 = true then false else decide (sgn z ≤ 0)
theorem dis_ok {ax ay bx b_y px py : Int} (ha : fit ax ay) (hb : fit bx b_y) (hp : fit px py) : disB ax ay bx b_y px py = disR (same px py ax ay) (same px py bx b_y) (discZ ax ay bx b_y px py) := by
  unfold disB disR
  simp only [ha, hb, hp, and_self, not_true_eq_false, false_or]
theorem sk_ok {ax ay bx b_y cx cy : Int} (ha : fit ax ay) (hb : fit bx b_y) (hc : fit cx cy) : skB ax ay bx b_y cx cy = skR (wayZ ax ay bx b_y) (wayZ bx b_y cx cy) (wayZ cx cy ax ay) (areaZ ax ay bx b_y cx cy) := by rw [sk_eq, if_pos ⟨ha, hb, hc⟩]
theorem beq_of {a b c d : Int} (h : a = b ↔ c = d) : (a == b) = (c == d) := by rw [Bool.eq_iff_iff, beq_iff_eq, beq_iff_eq]; exact h
theorem skR_neg (x y z t : Int) : skR x y z (-t) = skR x y z t := by
  unfold skR
  have e1 : x * y * z - 8 * lsZ x y z * -t * -t = x * y * z - 8 * lsZ x y z * t * t := by grind
  have e2 : decide (-t = 0) = decide (t = 0) := decide_eq_decide.2 (by omega)
  rw [e1, e2]
/-! ### Moved -/
section
variable {ax ay bx b_y cx cy dx dy x y : Int}
theorem area_mv : areaZ (ax + x) (ay + y) (bx + x) (b_y + y) (cx + x) (cy + y) = areaZ ax ay bx b_y cx cy := by
  unfold areaZ
  rw [show bx + x - (ax + x) = bx - ax by omega, show cy + y - (ay + y) = cy - ay by omega, show b_y + y - (ay + y) = b_y - ay by omega, show cx + x - (ax + x) = cx - ax by omega]
theorem all_mv : allZ (ax + x) (ay + y) (bx + x) (b_y + y) (cx + x) (cy + y) (dx + x) (dy + y) = allZ ax ay bx b_y cx cy dx dy := by
  unfold allZ
  rw [show ax + x - (dx + x) = ax - dx by omega, show ay + y - (dy + y) = ay - dy by omega, show bx + x - (dx + x) = bx - dx by omega, show b_y + y - (dy + y) = b_y - dy by omega, show cx + x - (dx + x) = cx - dx by omega, show cy + y - (dy + y) = cy - dy by omega]
theorem disc_mv : discZ (ax + x) (ay + y) (bx + x) (b_y + y) (cx + x) (cy + y) = discZ ax ay bx b_y cx cy := by
  unfold discZ
  rw [show ax + x - (cx + x) = ax - cx by omega, show ay + y - (cy + y) = ay - cy by omega, show bx + x - (cx + x) = bx - cx by omega, show b_y + y - (cy + y) = b_y - cy by omega]
theorem way_mv : wayZ (ax + x) (ay + y) (bx + x) (b_y + y) = wayZ ax ay bx b_y := by
  unfold wayZ
  rw [show bx + x - (ax + x) = bx - ax by omega, show b_y + y - (ay + y) = b_y - ay by omega]
theorem same_mv : same (ax + x) (ay + y) (bx + x) (b_y + y) = same ax ay bx b_y := by
  unfold same
  rw [beq_of (show ax + x = bx + x ↔ ax = bx by omega), beq_of (show ay + y = b_y + y ↔ ay = b_y by omega)]
/-! ### Turned -/
theorem fit_tu (h : fit ax ay) : fit (-ay) ax := by unfold fit at *; omega
theorem area_tu : areaZ (-ay) ax (-b_y) bx (-cy) cx = areaZ ax ay bx b_y cx cy := by unfold areaZ; grind
theorem sq_tu : sqZ (-y) x = sqZ x y := by unfold sqZ; grind
theorem tu_tu {u v : Int} : tuZ (-y) x (-v) u = tuZ x y u v := by unfold tuZ; grind
theorem all_tu : allZ (-ay) ax (-b_y) bx (-cy) cx (-dy) dx = allZ ax ay bx b_y cx cy dx dy := by
  unfold allZ
  rw [show -ay - -dy = -(ay - dy) by omega, show -b_y - -dy = -(b_y - dy) by omega, show -cy - -dy = -(cy - dy) by omega]
  simp only [sq_tu, tu_tu]
theorem disc_tu : discZ (-ay) ax (-b_y) bx (-cy) cx = discZ ax ay bx b_y cx cy := by unfold discZ; grind
theorem way_tu : wayZ (-ay) ax (-b_y) bx = wayZ ax ay bx b_y := by unfold wayZ sqZ; grind
theorem same_tu : same (-ay) ax (-b_y) bx = same ax ay bx b_y := by
  unfold same
  rw [beq_of (show -ay = -b_y ↔ ay = b_y by omega), Bool.and_comm]
/-! ### Mirrored -/
theorem fit_mi (h : fit ax ay) : fit (-ax) ay := by unfold fit at *; omega
theorem area_mi : areaZ (-ax) ay (-bx) b_y (-cx) cy = -areaZ ax ay bx b_y cx cy := by unfold areaZ; grind
theorem sq_mi : sqZ (-x) y = sqZ x y := by unfold sqZ; grind
theorem tu_mi {u v : Int} : tuZ (-x) y (-u) v = -tuZ x y u v := by unfold tuZ; grind
theorem all_mi : allZ (-ax) ay (-bx) b_y (-cx) cy (-dx) dy = -allZ ax ay bx b_y cx cy dx dy := by
  unfold allZ
  rw [show -ax - -dx = -(ax - dx) by omega, show -bx - -dx = -(bx - dx) by omega, show -cx - -dx = -(cx - dx) by omega]
  simp only [sq_mi, tu_mi, Int.mul_neg]
  omega
theorem disc_mi : discZ (-ax) ay (-bx) b_y (-cx) cy = discZ ax ay bx b_y cx cy := by unfold discZ; grind
theorem way_mi : wayZ (-ax) ay (-bx) b_y = wayZ ax ay bx b_y := by unfold wayZ sqZ; grind
theorem same_mi : same (-ax) ay (-bx) b_y = same ax ay bx b_y := by
  unfold same
  rw [beq_of (show -ax = -bx ↔ ax = bx by omega)]
section
variable (ha : fit ax ay) (hb : fit bx b_y) (hc : fit cx cy)
include ha hb hc
theorem ori_mv (ga : fit (ax + x) (ay + y)) (gb : fit (bx + x) (b_y + y)) (gc : fit (cx + x) (cy + y)) : oriZ (ax + x) (ay + y) (bx + x) (b_y + y) (cx + x) (cy + y) = oriZ ax ay bx b_y cx cy := by
  rw [ori_ok ga gb gc, ori_ok ha hb hc, area_mv]
theorem inc_mv (hd : fit dx dy) (ga : fit (ax + x) (ay + y)) (gb : fit (bx + x) (b_y + y)) (gc : fit (cx + x) (cy + y)) (gd : fit (dx + x) (dy + y)) : incZ (ax + x) (ay + y) (bx + x) (b_y + y) (cx + x) (cy + y) (dx + x) (dy + y) = incZ ax ay bx b_y cx cy dx dy := by
  rw [inc_ok ga gb gc gd, inc_ok ha hb hc hd, area_mv, all_mv]
theorem dis_mv (ga : fit (ax + x) (ay + y)) (gb : fit (bx + x) (b_y + y)) (gc : fit (cx + x) (cy + y)) : disB (ax + x) (ay + y) (bx + x) (b_y + y) (cx + x) (cy + y) = disB ax ay bx b_y cx cy := by
  rw [dis_ok ga gb gc, dis_ok ha hb hc, disc_mv, same_mv, same_mv]
theorem sk_mv (ga : fit (ax + x) (ay + y)) (gb : fit (bx + x) (b_y + y)) (gc : fit (cx + x) (cy + y)) : skB (ax + x) (ay + y) (bx + x) (b_y + y) (cx + x) (cy + y) = skB ax ay bx b_y cx cy := by
  rw [sk_ok ga gb gc, sk_ok ha hb hc, way_mv, way_mv, way_mv, area_mv]
theorem ori_tu : oriZ (-ay) ax (-b_y) bx (-cy) cx = oriZ ax ay bx b_y cx cy := by
  rw [ori_ok (fit_tu ha) (fit_tu hb) (fit_tu hc), ori_ok ha hb hc, area_tu]
theorem inc_tu (hd : fit dx dy) : incZ (-ay) ax (-b_y) bx (-cy) cx (-dy) dx = incZ ax ay bx b_y cx cy dx dy := by
  rw [inc_ok (fit_tu ha) (fit_tu hb) (fit_tu hc) (fit_tu hd), inc_ok ha hb hc hd, area_tu, all_tu]
theorem dis_tu : disB (-ay) ax (-b_y) bx (-cy) cx = disB ax ay bx b_y cx cy := by
  rw [dis_ok (fit_tu ha) (fit_tu hb) (fit_tu hc), dis_ok ha hb hc, disc_tu, same_tu, same_tu]
theorem sk_tu : skB (-ay) ax (-b_y) bx (-cy) cx = skB ax ay bx b_y cx cy := by
  rw [sk_ok (fit_tu ha) (fit_tu hb) (fit_tu hc), sk_ok ha hb hc, way_tu, way_tu, way_tu, area_tu]
theorem ori_mi : oriZ (-ax) ay (-bx) b_y (-cx) cy = -oriZ ax ay bx b_y cx cy := by
  rw [ori_ok (fit_mi ha) (fit_mi hb) (fit_mi hc), ori_ok ha hb hc, area_mi, sgn_negz]
theorem inc_mi (hd : fit dx dy) : incZ (-ax) ay (-bx) b_y (-cx) cy (-dx) dy = incZ ax ay bx b_y cx cy dx dy := by
  rw [inc_ok (fit_mi ha) (fit_mi hb) (fit_mi hc) (fit_mi hd), inc_ok ha hb hc hd, area_mi, all_mi, sgn_negz, sgn_negz, Int.neg_mul_neg]
theorem dis_mi : disB (-ax) ay (-bx) b_y (-cx) cy = disB ax ay bx b_y cx cy := by
  rw [dis_ok (fit_mi ha) (fit_mi hb) (fit_mi hc), dis_ok ha hb hc, disc_mi, same_mi, same_mi]
theorem sk_mi : skB (-ax) ay (-bx) b_y (-cx) cy = skB ax ay bx b_y cx cy := by
  rw [sk_ok (fit_mi ha) (fit_mi hb) (fit_mi hc), sk_ok ha hb hc, way_mi, way_mi, way_mi, area_mi, skR_neg]
end
end
section
variable {P : Program} {w0 : World} {ok0 : Nat → Prop} {N : Nat} {R : Rg} {ops : Array Oper} {Q : Exit → Act → World → Prop} {i : Nat} {o : Oper}
/-- An operation that is not done, and what its slot holds then. -/
theorem skpu {d : Tmp} {op : Op} (hh : Pl R ops i o (some d) op false) : Does P w0 ok0 N R ops Q i o (some (.s d (.is undef))) := by
  intro l Φ a W hdN hnd hS hΦ
  obtain ⟨ok, h1, h2, h3⟩ := hS.ex
  have hf : ∀ f, R.Nd i f → f.holds w0.heap.size ok a W := fun f hf => h3 f (hnd f hf)
  rw [if_neg (by rw [hh.wanted hf]; simp), hh.dst]
  refine hS.put_s (hdN d hh.dst) (Below.refl _ _) h1 h2 h3 (p := .is undef) rfl (fun f hΦf => ?_)
  rcases hΦ f hΦf with h | ⟨h, hu⟩
  · cases h; exact .inl rfl
  · exact .inr ⟨h, by simpa [undoes, hh.dst] using hu⟩
/-- An operation that waits on one that was not done. -/
theorem skpn {d t : Tmp} {op : Op} {ty : TypeId} {ps : String} {af : Array Edge} {j : Nat} {want : Bool} (hn : Vl R i (.tmp t) (.is undef)) (ht : (ops[j]?).bind (·.dst) = some t) :
    Does P w0 ok0 N R ops Q i ⟨some d, op, ty, ps, af, some (j, want)⟩ none := by
  intro l Φ a W hdN hnd hS hΦ
  obtain ⟨ok, h1, h2, h3⟩ := hS.ex
  have hf : ∀ f, R.Nd i f → f.holds w0.heap.size ok a W := fun f hf => h3 f (hnd f hf)
  have hw : Region.wanted ⟨some d, op, ty, ps, af, some (j, want)⟩ (yielded ops a.tmps) = false := by
    have : a.tmps.getD t undef = undef := hn.H hf
    unfold Region.wanted
    simp only [yielded, ht, Option.bind_some]
    rw [Array.getD_eq_getD_getElem?] at this
    cases h : a.tmps[t]? with
    | none => rfl
    | some v => rw [h] at this; simp at this; rw [this]; rfl
  rw [if_neg (by rw [hw]; simp)]
  refine hS.put_s (hdN d rfl) (Below.refl _ _) h1 h2 h3 (p := .is undef) rfl (fun f hΦf => ?_)
  rcases hΦ f hΦf with h | ⟨h, hu⟩
  · cases h
  · exact .inr ⟨h, by simpa [undoes] using hu⟩
end
set_option maxRecDepth 100000 in
set_option maxHeartbeats 8000000 in
theorem fn_moved {ax ay x y : Int} (ha : fit ax ay) (he : fit x y) : FnC Try.prog 59 [.is (ptv ax ay), .is (ptv x y)] (.is (ptv (ax + x) (ay + y))) := by
 refine FnC.of (N := 16) Try.func59 rfl rfl (Nat.le_of_ble_eq_true rfl) (fun w0 ok0 => ?_)
 refine Tr.rs [] (.k (bxx .k (.b 0 rfl)) (.k (bxx .k (.b 1 rfl)) (.k (alc .k zP) .n))) [] [0, 1, 2] rfl rfl ?_
 refine Tr.rs [(2, 11)] (.k (faddr .k (.b 0 rfl) rfl fPX) (.k (ldc .k (.g 0 rfl) (.b 0 rfl) tyI) (.k (faddr .k (.b 1 rfl) rfl fPX) (.k (ldc .k (.g 2 rfl) (.b 1 rfl) tyI) (.k (add_ .k (.g 1 rfl) (.g 3 rfl) (Bd.wrap (Bd.add ha.x he.x) (by decide))) (.k (faddr .k (.b 0 rfl) rfl fPY) (.k (ldc .k (.g 5 rfl) (.b 0 rfl) tyI) (.k (faddr .k (.b 1 rfl) rfl fPY) (.k (ldc .k (.g 7 rfl) (.b 1 rfl) tyI) (.k (add_ .k (.g 6 rfl) (.g 8 rfl) (Bd.wrap (Bd.add ha.y he.y) (by decide))) (.k (bld .k (.k (.g 4 rfl) (.k (.g 9 rfl) .n)) (bP _ _) (aP _ _)) (.k (sto .k (.b 2 rfl) (.g 10 rfl) tyP) .n)))))))))))) [] [11] rfl rfl ?_
 refine Tr.ret (end_cell 0 rfl rfl tyP)
set_option maxRecDepth 100000 in
set_option maxHeartbeats 8000000 in
theorem fn_turned {ax ay : Int} (ha : fit ax ay) : FnC Try.prog 61 [.is (ptv ax ay)] (.is (ptv (-ay) ax)) := by
 refine FnC.of (N := 9) Try.func61 rfl rfl (Nat.le_of_ble_eq_true rfl) (fun w0 ok0 => ?_)
 refine Tr.rs [] (.k (bxx .k (.b 0 rfl)) (.k (alc .k zP) .n)) [] [0, 1] rfl rfl ?_
 refine Tr.rs [(1, 6)] (.k (faddr .k (.b 0 rfl) rfl fPY) (.k (ldc .k (.g 0 rfl) (.b 0 rfl) tyI) (.k (min_ .k (.g 1 rfl) (show IntKind.i64.wrap (0 - ay) = -ay by rw [Int.zero_sub]; exact Bd.wrap (Bd.neg ha.y) (by decide))) (.k (faddr .k (.b 0 rfl) rfl fPX) (.k (ldc .k (.g 3 rfl) (.b 0 rfl) tyI) (.k (bld .k (.k (.g 2 rfl) (.k (.g 4 rfl) .n)) (bP _ _) (aP _ _)) (.k (sto .k (.b 1 rfl) (.g 5 rfl) tyP) .n))))))) [] [6] rfl rfl ?_
 refine Tr.ret (end_cell 0 rfl rfl tyP)
set_option maxRecDepth 100000 in
set_option maxHeartbeats 8000000 in
theorem fn_mirrored {ax ay : Int} (ha : fit ax ay) : FnC Try.prog 62 [.is (ptv ax ay)] (.is (ptv (-ax) ay)) := by
 refine FnC.of (N := 9) Try.func62 rfl rfl (Nat.le_of_ble_eq_true rfl) (fun w0 ok0 => ?_)
 refine Tr.rs [] (.k (bxx .k (.b 0 rfl)) (.k (alc .k zP) .n)) [] [0, 1] rfl rfl ?_
 refine Tr.rs [(1, 6)] (.k (faddr .k (.b 0 rfl) rfl fPX) (.k (ldc .k (.g 0 rfl) (.b 0 rfl) tyI) (.k (min_ .k (.g 1 rfl) (show IntKind.i64.wrap (0 - ax) = -ax by rw [Int.zero_sub]; exact Bd.wrap (Bd.neg ha.x) (by decide))) (.k (faddr .k (.b 0 rfl) rfl fPY) (.k (ldc .k (.g 3 rfl) (.b 0 rfl) tyI) (.k (bld .k (.k (.g 2 rfl) (.k (.g 4 rfl) .n)) (bP _ _) (aP _ _)) (.k (sto .k (.b 1 rfl) (.g 5 rfl) tyP) .n))))))) [] [6] rfl rfl ?_
 refine Tr.ret (end_cell 0 rfl rfl tyP)
set_option maxRecDepth 100000 in
set_option maxHeartbeats 8000000 in
theorem law_PredMoved {ax ay bx b_y cx cy dx dy x y : Int} : FnC Try.prog 16 [.is (ptv ax ay), .is (ptv bx b_y), .is (ptv cx cy), .is (ptv dx dy), .is (ptv x y)] (bv true) := by
 refine FnC.of (N := 234) Try.func16 rfl rfl (Nat.le_of_ble_eq_true rfl) (fun w0 ok0 => ?_)
 refine Tr.rs [] (.k (bxx .k (.b 0 rfl)) (.k (bxx .k (.b 1 rfl)) (.k (bxx .k (.b 2 rfl)) (.k (bxx .k (.b 3 rfl)) (.k (bxx .k (.b 4 rfl)) (.k (asg .k .c) .n)))))) [] [0, 1, 2, 3, 4] rfl rfl ?_
 rcases six (fit ax ay) (fit bx b_y) (fit cx cy) (fit dx dy) (fit x y) with ha | ⟨ha, hb⟩ | ⟨ha, hb, hc⟩ | ⟨ha, hb, hc, hd⟩ | ⟨ha, hb, hc, hd, he⟩ | ⟨ha, hb, hc, hd, he⟩
 ·
  have hF : [(ax, ay), (bx, b_y), (cx, cy), (dx, dy)].all fitP = false := all_not (k := 0) rfl ha
  refine Tr.seq (Tr.rs [] (.k (ld .k (.b 0 rfl) tyP) (.k (ld .k (.b 1 rfl) tyP) (.k (ld .k (.b 2 rfl) tyP) (.k (ld .k (.b 3 rfl) tyP) (.k (mkrow .k rwP (.k (.g 0 rfl) (.k (.g 1 rfl) (.k (.g 2 rfl) (.k (.g 3 rfl) .n)))) rfl rfl (by kernel_rfl)) (.k (cal .k Try.func58 rfl (hF ▸ fn_Fits [(_, _), (_, _), (_, _), (_, _)] (by simp)) (.k (.g 4 rfl) .n)) (.k (not_ .k (.g 5 rfl)) (.k (mv .k (.g 6 rfl)) (.k (skp (.on (.g 7 rfl) rfl rfl)) (.k (skp (.on (.g 7 rfl) rfl rfl)) (.k (skp (.on (.g 7 rfl) rfl rfl)) (.k (skp (.on (.g 7 rfl) rfl rfl)) (.k (pickT .k (.g 7 rfl) .c) .n))))))))))))) [0, 1, 2, 3, 4] [12] rfl rfl ?_)
  refine Tr.cond 5 rfl (fun _ => ?_) nofun
  refine Tr.rs [] (.k (ld .k (.b 0 rfl) tyP) (.k (cal .k Try.func54 rfl (fn_rFitsF ha) (.k (.g 0 rfl) .n)) (.k (not_ .k (.g 1 rfl)) (.k (mv .k (.g 2 rfl)) (.k (skp (.on (.g 3 rfl) rfl rfl)) (.k (skp (.on (.g 3 rfl) rfl rfl)) (.k (skp (.on (.g 3 rfl) rfl rfl)) (.k (pickT .k (.g 3 rfl) .c) (.k (mv .k (.g 7 rfl)) (.k (skp (.on (.g 8 rfl) rfl rfl)) (.k (skp (.on (.g 8 rfl) rfl rfl)) (.k (skp (.on (.g 8 rfl) rfl rfl)) (.k (pickT .k (.g 8 rfl) .c) (.k (mv .k (.g 12 rfl)) (.k (skp (.on (.g 13 rfl) rfl rfl)) (.k (skp (.on (.g 13 rfl) rfl rfl)) (.k (skp (.on (.g 13 rfl) rfl rfl)) (.k (pickT .k (.g 13 rfl) .c) (.k (mv .k (.g 17 rfl)) (.k (skp (.on (.g 18 rfl) rfl rfl)) (.k (skp (.on (.g 18 rfl) rfl rfl)) (.k (skp (.on (.g 18 rfl) rfl rfl)) (.k (pickT .k (.g 18 rfl) .c) (.k (mv .k (.g 22 rfl)) (.k (cal (.on (.g 23 rfl) rfl rfl) Try.func46 rfl fn_known .n) (.k (pickT .k (.g 23 rfl) (.g 24 rfl)) (.k (asg .k (.g 25 rfl)) .n))))))))))))))))))))))))))) [] [26] rfl rfl ?_
  refine Tr.ret (end_tmp 0 rfl rfl)
 ·
  have hF : [(ax, ay), (bx, b_y), (cx, cy), (dx, dy)].all fitP = false := all_not (k := 1) rfl hb
  refine Tr.seq (Tr.rs [] (.k (ld .k (.b 0 rfl) tyP) (.k (ld .k (.b 1 rfl) tyP) (.k (ld .k (.b 2 rfl) tyP) (.k (ld .k (.b 3 rfl) tyP) (.k (mkrow .k rwP (.k (.g 0 rfl) (.k (.g 1 rfl) (.k (.g 2 rfl) (.k (.g 3 rfl) .n)))) rfl rfl (by kernel_rfl)) (.k (cal .k Try.func58 rfl (hF ▸ fn_Fits [(_, _), (_, _), (_, _), (_, _)] (by simp)) (.k (.g 4 rfl) .n)) (.k (not_ .k (.g 5 rfl)) (.k (mv .k (.g 6 rfl)) (.k (skp (.on (.g 7 rfl) rfl rfl)) (.k (skp (.on (.g 7 rfl) rfl rfl)) (.k (skp (.on (.g 7 rfl) rfl rfl)) (.k (skp (.on (.g 7 rfl) rfl rfl)) (.k (pickT .k (.g 7 rfl) .c) .n))))))))))))) [0, 1, 2, 3, 4] [12] rfl rfl ?_)
  refine Tr.cond 5 rfl (fun _ => ?_) nofun
  refine Tr.rs [] (.k (ld .k (.b 0 rfl) tyP) (.k (cal .k Try.func54 rfl (fn_rFitsT ha) (.k (.g 0 rfl) .n)) (.k (not_ .k (.g 1 rfl)) (.k (mv .k (.g 2 rfl)) (.k (ld (.on (.g 3 rfl) rfl rfl) (.b 1 rfl) tyP) (.k (cal (.on (.g 3 rfl) rfl rfl) Try.func54 rfl (fn_rFitsF hb) (.k (.g 4 rfl) .n)) (.k (not_ (.on (.g 3 rfl) rfl rfl) (.g 5 rfl)) (.k (pickF .k (.g 3 rfl) (.g 6 rfl)) (.k (mv .k (.g 7 rfl)) (.k (skp (.on (.g 8 rfl) rfl rfl)) (.k (skp (.on (.g 8 rfl) rfl rfl)) (.k (skp (.on (.g 8 rfl) rfl rfl)) (.k (pickT .k (.g 8 rfl) .c) (.k (mv .k (.g 12 rfl)) (.k (skp (.on (.g 13 rfl) rfl rfl)) (.k (skp (.on (.g 13 rfl) rfl rfl)) (.k (skp (.on (.g 13 rfl) rfl rfl)) (.k (pickT .k (.g 13 rfl) .c) (.k (mv .k (.g 17 rfl)) (.k (skp (.on (.g 18 rfl) rfl rfl)) (.k (skp (.on (.g 18 rfl) rfl rfl)) (.k (skp (.on (.g 18 rfl) rfl rfl)) (.k (pickT .k (.g 18 rfl) .c) (.k (mv .k (.g 22 rfl)) (.k (cal (.on (.g 23 rfl) rfl rfl) Try.func46 rfl fn_known .n) (.k (pickT .k (.g 23 rfl) (.g 24 rfl)) (.k (asg .k (.g 25 rfl)) .n))))))))))))))))))))))))))) [] [26] rfl rfl ?_
  refine Tr.ret (end_tmp 0 rfl rfl)
 ·
  have hF : [(ax, ay), (bx, b_y), (cx, cy), (dx, dy)].all fitP = false := all_not (k := 2) rfl hc
  refine Tr.seq (Tr.rs [] (.k (ld .k (.b 0 rfl) tyP) (.k (ld .k (.b 1 rfl) tyP) (.k (ld .k (.b 2 rfl) tyP) (.k (ld .k (.b 3 rfl) tyP) (.k (mkrow .k rwP (.k (.g 0 rfl) (.k (.g 1 rfl) (.k (.g 2 rfl) (.k (.g 3 rfl) .n)))) rfl rfl (by kernel_rfl)) (.k (cal .k Try.func58 rfl (hF ▸ fn_Fits [(_, _), (_, _), (_, _), (_, _)] (by simp)) (.k (.g 4 rfl) .n)) (.k (not_ .k (.g 5 rfl)) (.k (mv .k (.g 6 rfl)) (.k (skp (.on (.g 7 rfl) rfl rfl)) (.k (skp (.on (.g 7 rfl) rfl rfl)) (.k (skp (.on (.g 7 rfl) rfl rfl)) (.k (skp (.on (.g 7 rfl) rfl rfl)) (.k (pickT .k (.g 7 rfl) .c) .n))))))))))))) [0, 1, 2, 3, 4] [12] rfl rfl ?_)
  refine Tr.cond 5 rfl (fun _ => ?_) nofun
  refine Tr.rs [] (.k (ld .k (.b 0 rfl) tyP) (.k (cal .k Try.func54 rfl (fn_rFitsT ha) (.k (.g 0 rfl) .n)) (.k (not_ .k (.g 1 rfl)) (.k (mv .k (.g 2 rfl)) (.k (ld (.on (.g 3 rfl) rfl rfl) (.b 1 rfl) tyP) (.k (cal (.on (.g 3 rfl) rfl rfl) Try.func54 rfl (fn_rFitsT hb) (.k (.g 4 rfl) .n)) (.k (not_ (.on (.g 3 rfl) rfl rfl) (.g 5 rfl)) (.k (pickF .k (.g 3 rfl) (.g 6 rfl)) (.k (mv .k (.g 7 rfl)) (.k (ld (.on (.g 8 rfl) rfl rfl) (.b 2 rfl) tyP) (.k (cal (.on (.g 8 rfl) rfl rfl) Try.func54 rfl (fn_rFitsF hc) (.k (.g 9 rfl) .n)) (.k (not_ (.on (.g 8 rfl) rfl rfl) (.g 10 rfl)) (.k (pickF .k (.g 8 rfl) (.g 11 rfl)) (.k (mv .k (.g 12 rfl)) (.k (skp (.on (.g 13 rfl) rfl rfl)) (.k (skp (.on (.g 13 rfl) rfl rfl)) (.k (skp (.on (.g 13 rfl) rfl rfl)) (.k (pickT .k (.g 13 rfl) .c) (.k (mv .k (.g 17 rfl)) (.k (skp (.on (.g 18 rfl) rfl rfl)) (.k (skp (.on (.g 18 rfl) rfl rfl)) (.k (skp (.on (.g 18 rfl) rfl rfl)) (.k (pickT .k (.g 18 rfl) .c) (.k (mv .k (.g 22 rfl)) (.k (cal (.on (.g 23 rfl) rfl rfl) Try.func46 rfl fn_known .n) (.k (pickT .k (.g 23 rfl) (.g 24 rfl)) (.k (asg .k (.g 25 rfl)) .n))))))))))))))))))))))))))) [] [26] rfl rfl ?_
  refine Tr.ret (end_tmp 0 rfl rfl)
 ·
  have hF : [(ax, ay), (bx, b_y), (cx, cy), (dx, dy)].all fitP = false := all_not (k := 3) rfl hd
  refine Tr.seq (Tr.rs [] (.k (ld .k (.b 0 rfl) tyP) (.k (ld .k (.b 1 rfl) tyP) (.k (ld .k (.b 2 rfl) tyP) (.k (ld .k (.b 3 rfl) tyP) (.k (mkrow .k rwP (.k (.g 0 rfl) (.k (.g 1 rfl) (.k (.g 2 rfl) (.k (.g 3 rfl) .n)))) rfl rfl (by kernel_rfl)) (.k (cal .k Try.func58 rfl (hF ▸ fn_Fits [(_, _), (_, _), (_, _), (_, _)] (by simp)) (.k (.g 4 rfl) .n)) (.k (not_ .k (.g 5 rfl)) (.k (mv .k (.g 6 rfl)) (.k (skp (.on (.g 7 rfl) rfl rfl)) (.k (skp (.on (.g 7 rfl) rfl rfl)) (.k (skp (.on (.g 7 rfl) rfl rfl)) (.k (skp (.on (.g 7 rfl) rfl rfl)) (.k (pickT .k (.g 7 rfl) .c) .n))))))))))))) [0, 1, 2, 3, 4] [12] rfl rfl ?_)
  refine Tr.cond 5 rfl (fun _ => ?_) nofun
  refine Tr.rs [] (.k (ld .k (.b 0 rfl) tyP) (.k (cal .k Try.func54 rfl (fn_rFitsT ha) (.k (.g 0 rfl) .n)) (.k (not_ .k (.g 1 rfl)) (.k (mv .k (.g 2 rfl)) (.k (ld (.on (.g 3 rfl) rfl rfl) (.b 1 rfl) tyP) (.k (cal (.on (.g 3 rfl) rfl rfl) Try.func54 rfl (fn_rFitsT hb) (.k (.g 4 rfl) .n)) (.k (not_ (.on (.g 3 rfl) rfl rfl) (.g 5 rfl)) (.k (pickF .k (.g 3 rfl) (.g 6 rfl)) (.k (mv .k (.g 7 rfl)) (.k (ld (.on (.g 8 rfl) rfl rfl) (.b 2 rfl) tyP) (.k (cal (.on (.g 8 rfl) rfl rfl) Try.func54 rfl (fn_rFitsT hc) (.k (.g 9 rfl) .n)) (.k (not_ (.on (.g 8 rfl) rfl rfl) (.g 10 rfl)) (.k (pickF .k (.g 8 rfl) (.g 11 rfl)) (.k (mv .k (.g 12 rfl)) (.k (ld (.on (.g 13 rfl) rfl rfl) (.b 3 rfl) tyP) (.k (cal (.on (.g 13 rfl) rfl rfl) Try.func54 rfl (fn_rFitsF hd) (.k (.g 14 rfl) .n)) (.k (not_ (.on (.g 13 rfl) rfl rfl) (.g 15 rfl)) (.k (pickF .k (.g 13 rfl) (.g 16 rfl)) (.k (mv .k (.g 17 rfl)) (.k (skp (.on (.g 18 rfl) rfl rfl)) (.k (skp (.on (.g 18 rfl) rfl rfl)) (.k (skp (.on (.g 18 rfl) rfl rfl)) (.k (pickT .k (.g 18 rfl) .c) (.k (mv .k (.g 22 rfl)) (.k (cal (.on (.g 23 rfl) rfl rfl) Try.func46 rfl fn_known .n) (.k (pickT .k (.g 23 rfl) (.g 24 rfl)) (.k (asg .k (.g 25 rfl)) .n))))))))))))))))))))))))))) [] [26] rfl rfl ?_
  refine Tr.ret (end_tmp 0 rfl rfl)
 ·
  have hF := all_four ha hb hc hd
  have hG := fit1n he
  refine Tr.seq (Tr.rs [] (.k (ld .k (.b 0 rfl) tyP) (.k (ld .k (.b 1 rfl) tyP) (.k (ld .k (.b 2 rfl) tyP) (.k (ld .k (.b 3 rfl) tyP) (.k (mkrow .k rwP (.k (.g 0 rfl) (.k (.g 1 rfl) (.k (.g 2 rfl) (.k (.g 3 rfl) .n)))) rfl rfl (by kernel_rfl)) (.k (cal .k Try.func58 rfl (hF ▸ fn_Fits [(_, _), (_, _), (_, _), (_, _)] (by simp)) (.k (.g 4 rfl) .n)) (.k (not_ .k (.g 5 rfl)) (.k (mv .k (.g 6 rfl)) (.k (ld (.on (.g 7 rfl) rfl rfl) (.b 4 rfl) tyP) (.k (mkrow (.on (.g 7 rfl) rfl rfl) rwP (.k (.g 8 rfl) .n) rfl rfl (by kernel_rfl)) (.k (cal (.on (.g 7 rfl) rfl rfl) Try.func58 rfl (hG ▸ fn_Fits [(_, _)] (by simp)) (.k (.g 9 rfl) .n)) (.k (not_ (.on (.g 7 rfl) rfl rfl) (.g 10 rfl)) (.k (pickF .k (.g 7 rfl) (.g 11 rfl)) .n))))))))))))) [0, 1, 2, 3, 4] [12] rfl rfl ?_)
  refine Tr.cond 5 rfl (fun _ => ?_) nofun
  refine Tr.rs [] (.k (ld .k (.b 0 rfl) tyP) (.k (cal .k Try.func54 rfl (fn_rFitsT ha) (.k (.g 0 rfl) .n)) (.k (not_ .k (.g 1 rfl)) (.k (mv .k (.g 2 rfl)) (.k (ld (.on (.g 3 rfl) rfl rfl) (.b 1 rfl) tyP) (.k (cal (.on (.g 3 rfl) rfl rfl) Try.func54 rfl (fn_rFitsT hb) (.k (.g 4 rfl) .n)) (.k (not_ (.on (.g 3 rfl) rfl rfl) (.g 5 rfl)) (.k (pickF .k (.g 3 rfl) (.g 6 rfl)) (.k (mv .k (.g 7 rfl)) (.k (ld (.on (.g 8 rfl) rfl rfl) (.b 2 rfl) tyP) (.k (cal (.on (.g 8 rfl) rfl rfl) Try.func54 rfl (fn_rFitsT hc) (.k (.g 9 rfl) .n)) (.k (not_ (.on (.g 8 rfl) rfl rfl) (.g 10 rfl)) (.k (pickF .k (.g 8 rfl) (.g 11 rfl)) (.k (mv .k (.g 12 rfl)) (.k (ld (.on (.g 13 rfl) rfl rfl) (.b 3 rfl) tyP) (.k (cal (.on (.g 13 rfl) rfl rfl) Try.func54 rfl (fn_rFitsT hd) (.k (.g 14 rfl) .n)) (.k (not_ (.on (.g 13 rfl) rfl rfl) (.g 15 rfl)) (.k (pickF .k (.g 13 rfl) (.g 16 rfl)) (.k (mv .k (.g 17 rfl)) (.k (ld (.on (.g 18 rfl) rfl rfl) (.b 4 rfl) tyP) (.k (cal (.on (.g 18 rfl) rfl rfl) Try.func54 rfl (fn_rFitsF he) (.k (.g 19 rfl) .n)) (.k (not_ (.on (.g 18 rfl) rfl rfl) (.g 20 rfl)) (.k (pickF .k (.g 18 rfl) (.g 21 rfl)) (.k (mv .k (.g 22 rfl)) (.k (cal (.on (.g 23 rfl) rfl rfl) Try.func46 rfl fn_known .n) (.k (pickT .k (.g 23 rfl) (.g 24 rfl)) (.k (asg .k (.g 25 rfl)) .n))))))))))))))))))))))))))) [] [26] rfl rfl ?_
  refine Tr.ret (end_tmp 0 rfl rfl)
 ·
  have hF := all_four ha hb hc hd
  have hG := fit1 he
  refine Tr.seq (Tr.rs [] (.k (ld .k (.b 0 rfl) tyP) (.k (ld .k (.b 1 rfl) tyP) (.k (ld .k (.b 2 rfl) tyP) (.k (ld .k (.b 3 rfl) tyP) (.k (mkrow .k rwP (.k (.g 0 rfl) (.k (.g 1 rfl) (.k (.g 2 rfl) (.k (.g 3 rfl) .n)))) rfl rfl (by kernel_rfl)) (.k (cal .k Try.func58 rfl (hF ▸ fn_Fits [(_, _), (_, _), (_, _), (_, _)] (by simp)) (.k (.g 4 rfl) .n)) (.k (not_ .k (.g 5 rfl)) (.k (mv .k (.g 6 rfl)) (.k (ld (.on (.g 7 rfl) rfl rfl) (.b 4 rfl) tyP) (.k (mkrow (.on (.g 7 rfl) rfl rfl) rwP (.k (.g 8 rfl) .n) rfl rfl (by kernel_rfl)) (.k (cal (.on (.g 7 rfl) rfl rfl) Try.func58 rfl (hG ▸ fn_Fits [(_, _)] (by simp)) (.k (.g 9 rfl) .n)) (.k (not_ (.on (.g 7 rfl) rfl rfl) (.g 10 rfl)) (.k (pickF .k (.g 7 rfl) (.g 11 rfl)) .n))))))))))))) [0, 1, 2, 3, 4] [12] rfl rfl ?_)
  refine Tr.cond 5 rfl nofun (fun _ => ?_)
  refine Tr.skip (Nx.go (Tr.rs [] (.k (ld .k (.b 0 rfl) tyP) (.k (ld .k (.b 4 rfl) tyP) (.k (cal .k Try.func59 rfl (fn_moved ha he) (.k (.g 0 rfl) (.k (.g 1 rfl) .n))) (.k (ala .k zP) (.k (sta .k (.g 3 rfl) (.g 2 rfl) tyP) .n))))) [0, 1, 2, 3, 4] [4] rfl rfl ?_))
  refine Tr.rs [] (.k (ld .k (.b 1 rfl) tyP) (.k (ld .k (.b 4 rfl) tyP) (.k (cal .k Try.func59 rfl (fn_moved hb he) (.k (.g 0 rfl) (.k (.g 1 rfl) .n))) (.k (ala .k zP) (.k (sta .k (.g 3 rfl) (.g 2 rfl) tyP) .n))))) [0, 1, 2, 3, 4, 5] [4] rfl rfl ?_
  refine Tr.rs [] (.k (ld .k (.b 2 rfl) tyP) (.k (ld .k (.b 4 rfl) tyP) (.k (cal .k Try.func59 rfl (fn_moved hc he) (.k (.g 0 rfl) (.k (.g 1 rfl) .n))) (.k (ala .k zP) (.k (sta .k (.g 3 rfl) (.g 2 rfl) tyP) .n))))) [0, 1, 2, 3, 4, 5, 6] [4] rfl rfl ?_
  refine Tr.rs [] (.k (ld .k (.b 3 rfl) tyP) (.k (ld .k (.b 4 rfl) tyP) (.k (cal .k Try.func59 rfl (fn_moved hd he) (.k (.g 0 rfl) (.k (.g 1 rfl) .n))) (.k (ala .k zP) (.k (sta .k (.g 3 rfl) (.g 2 rfl) tyP) .n))))) [0, 1, 2, 3, 5, 6, 7] [4] rfl rfl ?_
  cases hF2 : [(ax + x, ay + y), (bx + x, b_y + y), (cx + x, cy + y), (dx + x, dy + y)].all fitP
  ·
   refine Tr.cut [.b 5 (.is (ptv ax ay)) 65 2, .b 6 (.is (ptv bx b_y)) 65 2, .b 7 (.is (ptv cx cy)) 65 2, .b 8 (.is (ptv dx dy)) 65 2] ?_ ?_
   ·
    refine Tr.ds hmx [] (.k (ld .k (.b 4 rfl) tyP) (.k (ld .k (.b 5 rfl) tyP) (.k (ld .k (.b 6 rfl) tyP) (.k (ld .k (.b 7 rfl) tyP) (.k (mkrow .k rwP (.k (.g 0 rfl) (.k (.g 1 rfl) (.k (.g 2 rfl) (.k (.g 3 rfl) .n)))) rfl rfl (by kernel_rfl)) (.k (cal .k Try.func58 rfl (hF2 ▸ fn_Fits [(_, _), (_, _), (_, _), (_, _)] (by simp)) (.k (.g 4 rfl) .n)) (.k (mv .k (.g 5 rfl)) (.k (skp (.on (.g 6 rfl) rfl rfl)) (.k (skp (.on (.g 6 rfl) rfl rfl)) (.k (skp (.on (.g 6 rfl) rfl rfl)) (.k (skp (.on (.g 6 rfl) rfl rfl)) (.k (skp (.on (.g 6 rfl) rfl rfl)) (.k (skp (.on (.g 6 rfl) rfl rfl)) (.k (skp (.on (.g 6 rfl) rfl rfl)) (.k (skp (.on (.g 6 rfl) rfl rfl)) (.k (skp (.on (.g 6 rfl) rfl rfl)) (.k (skpu (.on (.g 6 rfl) rfl rfl)) (.k (skpn (.g 16 rfl) rfl) (.k (skpn (.g 16 rfl) rfl) (.k (skpn (.g 16 rfl) rfl) (.k (skpn (.g 16 rfl) rfl) (.k (skpn (.g 16 rfl) rfl) (.k (skpn (.g 16 rfl) rfl) (.k (skpn (.g 16 rfl) rfl) (.k (skpn (.g 16 rfl) rfl) (.k (skpn (.g 16 rfl) rfl) (.k (skpn (.g 16 rfl) rfl) (.k (skpn (.g 16 rfl) rfl) (.k (skp (.on (.g 6 rfl) rfl rfl)) (.k (skpu (.on (.g 6 rfl) rfl rfl)) (.k (skpn (.g 29 rfl) rfl) (.k (skpn (.g 29 rfl) rfl) (.k (skpn (.g 29 rfl) rfl) (.k (skpn (.g 29 rfl) rfl) (.k (skpn (.g 29 rfl) rfl) (.k (skpn (.g 29 rfl) rfl) (.k (skpn (.g 29 rfl) rfl) (.k (skpn (.g 29 rfl) rfl) (.k (skpn (.g 29 rfl) rfl) (.k (skp (.on (.g 6 rfl) rfl rfl)) (.k (skpu (.on (.g 6 rfl) rfl rfl)) (.k (skpn (.g 40 rfl) rfl) (.k (skpn (.g 40 rfl) rfl) (.k (skpn (.g 40 rfl) rfl) (.k (skpn (.g 40 rfl) rfl) (.k (skpn (.g 40 rfl) rfl) (.k (skpn (.g 40 rfl) rfl) (.k (skpn (.g 40 rfl) rfl) (.k (skpn (.g 40 rfl) rfl) (.k (skpn (.g 40 rfl) rfl) (.k (skp (.on (.g 6 rfl) rfl rfl)) (.k (pickF .k (.g 6 rfl) .c) .n)))))))))))))))))))))))))))))))))))))))))))))))))))) [0, 1, 2, 3] [51] rfl rfl ?_
    refine Tr.cond 4 rfl nofun (fun _ => ?_)
    refine Tr.skip (Nx.met _ (Sub.all (.cons 0 rfl (.cons 1 rfl (.cons 2 rfl (.cons 3 rfl .nil))))))
   ·
    refine Tr.rs [] (.k (ld .k (.b 0 rfl) tyP) (.k (cal .k Try.func61 rfl (fn_turned ha) (.k (.g 0 rfl) .n)) (.k (ala .k zP) (.k (sta .k (.g 2 rfl) (.g 1 rfl) tyP) .n)))) [0, 1, 2, 3] [3] rfl rfl ?_
    refine Tr.rs [] (.k (ld .k (.b 1 rfl) tyP) (.k (cal .k Try.func61 rfl (fn_turned hb) (.k (.g 0 rfl) .n)) (.k (ala .k zP) (.k (sta .k (.g 2 rfl) (.g 1 rfl) tyP) .n)))) [0, 1, 2, 3, 4] [3] rfl rfl ?_
    refine Tr.rs [] (.k (ld .k (.b 2 rfl) tyP) (.k (cal .k Try.func61 rfl (fn_turned hc) (.k (.g 0 rfl) .n)) (.k (ala .k zP) (.k (sta .k (.g 2 rfl) (.g 1 rfl) tyP) .n)))) [0, 1, 2, 3, 4, 5] [3] rfl rfl ?_
    refine Tr.rs [] (.k (ld .k (.b 3 rfl) tyP) (.k (cal .k Try.func61 rfl (fn_turned hd) (.k (.g 0 rfl) .n)) (.k (ala .k zP) (.k (sta .k (.g 2 rfl) (.g 1 rfl) tyP) .n)))) [0, 1, 2, 3, 4, 5, 6] [3] rfl rfl ?_
    refine Tr.seq (Tr.ds hmx [] (.k (ld .k (.b 4 rfl) tyP) (.k (ld .k (.b 5 rfl) tyP) (.k (ld .k (.b 6 rfl) tyP) (.k (cal .k Try.func44 rfl fn_Orient (.k (.g 0 rfl) (.k (.g 1 rfl) (.k (.g 2 rfl) .n)))) (.k (ld .k (.b 0 rfl) tyP) (.k (ld .k (.b 1 rfl) tyP) (.k (ld .k (.b 2 rfl) tyP) (.k (cal .k Try.func44 rfl fn_Orient (.k (.g 4 rfl) (.k (.g 5 rfl) (.k (.g 6 rfl) .n)))) (.k (ne_ .k (.g 3 rfl) (.g 7 rfl) (show (_ != _) = false from bne_eq_false_iff_eq.2 (ori_tu ha hb hc))) (.k (mv .k (.g 8 rfl)) (.k (ld (.on (.g 9 rfl) rfl rfl) (.b 4 rfl) tyP) (.k (ld (.on (.g 9 rfl) rfl rfl) (.b 5 rfl) tyP) (.k (ld (.on (.g 9 rfl) rfl rfl) (.b 6 rfl) tyP) (.k (ld (.on (.g 9 rfl) rfl rfl) (.b 7 rfl) tyP) (.k (cal (.on (.g 9 rfl) rfl rfl) Try.func47 rfl fn_InCircle (.k (.g 10 rfl) (.k (.g 11 rfl) (.k (.g 12 rfl) (.k (.g 13 rfl) .n))))) (.k (ld (.on (.g 9 rfl) rfl rfl) (.b 0 rfl) tyP) (.k (ld (.on (.g 9 rfl) rfl rfl) (.b 1 rfl) tyP) (.k (ld (.on (.g 9 rfl) rfl rfl) (.b 2 rfl) tyP) (.k (ld (.on (.g 9 rfl) rfl rfl) (.b 3 rfl) tyP) (.k (cal (.on (.g 9 rfl) rfl rfl) Try.func47 rfl fn_InCircle (.k (.g 15 rfl) (.k (.g 16 rfl) (.k (.g 17 rfl) (.k (.g 18 rfl) .n))))) (.k (ne_ (.on (.g 9 rfl) rfl rfl) (.g 14 rfl) (.g 19 rfl) (show (_ != _) = false from bne_eq_false_iff_eq.2 (inc_tu ha hb hc hd))) (.k (pickF .k (.g 9 rfl) (.g 20 rfl)) (.k (mv .k (.g 21 rfl)) (.k (ld (.on (.g 22 rfl) rfl rfl) (.b 4 rfl) tyP) (.k (ld (.on (.g 22 rfl) rfl rfl) (.b 5 rfl) tyP) (.k (ld (.on (.g 22 rfl) rfl rfl) (.b 6 rfl) tyP) (.k (cal (.on (.g 22 rfl) rfl rfl) Try.func49 rfl fn_InDisc (.k (.g 23 rfl) (.k (.g 24 rfl) (.k (.g 25 rfl) .n)))) (.k (ld (.on (.g 22 rfl) rfl rfl) (.b 0 rfl) tyP) (.k (ld (.on (.g 22 rfl) rfl rfl) (.b 1 rfl) tyP) (.k (ld (.on (.g 22 rfl) rfl rfl) (.b 2 rfl) tyP) (.k (cal (.on (.g 22 rfl) rfl rfl) Try.func49 rfl fn_InDisc (.k (.g 27 rfl) (.k (.g 28 rfl) (.k (.g 29 rfl) .n)))) (.k (neB_ (.on (.g 22 rfl) rfl rfl) Try.underlying4 (.g 26 rfl) (.g 30 rfl) (show (_ != _) = false from bne_eq_false_iff_eq.2 (dis_tu ha hb hc))) (.k (pickF .k (.g 22 rfl) (.g 31 rfl)) (.k (mv .k (.g 32 rfl)) (.k (ld (.on (.g 33 rfl) rfl rfl) (.b 4 rfl) tyP) (.k (ld (.on (.g 33 rfl) rfl rfl) (.b 5 rfl) tyP) (.k (ld (.on (.g 33 rfl) rfl rfl) (.b 6 rfl) tyP) (.k (cal (.on (.g 33 rfl) rfl rfl) Try.func60 rfl fn_Skinny (.k (.g 34 rfl) (.k (.g 35 rfl) (.k (.g 36 rfl) .n)))) (.k (ld (.on (.g 33 rfl) rfl rfl) (.b 0 rfl) tyP) (.k (ld (.on (.g 33 rfl) rfl rfl) (.b 1 rfl) tyP) (.k (ld (.on (.g 33 rfl) rfl rfl) (.b 2 rfl) tyP) (.k (cal (.on (.g 33 rfl) rfl rfl) Try.func60 rfl fn_Skinny (.k (.g 38 rfl) (.k (.g 39 rfl) (.k (.g 40 rfl) .n)))) (.k (neB_ (.on (.g 33 rfl) rfl rfl) Try.underlying4 (.g 37 rfl) (.g 41 rfl) (show (_ != _) = false from bne_eq_false_iff_eq.2 (sk_tu ha hb hc))) (.k (pickF .k (.g 33 rfl) (.g 42 rfl)) .n)))))))))))))))))))))))))))))))))))))))))))) [0, 1, 2, 3] [43] rfl rfl ?_)
    refine Tr.cond 4 rfl nofun (fun _ => ?_)
    refine Tr.skip (Nx.go (Tr.rs [] (.k (ld .k (.b 0 rfl) tyP) (.k (cal .k Try.func62 rfl (fn_mirrored ha) (.k (.g 0 rfl) .n)) (.k (ala .k zP) (.k (sta .k (.g 2 rfl) (.g 1 rfl) tyP) .n)))) [0, 1, 2, 3] [3] rfl rfl ?_))
    refine Tr.rs [] (.k (ld .k (.b 1 rfl) tyP) (.k (cal .k Try.func62 rfl (fn_mirrored hb) (.k (.g 0 rfl) .n)) (.k (ala .k zP) (.k (sta .k (.g 2 rfl) (.g 1 rfl) tyP) .n)))) [0, 1, 2, 3, 4] [3] rfl rfl ?_
    refine Tr.rs [] (.k (ld .k (.b 2 rfl) tyP) (.k (cal .k Try.func62 rfl (fn_mirrored hc) (.k (.g 0 rfl) .n)) (.k (ala .k zP) (.k (sta .k (.g 2 rfl) (.g 1 rfl) tyP) .n)))) [0, 1, 2, 3, 4, 5] [3] rfl rfl ?_
    refine Tr.rs [] (.k (ld .k (.b 3 rfl) tyP) (.k (cal .k Try.func62 rfl (fn_mirrored hd) (.k (.g 0 rfl) .n)) (.k (ala .k zP) (.k (sta .k (.g 2 rfl) (.g 1 rfl) tyP) .n)))) [0, 1, 2, 3, 4, 5, 6] [3] rfl rfl ?_
    refine Tr.ds hmx [] (.k (ld .k (.b 4 rfl) tyP) (.k (ld .k (.b 5 rfl) tyP) (.k (ld .k (.b 6 rfl) tyP) (.k (cal .k Try.func44 rfl fn_Orient (.k (.g 0 rfl) (.k (.g 1 rfl) (.k (.g 2 rfl) .n)))) (.k (ld .k (.b 0 rfl) tyP) (.k (ld .k (.b 1 rfl) tyP) (.k (ld .k (.b 2 rfl) tyP) (.k (cal .k Try.func44 rfl fn_Orient (.k (.g 4 rfl) (.k (.g 5 rfl) (.k (.g 6 rfl) .n)))) (.k (min_ .k (.g 7 rfl) (ori_wrap ..)) (.k (eq_ .k (.g 3 rfl) (.g 8 rfl) (show (_ == _) = true from (beq_iff_eq.2 (ori_mi ha hb hc)))) (.k (mv .k (.g 9 rfl)) (.k (ld (.on (.g 10 rfl) rfl rfl) (.b 4 rfl) tyP) (.k (ld (.on (.g 10 rfl) rfl rfl) (.b 5 rfl) tyP) (.k (ld (.on (.g 10 rfl) rfl rfl) (.b 6 rfl) tyP) (.k (ld (.on (.g 10 rfl) rfl rfl) (.b 7 rfl) tyP) (.k (cal (.on (.g 10 rfl) rfl rfl) Try.func47 rfl fn_InCircle (.k (.g 11 rfl) (.k (.g 12 rfl) (.k (.g 13 rfl) (.k (.g 14 rfl) .n))))) (.k (ld (.on (.g 10 rfl) rfl rfl) (.b 0 rfl) tyP) (.k (ld (.on (.g 10 rfl) rfl rfl) (.b 1 rfl) tyP) (.k (ld (.on (.g 10 rfl) rfl rfl) (.b 2 rfl) tyP) (.k (ld (.on (.g 10 rfl) rfl rfl) (.b 3 rfl) tyP) (.k (cal (.on (.g 10 rfl) rfl rfl) Try.func47 rfl fn_InCircle (.k (.g 16 rfl) (.k (.g 17 rfl) (.k (.g 18 rfl) (.k (.g 19 rfl) .n))))) (.k (eq_ (.on (.g 10 rfl) rfl rfl) (.g 15 rfl) (.g 20 rfl) (show (_ == _) = true from (beq_iff_eq.2 (inc_mi ha hb hc hd)))) (.k (pickT .k (.g 10 rfl) (.g 21 rfl)) (.k (mv .k (.g 22 rfl)) (.k (ld (.on (.g 23 rfl) rfl rfl) (.b 4 rfl) tyP) (.k (ld (.on (.g 23 rfl) rfl rfl) (.b 5 rfl) tyP) (.k (ld (.on (.g 23 rfl) rfl rfl) (.b 6 rfl) tyP) (.k (cal (.on (.g 23 rfl) rfl rfl) Try.func49 rfl fn_InDisc (.k (.g 24 rfl) (.k (.g 25 rfl) (.k (.g 26 rfl) .n)))) (.k (ld (.on (.g 23 rfl) rfl rfl) (.b 0 rfl) tyP) (.k (ld (.on (.g 23 rfl) rfl rfl) (.b 1 rfl) tyP) (.k (ld (.on (.g 23 rfl) rfl rfl) (.b 2 rfl) tyP) (.k (cal (.on (.g 23 rfl) rfl rfl) Try.func49 rfl fn_InDisc (.k (.g 28 rfl) (.k (.g 29 rfl) (.k (.g 30 rfl) .n)))) (.k (eqB_ (.on (.g 23 rfl) rfl rfl) Try.underlying4 (.g 27 rfl) (.g 31 rfl) (beq_iff_eq.2 (dis_mi ha hb hc))) (.k (pickT .k (.g 23 rfl) (.g 32 rfl)) (.k (mv .k (.g 33 rfl)) (.k (ld (.on (.g 34 rfl) rfl rfl) (.b 4 rfl) tyP) (.k (ld (.on (.g 34 rfl) rfl rfl) (.b 5 rfl) tyP) (.k (ld (.on (.g 34 rfl) rfl rfl) (.b 6 rfl) tyP) (.k (cal (.on (.g 34 rfl) rfl rfl) Try.func60 rfl fn_Skinny (.k (.g 35 rfl) (.k (.g 36 rfl) (.k (.g 37 rfl) .n)))) (.k (ld (.on (.g 34 rfl) rfl rfl) (.b 0 rfl) tyP) (.k (ld (.on (.g 34 rfl) rfl rfl) (.b 1 rfl) tyP) (.k (ld (.on (.g 34 rfl) rfl rfl) (.b 2 rfl) tyP) (.k (cal (.on (.g 34 rfl) rfl rfl) Try.func60 rfl fn_Skinny (.k (.g 39 rfl) (.k (.g 40 rfl) (.k (.g 41 rfl) .n)))) (.k (eqB_ (.on (.g 34 rfl) rfl rfl) Try.underlying4 (.g 38 rfl) (.g 42 rfl) (beq_iff_eq.2 (sk_mi ha hb hc))) (.k (pickT .k (.g 34 rfl) (.g 43 rfl)) (.k (mv .k (.g 44 rfl)) (.k (cal (.on (.g 45 rfl) rfl rfl) Try.func46 rfl fn_known .n) (.k (pickT .k (.g 45 rfl) (.g 46 rfl)) (.k (asg .k (.g 47 rfl)) .n))))))))))))))))))))))))))))))))))))))))))))))))) [] [48] rfl rfl ?_
    refine Tr.ret (end_tmp 0 rfl rfl)
  ·
   obtain ⟨ga, gb, gc, gd⟩ := fit4 hF2
   refine Tr.cut [.b 5 (.is (ptv ax ay)) 65 2, .b 6 (.is (ptv bx b_y)) 65 2, .b 7 (.is (ptv cx cy)) 65 2, .b 8 (.is (ptv dx dy)) 65 2] ?_ ?_
   ·
    refine Tr.ds hmx [] (.k (ld .k (.b 4 rfl) tyP) (.k (ld .k (.b 5 rfl) tyP) (.k (ld .k (.b 6 rfl) tyP) (.k (ld .k (.b 7 rfl) tyP) (.k (mkrow .k rwP (.k (.g 0 rfl) (.k (.g 1 rfl) (.k (.g 2 rfl) (.k (.g 3 rfl) .n)))) rfl rfl (by kernel_rfl)) (.k (cal .k Try.func58 rfl (hF2 ▸ fn_Fits [(_, _), (_, _), (_, _), (_, _)] (by simp)) (.k (.g 4 rfl) .n)) (.k (mv .k (.g 5 rfl)) (.k (ld (.on (.g 6 rfl) rfl rfl) (.b 4 rfl) tyP) (.k (ld (.on (.g 6 rfl) rfl rfl) (.b 5 rfl) tyP) (.k (ld (.on (.g 6 rfl) rfl rfl) (.b 6 rfl) tyP) (.k (cal (.on (.g 6 rfl) rfl rfl) Try.func44 rfl fn_Orient (.k (.g 7 rfl) (.k (.g 8 rfl) (.k (.g 9 rfl) .n)))) (.k (ld (.on (.g 6 rfl) rfl rfl) (.b 0 rfl) tyP) (.k (ld (.on (.g 6 rfl) rfl rfl) (.b 1 rfl) tyP) (.k (ld (.on (.g 6 rfl) rfl rfl) (.b 2 rfl) tyP) (.k (cal (.on (.g 6 rfl) rfl rfl) Try.func44 rfl fn_Orient (.k (.g 11 rfl) (.k (.g 12 rfl) (.k (.g 13 rfl) .n)))) (.k (ne_ (.on (.g 6 rfl) rfl rfl) (.g 10 rfl) (.g 14 rfl) (show (_ != _) = false from bne_eq_false_iff_eq.2 (ori_mv ha hb hc ga gb gc))) (.k (mv (.on (.g 6 rfl) rfl rfl) (.g 15 rfl)) (.k (ld (.on (.g 16 rfl) rfl rfl) (.b 4 rfl) tyP) (.k (ld (.on (.g 16 rfl) rfl rfl) (.b 5 rfl) tyP) (.k (ld (.on (.g 16 rfl) rfl rfl) (.b 6 rfl) tyP) (.k (ld (.on (.g 16 rfl) rfl rfl) (.b 7 rfl) tyP) (.k (cal (.on (.g 16 rfl) rfl rfl) Try.func47 rfl fn_InCircle (.k (.g 17 rfl) (.k (.g 18 rfl) (.k (.g 19 rfl) (.k (.g 20 rfl) .n))))) (.k (ld (.on (.g 16 rfl) rfl rfl) (.b 0 rfl) tyP) (.k (ld (.on (.g 16 rfl) rfl rfl) (.b 1 rfl) tyP) (.k (ld (.on (.g 16 rfl) rfl rfl) (.b 2 rfl) tyP) (.k (ld (.on (.g 16 rfl) rfl rfl) (.b 3 rfl) tyP) (.k (cal (.on (.g 16 rfl) rfl rfl) Try.func47 rfl fn_InCircle (.k (.g 22 rfl) (.k (.g 23 rfl) (.k (.g 24 rfl) (.k (.g 25 rfl) .n))))) (.k (ne_ (.on (.g 16 rfl) rfl rfl) (.g 21 rfl) (.g 26 rfl) (show (_ != _) = false from bne_eq_false_iff_eq.2 (inc_mv ha hb hc hd ga gb gc gd))) (.k (pickF (.on (.g 6 rfl) rfl rfl) (.g 16 rfl) (.g 27 rfl)) (.k (mv (.on (.g 6 rfl) rfl rfl) (.g 28 rfl)) (.k (ld (.on (.g 29 rfl) rfl rfl) (.b 4 rfl) tyP) (.k (ld (.on (.g 29 rfl) rfl rfl) (.b 5 rfl) tyP) (.k (ld (.on (.g 29 rfl) rfl rfl) (.b 6 rfl) tyP) (.k (cal (.on (.g 29 rfl) rfl rfl) Try.func49 rfl fn_InDisc (.k (.g 30 rfl) (.k (.g 31 rfl) (.k (.g 32 rfl) .n)))) (.k (ld (.on (.g 29 rfl) rfl rfl) (.b 0 rfl) tyP) (.k (ld (.on (.g 29 rfl) rfl rfl) (.b 1 rfl) tyP) (.k (ld (.on (.g 29 rfl) rfl rfl) (.b 2 rfl) tyP) (.k (cal (.on (.g 29 rfl) rfl rfl) Try.func49 rfl fn_InDisc (.k (.g 34 rfl) (.k (.g 35 rfl) (.k (.g 36 rfl) .n)))) (.k (neB_ (.on (.g 29 rfl) rfl rfl) Try.underlying4 (.g 33 rfl) (.g 37 rfl) (show (_ != _) = false from bne_eq_false_iff_eq.2 (dis_mv ha hb hc ga gb gc))) (.k (pickF (.on (.g 6 rfl) rfl rfl) (.g 29 rfl) (.g 38 rfl)) (.k (mv (.on (.g 6 rfl) rfl rfl) (.g 39 rfl)) (.k (ld (.on (.g 40 rfl) rfl rfl) (.b 4 rfl) tyP) (.k (ld (.on (.g 40 rfl) rfl rfl) (.b 5 rfl) tyP) (.k (ld (.on (.g 40 rfl) rfl rfl) (.b 6 rfl) tyP) (.k (cal (.on (.g 40 rfl) rfl rfl) Try.func60 rfl fn_Skinny (.k (.g 41 rfl) (.k (.g 42 rfl) (.k (.g 43 rfl) .n)))) (.k (ld (.on (.g 40 rfl) rfl rfl) (.b 0 rfl) tyP) (.k (ld (.on (.g 40 rfl) rfl rfl) (.b 1 rfl) tyP) (.k (ld (.on (.g 40 rfl) rfl rfl) (.b 2 rfl) tyP) (.k (cal (.on (.g 40 rfl) rfl rfl) Try.func60 rfl fn_Skinny (.k (.g 45 rfl) (.k (.g 46 rfl) (.k (.g 47 rfl) .n)))) (.k (neB_ (.on (.g 40 rfl) rfl rfl) Try.underlying4 (.g 44 rfl) (.g 48 rfl) (show (_ != _) = false from bne_eq_false_iff_eq.2 (sk_mv ha hb hc ga gb gc))) (.k (pickF (.on (.g 6 rfl) rfl rfl) (.g 40 rfl) (.g 49 rfl)) (.k (pickT .k (.g 6 rfl) (.g 50 rfl)) .n)))))))))))))))))))))))))))))))))))))))))))))))))))) [0, 1, 2, 3] [51] rfl rfl ?_
    refine Tr.cond 4 rfl nofun (fun _ => ?_)
    refine Tr.skip (Nx.met _ (Sub.all (.cons 0 rfl (.cons 1 rfl (.cons 2 rfl (.cons 3 rfl .nil))))))
   ·
    refine Tr.rs [] (.k (ld .k (.b 0 rfl) tyP) (.k (cal .k Try.func61 rfl (fn_turned ha) (.k (.g 0 rfl) .n)) (.k (ala .k zP) (.k (sta .k (.g 2 rfl) (.g 1 rfl) tyP) .n)))) [0, 1, 2, 3] [3] rfl rfl ?_
    refine Tr.rs [] (.k (ld .k (.b 1 rfl) tyP) (.k (cal .k Try.func61 rfl (fn_turned hb) (.k (.g 0 rfl) .n)) (.k (ala .k zP) (.k (sta .k (.g 2 rfl) (.g 1 rfl) tyP) .n)))) [0, 1, 2, 3, 4] [3] rfl rfl ?_
    refine Tr.rs [] (.k (ld .k (.b 2 rfl) tyP) (.k (cal .k Try.func61 rfl (fn_turned hc) (.k (.g 0 rfl) .n)) (.k (ala .k zP) (.k (sta .k (.g 2 rfl) (.g 1 rfl) tyP) .n)))) [0, 1, 2, 3, 4, 5] [3] rfl rfl ?_
    refine Tr.rs [] (.k (ld .k (.b 3 rfl) tyP) (.k (cal .k Try.func61 rfl (fn_turned hd) (.k (.g 0 rfl) .n)) (.k (ala .k zP) (.k (sta .k (.g 2 rfl) (.g 1 rfl) tyP) .n)))) [0, 1, 2, 3, 4, 5, 6] [3] rfl rfl ?_
    refine Tr.seq (Tr.ds hmx [] (.k (ld .k (.b 4 rfl) tyP) (.k (ld .k (.b 5 rfl) tyP) (.k (ld .k (.b 6 rfl) tyP) (.k (cal .k Try.func44 rfl fn_Orient (.k (.g 0 rfl) (.k (.g 1 rfl) (.k (.g 2 rfl) .n)))) (.k (ld .k (.b 0 rfl) tyP) (.k (ld .k (.b 1 rfl) tyP) (.k (ld .k (.b 2 rfl) tyP) (.k (cal .k Try.func44 rfl fn_Orient (.k (.g 4 rfl) (.k (.g 5 rfl) (.k (.g 6 rfl) .n)))) (.k (ne_ .k (.g 3 rfl) (.g 7 rfl) (show (_ != _) = false from bne_eq_false_iff_eq.2 (ori_tu ha hb hc))) (.k (mv .k (.g 8 rfl)) (.k (ld (.on (.g 9 rfl) rfl rfl) (.b 4 rfl) tyP) (.k (ld (.on (.g 9 rfl) rfl rfl) (.b 5 rfl) tyP) (.k (ld (.on (.g 9 rfl) rfl rfl) (.b 6 rfl) tyP) (.k (ld (.on (.g 9 rfl) rfl rfl) (.b 7 rfl) tyP) (.k (cal (.on (.g 9 rfl) rfl rfl) Try.func47 rfl fn_InCircle (.k (.g 10 rfl) (.k (.g 11 rfl) (.k (.g 12 rfl) (.k (.g 13 rfl) .n))))) (.k (ld (.on (.g 9 rfl) rfl rfl) (.b 0 rfl) tyP) (.k (ld (.on (.g 9 rfl) rfl rfl) (.b 1 rfl) tyP) (.k (ld (.on (.g 9 rfl) rfl rfl) (.b 2 rfl) tyP) (.k (ld (.on (.g 9 rfl) rfl rfl) (.b 3 rfl) tyP) (.k (cal (.on (.g 9 rfl) rfl rfl) Try.func47 rfl fn_InCircle (.k (.g 15 rfl) (.k (.g 16 rfl) (.k (.g 17 rfl) (.k (.g 18 rfl) .n))))) (.k (ne_ (.on (.g 9 rfl) rfl rfl) (.g 14 rfl) (.g 19 rfl) (show (_ != _) = false from bne_eq_false_iff_eq.2 (inc_tu ha hb hc hd))) (.k (pickF .k (.g 9 rfl) (.g 20 rfl)) (.k (mv .k (.g 21 rfl)) (.k (ld (.on (.g 22 rfl) rfl rfl) (.b 4 rfl) tyP) (.k (ld (.on (.g 22 rfl) rfl rfl) (.b 5 rfl) tyP) (.k (ld (.on (.g 22 rfl) rfl rfl) (.b 6 rfl) tyP) (.k (cal (.on (.g 22 rfl) rfl rfl) Try.func49 rfl fn_InDisc (.k (.g 23 rfl) (.k (.g 24 rfl) (.k (.g 25 rfl) .n)))) (.k (ld (.on (.g 22 rfl) rfl rfl) (.b 0 rfl) tyP) (.k (ld (.on (.g 22 rfl) rfl rfl) (.b 1 rfl) tyP) (.k (ld (.on (.g 22 rfl) rfl rfl) (.b 2 rfl) tyP) (.k (cal (.on (.g 22 rfl) rfl rfl) Try.func49 rfl fn_InDisc (.k (.g 27 rfl) (.k (.g 28 rfl) (.k (.g 29 rfl) .n)))) (.k (neB_ (.on (.g 22 rfl) rfl rfl) Try.underlying4 (.g 26 rfl) (.g 30 rfl) (show (_ != _) = false from bne_eq_false_iff_eq.2 (dis_tu ha hb hc))) (.k (pickF .k (.g 22 rfl) (.g 31 rfl)) (.k (mv .k (.g 32 rfl)) (.k (ld (.on (.g 33 rfl) rfl rfl) (.b 4 rfl) tyP) (.k (ld (.on (.g 33 rfl) rfl rfl) (.b 5 rfl) tyP) (.k (ld (.on (.g 33 rfl) rfl rfl) (.b 6 rfl) tyP) (.k (cal (.on (.g 33 rfl) rfl rfl) Try.func60 rfl fn_Skinny (.k (.g 34 rfl) (.k (.g 35 rfl) (.k (.g 36 rfl) .n)))) (.k (ld (.on (.g 33 rfl) rfl rfl) (.b 0 rfl) tyP) (.k (ld (.on (.g 33 rfl) rfl rfl) (.b 1 rfl) tyP) (.k (ld (.on (.g 33 rfl) rfl rfl) (.b 2 rfl) tyP) (.k (cal (.on (.g 33 rfl) rfl rfl) Try.func60 rfl fn_Skinny (.k (.g 38 rfl) (.k (.g 39 rfl) (.k (.g 40 rfl) .n)))) (.k (neB_ (.on (.g 33 rfl) rfl rfl) Try.underlying4 (.g 37 rfl) (.g 41 rfl) (show (_ != _) = false from bne_eq_false_iff_eq.2 (sk_tu ha hb hc))) (.k (pickF .k (.g 33 rfl) (.g 42 rfl)) .n)))))))))))))))))))))))))))))))))))))))))))) [0, 1, 2, 3] [43] rfl rfl ?_)
    refine Tr.cond 4 rfl nofun (fun _ => ?_)
    refine Tr.skip (Nx.go (Tr.rs [] (.k (ld .k (.b 0 rfl) tyP) (.k (cal .k Try.func62 rfl (fn_mirrored ha) (.k (.g 0 rfl) .n)) (.k (ala .k zP) (.k (sta .k (.g 2 rfl) (.g 1 rfl) tyP) .n)))) [0, 1, 2, 3] [3] rfl rfl ?_))
    refine Tr.rs [] (.k (ld .k (.b 1 rfl) tyP) (.k (cal .k Try.func62 rfl (fn_mirrored hb) (.k (.g 0 rfl) .n)) (.k (ala .k zP) (.k (sta .k (.g 2 rfl) (.g 1 rfl) tyP) .n)))) [0, 1, 2, 3, 4] [3] rfl rfl ?_
    refine Tr.rs [] (.k (ld .k (.b 2 rfl) tyP) (.k (cal .k Try.func62 rfl (fn_mirrored hc) (.k (.g 0 rfl) .n)) (.k (ala .k zP) (.k (sta .k (.g 2 rfl) (.g 1 rfl) tyP) .n)))) [0, 1, 2, 3, 4, 5] [3] rfl rfl ?_
    refine Tr.rs [] (.k (ld .k (.b 3 rfl) tyP) (.k (cal .k Try.func62 rfl (fn_mirrored hd) (.k (.g 0 rfl) .n)) (.k (ala .k zP) (.k (sta .k (.g 2 rfl) (.g 1 rfl) tyP) .n)))) [0, 1, 2, 3, 4, 5, 6] [3] rfl rfl ?_
    refine Tr.ds hmx [] (.k (ld .k (.b 4 rfl) tyP) (.k (ld .k (.b 5 rfl) tyP) (.k (ld .k (.b 6 rfl) tyP) (.k (cal .k Try.func44 rfl fn_Orient (.k (.g 0 rfl) (.k (.g 1 rfl) (.k (.g 2 rfl) .n)))) (.k (ld .k (.b 0 rfl) tyP) (.k (ld .k (.b 1 rfl) tyP) (.k (ld .k (.b 2 rfl) tyP) (.k (cal .k Try.func44 rfl fn_Orient (.k (.g 4 rfl) (.k (.g 5 rfl) (.k (.g 6 rfl) .n)))) (.k (min_ .k (.g 7 rfl) (ori_wrap ..)) (.k (eq_ .k (.g 3 rfl) (.g 8 rfl) (show (_ == _) = true from (beq_iff_eq.2 (ori_mi ha hb hc)))) (.k (mv .k (.g 9 rfl)) (.k (ld (.on (.g 10 rfl) rfl rfl) (.b 4 rfl) tyP) (.k (ld (.on (.g 10 rfl) rfl rfl) (.b 5 rfl) tyP) (.k (ld (.on (.g 10 rfl) rfl rfl) (.b 6 rfl) tyP) (.k (ld (.on (.g 10 rfl) rfl rfl) (.b 7 rfl) tyP) (.k (cal (.on (.g 10 rfl) rfl rfl) Try.func47 rfl fn_InCircle (.k (.g 11 rfl) (.k (.g 12 rfl) (.k (.g 13 rfl) (.k (.g 14 rfl) .n))))) (.k (ld (.on (.g 10 rfl) rfl rfl) (.b 0 rfl) tyP) (.k (ld (.on (.g 10 rfl) rfl rfl) (.b 1 rfl) tyP) (.k (ld (.on (.g 10 rfl) rfl rfl) (.b 2 rfl) tyP) (.k (ld (.on (.g 10 rfl) rfl rfl) (.b 3 rfl) tyP) (.k (cal (.on (.g 10 rfl) rfl rfl) Try.func47 rfl fn_InCircle (.k (.g 16 rfl) (.k (.g 17 rfl) (.k (.g 18 rfl) (.k (.g 19 rfl) .n))))) (.k (eq_ (.on (.g 10 rfl) rfl rfl) (.g 15 rfl) (.g 20 rfl) (show (_ == _) = true from (beq_iff_eq.2 (inc_mi ha hb hc hd)))) (.k (pickT .k (.g 10 rfl) (.g 21 rfl)) (.k (mv .k (.g 22 rfl)) (.k (ld (.on (.g 23 rfl) rfl rfl) (.b 4 rfl) tyP) (.k (ld (.on (.g 23 rfl) rfl rfl) (.b 5 rfl) tyP) (.k (ld (.on (.g 23 rfl) rfl rfl) (.b 6 rfl) tyP) (.k (cal (.on (.g 23 rfl) rfl rfl) Try.func49 rfl fn_InDisc (.k (.g 24 rfl) (.k (.g 25 rfl) (.k (.g 26 rfl) .n)))) (.k (ld (.on (.g 23 rfl) rfl rfl) (.b 0 rfl) tyP) (.k (ld (.on (.g 23 rfl) rfl rfl) (.b 1 rfl) tyP) (.k (ld (.on (.g 23 rfl) rfl rfl) (.b 2 rfl) tyP) (.k (cal (.on (.g 23 rfl) rfl rfl) Try.func49 rfl fn_InDisc (.k (.g 28 rfl) (.k (.g 29 rfl) (.k (.g 30 rfl) .n)))) (.k (eqB_ (.on (.g 23 rfl) rfl rfl) Try.underlying4 (.g 27 rfl) (.g 31 rfl) (beq_iff_eq.2 (dis_mi ha hb hc))) (.k (pickT .k (.g 23 rfl) (.g 32 rfl)) (.k (mv .k (.g 33 rfl)) (.k (ld (.on (.g 34 rfl) rfl rfl) (.b 4 rfl) tyP) (.k (ld (.on (.g 34 rfl) rfl rfl) (.b 5 rfl) tyP) (.k (ld (.on (.g 34 rfl) rfl rfl) (.b 6 rfl) tyP) (.k (cal (.on (.g 34 rfl) rfl rfl) Try.func60 rfl fn_Skinny (.k (.g 35 rfl) (.k (.g 36 rfl) (.k (.g 37 rfl) .n)))) (.k (ld (.on (.g 34 rfl) rfl rfl) (.b 0 rfl) tyP) (.k (ld (.on (.g 34 rfl) rfl rfl) (.b 1 rfl) tyP) (.k (ld (.on (.g 34 rfl) rfl rfl) (.b 2 rfl) tyP) (.k (cal (.on (.g 34 rfl) rfl rfl) Try.func60 rfl fn_Skinny (.k (.g 39 rfl) (.k (.g 40 rfl) (.k (.g 41 rfl) .n)))) (.k (eqB_ (.on (.g 34 rfl) rfl rfl) Try.underlying4 (.g 38 rfl) (.g 42 rfl) (beq_iff_eq.2 (sk_mi ha hb hc))) (.k (pickT .k (.g 34 rfl) (.g 43 rfl)) (.k (mv .k (.g 44 rfl)) (.k (cal (.on (.g 45 rfl) rfl rfl) Try.func46 rfl fn_known .n) (.k (pickT .k (.g 45 rfl) (.g 46 rfl)) (.k (asg .k (.g 47 rfl)) .n))))))))))))))))))))))))))))))))))))))))))))))))) [] [48] rfl rfl ?_
    refine Tr.ret (end_tmp 0 rfl rfl)
theorem predMoved_any (a0 b0 a1 b1 a2 b2 a3 b3 a4 b4 : Int) (W : World) (w0 : I64 a0 ∧ I64 b0) (w1 : I64 a1 ∧ I64 b1) (w2 : I64 a2 ∧ I64 b2) (w3 : I64 a3 ∧ I64 b3) (w4 : I64 a4 ∧ I64 b4) : Calls Try.prog 16 #[ptv a0 b0, ptv a1 b1, ptv a2 b2, ptv a3 b3, ptv a4 b4] W fun e w' => e = .returned (.bool true) ∧ Below W.heap.size W w' :=
  FnC.go (vs := [ptv a0 b0, ptv a1 b1, ptv a2 b2, ptv a3 b3, ptv a4 b4]) law_PredMoved W ⟨rfl, rfl, rfl, rfl, rfl, trivial⟩
end Go.Proofs.Ytmpbbodafenonaa

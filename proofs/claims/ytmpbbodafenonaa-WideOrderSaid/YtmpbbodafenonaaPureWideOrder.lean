/- The law WideOrder of the given program, as a plain statement on numbers of 256 bits, is proved at every input; no condition. -/
import Derived.Test.YtmpbbodafenonaaWP4
import Derived.Test.YtmpbbodafenonaaWP5
import Derived.Test.YtmpbbodafenonaaMT37
set_option linter.unusedVariables false
set_option linter.unusedSimpArgs false
namespace Go.Proofs.Ytmpbbodafenonaa
open Go Go.RowKit Go.Proofs.Ytmpbbodafenonaa.MT Go.Proofs.YtmpbbodafenonaaW.PrintWords Go.Proofs.YtmpbbodafenonaaW.PrintLast
theorem add2 {p q : Int} (hp : (p.natAbs : Int) < top4) : goOn (· + ·) [p, q] 0 = if ((p + q).natAbs : Int) < top4 then some (p + q) else none := by
  simp only [goOn, Int.zero_add]
  rw [if_pos hp]
theorem mul2 {p q : Int} (hp : (p.natAbs : Int) < top4) : goOn (· * ·) [p, q] 1 = if ((p * q).natAbs : Int) < top4 then some (p * q) else none := by
  simp only [goOn, Int.one_mul]
  rw [if_pos hp]
def vo : Option Int → Int
  | some z => z
  | none => 0
def eo : Option Int → Int
  | some _ => 0
  | none => 10
def mkR (R : W6) : S27 := ⟨R.1, ⟨R.2.1, R.2.2.1, R.2.2.2.1, R.2.2.2.2.1⟩⟩
theorem mkR_eq (r : Option Int) : mkR (resW r) = mk27 (decide (vo r < 0)) (vo r).natAbs := by cases r <;> rfl
theorem err_eq (r : Option Int) : (resW r).2.2.2.2.2 = eo r := by cases r <;> rfl
theorem val_vo (r : Option Int) (h : ((vo r).natAbs : Int) < top4) : val27 (mkR (resW r)) = vo r := by rw [mkR_eq, val_mk27 _ (by omega) h, sv_self]
theorem ok_vo (r : Option Int) : OkS (mkR (resW r)) := by rw [mkR_eq]; exact ok27 _ _
theorem addP {x y : S27} {p q : Int} (hx : OkS x) (hy : OkS y) (vx : val27 x = p) (vy : val27 y = q) (hp : (p.natAbs : Int) < top4) : Ev (fun k => wide_Add.f k [x, y]) (resW (if ((p + q).natAbs : Int) < top4 then some (p + q) else none)) := by
  have h := add_ev [x, y] (by simp) (fun z hz => by
    simp only [List.mem_cons, List.not_mem_nil, or_false] at hz
    rcases hz with rfl | rfl
    · exact hx
    · exact hy)
  simp only [List.map_cons, List.map_nil, vx, vy] at h
  rw [add2 hp] at h
  exact h
theorem mulP {x y : S27} {p q : Int} (hx : OkS x) (hy : OkS y) (vx : val27 x = p) (vy : val27 y = q) (hp : (p.natAbs : Int) < top4) : Ev (fun k => wide_Mul.f k [x, y]) (resW (if ((p * q).natAbs : Int) < top4 then some (p * q) else none)) := by
  have h := mul_ev [x, y] (by simp) (fun z hz => by
    simp only [List.mem_cons, List.not_mem_nil, or_false] at hz
    rcases hz with rfl | rfl
    · exact hx
    · exact hy)
  simp only [List.map_cons, List.map_nil, vx, vy] at h
  rw [mul2 hp] at h
  exact h
theorem vo_lt (z : Int) : ((vo (if (z.natAbs : Int) < top4 then some z else none)).natAbs : Int) < top4 := by
  by_cases h : (z.natAbs : Int) < top4
  · rw [if_pos h]; exact h
  · rw [if_neg h]; decide
theorem eo_zero {z : Int} (h : eo (if (z.natAbs : Int) < top4 then some z else none) = 0) : (z.natAbs : Int) < top4 := by
  by_cases h1 : (z.natAbs : Int) < top4
  · exact h1
  · rw [if_neg h1] at h; cases h
namespace Pure
theorem WideOrder (ma : Bool) (a b c d : Int) (mb : Bool) (e f g h : Int) (mc : Bool) (p q r s : Int) (hu : U a ∧ U b ∧ U c ∧ U d) (hv : U e ∧ U f ∧ U g ∧ U h) (hw : U p ∧ U q ∧ U r ∧ U s) : ∃ k, parquetlaw01_WideOrder.f k ma a b c d mb e f g h mc p q r s = some true := by
  obtain ⟨u, u0, u1, rfl, rfl, rfl, rfl⟩ := limbs hu
  obtain ⟨v, v0, v1, rfl, rfl, rfl, rfl⟩ := limbs hv
  obtain ⟨w, w0, w1, rfl, rfl, rfl, rfl⟩ := limbs hw
  have VA := val_mk27 ma u0 u1
  have VB := val_mk27 mb v0 v1
  have VC := val_mk27 mc w0 w1
  have aA := sv_abs ma u0
  have aB := sv_abs mb v0
  have aC := sv_abs mc w0
  obtain ⟨y, hy, hY⟩ := of_ev ma u u0 u1
  have hback := wide_num hY (by decide) (by omega)
  have hsub : ∀ (m1 : Bool) (t : Int), 0 ≤ t → t < top4 → Ev (fun k => wide_Sub.f k m1 (spl0 t) (spl1 t) (spl2 t) (spl3 t) mb (spl0 v) (spl1 v) (spl2 v) (spl3 v)) (resW (goOn (· + ·) [sv m1 t, -sv mb v] 0)) := fun m1 t h0 h1 => sub_ev m1 mb h0 h1 v0 v1
  obtain ⟨A, hA⟩ : ∃ A, A = sv ma u := ⟨_, rfl⟩
  obtain ⟨B, hB⟩ : ∃ B, B = sv mb v := ⟨_, rfl⟩
  obtain ⟨C, hC⟩ : ∃ C, C = sv mc w := ⟨_, rfl⟩
  rw [← hA] at VA aA hback hY
  rw [← hB] at VB aB hsub
  rw [← hC] at VC aC
  have oA := ok27 ma u
  have oB := ok27 mb v
  have oC := ok27 mc w
  have hAt : (A.natAbs : Int) < top4 := by omega
  have hBt : (B.natAbs : Int) < top4 := by omega
  have x1 := addP oA oB VA VB hAt
  have x2 := addP oB oA VB VA hBt
  have x3 := mulP oA oB VA VB hAt
  have x4 := mulP oB oA VB VA hBt
  rw [Int.add_comm B A] at x2
  rw [Int.mul_comm B A] at x4
  have x6 := mulP oA oC VA VC hAt
  have x7 := mulP oB oC VB VC hBt
  have lX := vo_lt (A + B)
  have lT := vo_lt (A * C)
  have lU := vo_lt (B * C)
  have eX := @eo_zero (A + B)
  have eT := @eo_zero (A * C)
  have eU := @eo_zero (B * C)
  have vX : ∀ hh : ((A + B).natAbs : Int) < top4, (if ((A + B).natAbs : Int) < top4 then some (A + B) else none) = some (A + B) := fun hh => if_pos hh
  have vT : ∀ hh : ((A * C).natAbs : Int) < top4, (if ((A * C).natAbs : Int) < top4 then some (A * C) else none) = some (A * C) := fun hh => if_pos hh
  have vU : ∀ hh : ((B * C).natAbs : Int) < top4, (if ((B * C).natAbs : Int) < top4 then some (B * C) else none) = some (B * C) := fun hh => if_pos hh
  obtain ⟨rX, hrX⟩ : ∃ z, z = (if ((A + B).natAbs : Int) < top4 then some (A + B) else none) := ⟨_, rfl⟩
  obtain ⟨rP, hrP⟩ : ∃ z, z = (if ((A * B).natAbs : Int) < top4 then some (A * B) else none) := ⟨_, rfl⟩
  obtain ⟨rT, hrT⟩ : ∃ z, z = (if ((A * C).natAbs : Int) < top4 then some (A * C) else none) := ⟨_, rfl⟩
  obtain ⟨rU, hrU⟩ : ∃ z, z = (if ((B * C).natAbs : Int) < top4 then some (B * C) else none) := ⟨_, rfl⟩
  rw [← hrX] at x1 x2 lX eX vX
  rw [← hrP] at x3 x4
  rw [← hrT] at x6 lT eT vT
  rw [← hrU] at x7 lU eU vU
  have oX := ok_vo rX
  have oT := ok_vo rT
  have oU := ok_vo rU
  have VX := val_vo rX lX
  have VT := val_vo rT lT
  have VU := val_vo rU lU
  have x5 := mulP oX oC VX VC lX
  have x8 := addP oT oU VT VU lT
  have kX := err_eq rX
  have kT := err_eq rT
  have kU := err_eq rU
  have x9 := hsub (decide (vo rX < 0)) (vo rX).natAbs (by omega) lX
  rw [sv_self, add2 lX] at x9
  have hm := mkR_eq rX
  obtain ⟨RX, hRX⟩ : ∃ z, z = resW rX := ⟨_, rfl⟩
  obtain ⟨RP, hRP⟩ : ∃ z, z = resW rP := ⟨_, rfl⟩
  obtain ⟨RT, hRT⟩ : ∃ z, z = resW rT := ⟨_, rfl⟩
  obtain ⟨RU, hRU⟩ : ∃ z, z = resW rU := ⟨_, rfl⟩
  rw [← hRX] at x1 x2 kX hm x5
  rw [← hRP] at x3 x4
  rw [← hRT] at x6 x8 kT
  rw [← hRU] at x7 x8 kU
  unfold mkR mk27 at hm
  injection hm with m1 m2
  injection m2 with m3 m4 m5 m6
  have hj1 : Ev (fun k => parquetlaw01_WideOrder.j1 k RX.2.2.2.2.2 false ma (spl0 u) (spl1 u) (spl2 u) (spl3 u) mb (spl0 v) (spl1 v) (spl2 v) (spl3 v) RX.1 RX.2.1 RX.2.2.1 RX.2.2.2.1 RX.2.2.2.2.1) true := by
    refine Ev.step (fun k => by simp only [parquetlaw01_WideOrder.j1]; rfl) ?_
    refine Ev.no (by decide) ?_
    rw [m1, m3, m4, m5, m6]
    refine Ev.bind x9 ?_
    refine Ev.bind hy ?_
    refine Ev.got hback ?_
    by_cases h0 : RX.2.2.2.2.2 = 0
    · refine Ev.yes h0 ?_
      have hl := eX (by rw [← kX]; exact h0)
      rw [vX hl]
      have e1 : vo (some (A + B)) + -B = A := by show A + B + -B = A; omega
      rw [e1, if_pos hAt]
      refine Ev.yes rfl ?_
      refine Ev.yes (by simp [resW]) ?_
      exact known_true
    · exact Ev.no h0 known_true
  have hj0 : Ev (fun k => parquetlaw01_WideOrder.j0 k RX.2.2.2.2.2 false ma (spl0 u) (spl1 u) (spl2 u) (spl3 u) mb (spl0 v) (spl1 v) (spl2 v) (spl3 v) mc (spl0 w) (spl1 w) (spl2 w) (spl3 w) RX.1 RX.2.1 RX.2.2.1 RX.2.2.2.1 RX.2.2.2.2.1) true := by
    refine Ev.step (fun k => by simp only [parquetlaw01_WideOrder.j0]; rfl) ?_
    refine Ev.no (by decide) ?_
    refine Ev.bind x5 ?_
    refine Ev.bind x6 ?_
    refine Ev.bind x7 ?_
    refine Ev.bind x8 ?_
    by_cases h1 : RX.2.2.2.2.2 = 0
    · refine Ev.yes h1 ?_
      have l1 := eX (by rw [← kX]; exact h1)
      rw [vX l1]
      have e1 : vo (some (A + B)) = A + B := rfl
      rw [e1]
      by_cases h2 : (resW (if (((A + B) * C).natAbs : Int) < top4 then some ((A + B) * C) else none)).2.2.2.2.2 = 0
      · refine Ev.yes h2 ?_
        by_cases h3 : RT.2.2.2.2.2 = 0
        · refine Ev.yes h3 ?_
          have l3 := eT (by rw [← kT]; exact h3)
          by_cases h4 : RU.2.2.2.2.2 = 0
          · refine Ev.yes h4 ?_
            have l4 := eU (by rw [← kU]; exact h4)
            rw [vT l3, vU l4]
            have e2 : vo (some (A * C)) + vo (some (B * C)) = (A + B) * C := by
              show A * C + B * C = _
              rw [Int.add_mul]
            rw [e2]
            refine Ev.yes h2 ?_
            have hfl : (!((resW (if (((A + B) * C).natAbs : Int) < top4 then some ((A + B) * C) else none)).1 == (resW (if (((A + B) * C).natAbs : Int) < top4 then some ((A + B) * C) else none)).1) || (!((resW (if (((A + B) * C).natAbs : Int) < top4 then some ((A + B) * C) else none)).2.1 == (resW (if (((A + B) * C).natAbs : Int) < top4 then some ((A + B) * C) else none)).2.1) || (!((resW (if (((A + B) * C).natAbs : Int) < top4 then some ((A + B) * C) else none)).2.2.1 == (resW (if (((A + B) * C).natAbs : Int) < top4 then some ((A + B) * C) else none)).2.2.1) || (!((resW (if (((A + B) * C).natAbs : Int) < top4 then some ((A + B) * C) else none)).2.2.2.1 == (resW (if (((A + B) * C).natAbs : Int) < top4 then some ((A + B) * C) else none)).2.2.2.1) || (!((resW (if (((A + B) * C).natAbs : Int) < top4 then some ((A + B) * C) else none)).2.2.2.2.1 == (resW (if (((A + B) * C).natAbs : Int) < top4 then some ((A + B) * C) else none)).2.2.2.2.1)))))) = false := by simp
            rw [hfl]
            exact hj1
          · exact Ev.no h4 hj1
        · exact Ev.no h3 hj1
      · exact Ev.no h2 hj1
    · exact Ev.no h1 hj1
  have hev : Ev (fun k => parquetlaw01_WideOrder.f k ma (spl0 u) (spl1 u) (spl2 u) (spl3 u) mb (spl0 v) (spl1 v) (spl2 v) (spl3 v) mc (spl0 w) (spl1 w) (spl2 w) (spl3 w)) true := by
    unfold parquetlaw01_WideOrder.f
    refine Ev.bind x1 ?_
    refine Ev.bind x2 ?_
    refine Ev.bind x3 ?_
    refine Ev.bind x4 ?_
    refine Ev.no (by simp) ?_
    refine Ev.yes rfl ?_
    refine Ev.no (by simp) ?_
    have hfl : (RP.2.2.2.2.2 != RP.2.2.2.2.2) = false := by simp
    rw [hfl]
    exact hj0
  exact hev.rounds
end Pure
end Go.Proofs.Ytmpbbodafenonaa

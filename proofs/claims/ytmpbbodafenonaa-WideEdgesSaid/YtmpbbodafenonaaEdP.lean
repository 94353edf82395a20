/- The law WideEdges at every input. -/
import Derived.Test.YtmpbbodafenonaaEdW
import Derived.OpenShut
import Derived.Test.YtmpbbodafenonaaMT18
import Derived.Test.YtmpbbodafenonaaMT3
import Derived.Test.YtmpbbodafenonaaMT30
import Derived.Test.YtmpbbodafenonaaMT32
import Derived.Test.YtmpbbodafenonaaMT4
set_option linter.unusedVariables false
set_option linter.unusedSimpArgs false
namespace Go.Proofs.Ytmpbbodafenonaa
open Go Go.Proofs Go.RowKit Go.ChangeShapes Go.Proofs.Ytmpbbodafenonaa.MT Go.Proofs.YtmpbbodafenonaaW.PrintWords Go.Proofs.YtmpbbodafenonaaW.PrintLast
def of5 (r : Bool × Int × Int × Int × Int) : W5 := ⟨r.1, r.2.1, r.2.2.1, r.2.2.2.1, r.2.2.2.2⟩
def of6 (r : Bool × Int × Int × Int × Int × Int) : W5 := ⟨r.1, r.2.1, r.2.2.1, r.2.2.2.1, r.2.2.2.2.1⟩
theorem c_of {n : Int} {r : Bool × Int × Int × Int × Int} (h : wide_Of.f n = some r) : CallOf n (of5 r) := fun W => wide_Of.calls n _ _ _ _ _ W h
theorem c_ofE {n : Int} {r : Bool × Int × Int × Int × Int} (h : wide_Of.f n = some r) : CallOfE n (of5 r) := fun W m e => by subst e; exact wide_Of.calls m _ _ _ _ _ W h
theorem c_neg {x : W5} {r : Bool × Int × Int × Int × Int} (h : wide_Neg.f x.m x.a x.b x.c x.d = some r) : CallNeg x (of5 r) := fun W => wide_Neg.calls _ _ _ _ _ _ _ _ _ _ W h
theorem c_sub {k : Nat} {x y : W5} {r : Bool × Int × Int × Int × Int × Int} (h : wide_Sub.f k x.m x.a x.b x.c x.d y.m y.a y.b y.c y.d = some r) : CallSub x y (of6 r) r.2.2.2.2.2 := fun W => wide_Sub.calls k _ _ _ _ _ _ _ _ _ _ _ _ _ _ _ _ W h
theorem c_add {k : Nat} {l : List S27} {r : Bool × Int × Int × Int × Int × Int} (h : wide_Add.f k l = some r) : CallAdd l (of6 r) r.2.2.2.2.2 := fun W A c hr hc => wide_Add.calls k A c l _ _ _ _ _ _ W hr hc h
theorem c_mul {k : Nat} {l : List S27} {r : Bool × Int × Int × Int × Int × Int} (h : wide_Mul.f k l = some r) : CallMul l (of6 r) r.2.2.2.2.2 := fun W A c hr hc => wide_Mul.calls k A c l _ _ _ _ _ _ W hr hc h
def M64 : Int := 18446744073709551615
def topW : W5 := ⟨false, 18446744073709551615, 18446744073709551615, 18446744073709551615, 18446744073709551615⟩
def subO (x y : W5) : Option (Bool × Int × Int × Int × Int × Int) := wide_Sub.f 60 x.m x.a x.b x.c x.d y.m y.a y.b y.c y.d
def negO (x : W5) : Option (Bool × Int × Int × Int × Int) := wide_Neg.f x.m x.a x.b x.c x.d
/-- What is to be seen of one n. -/
def edB (n : Int) : Bool := match wide_Of.f n, wide_Of.f (1 + n), negO topW with
  | some o, some p, some q => match subO topW (of5 o), subO (of5 q) (of5 p) with
    | some s, some u => decide (s.2.2.2.2.2 = 0) && decide (u.2.2.2.2.2 = 10) && decide (wide_Add.f 60 [(of6 s).s, (of5 o).s] = some (false, 18446744073709551615, 18446744073709551615, 18446744073709551615, 18446744073709551615, 0))
    | _, _ => false
  | _, _, _ => false
set_option maxRecDepth 100000 in
theorem ed_all : (List.range 256).all (fun n => edB n) = true := by decide +kernel
theorem ed_n {n : Int} (h0 : 0 ≤ n) (h1 : n ≤ 255) : ∃ on om nt less q2 : W5, CallOfE n on ∧ CallOfE (1 + n) om ∧ CallNeg topW nt ∧ CallSub topW on less 0 ∧ CallAdd [less.s, on.s] topW 0 ∧ CallSub nt om q2 10 := by
  have h := List.all_eq_true.1 ed_all n.toNat (List.mem_range.2 (by omega))
  rw [show ((n.toNat : Nat) : Int) = n from by omega] at h
  unfold edB at h
  obtain ⟨o, ho⟩ : ∃ r, wide_Of.f n = some r := by
    cases hx : wide_Of.f n with
    | none => rw [hx] at h; simp at h
    | some r => exact ⟨r, rfl⟩
  obtain ⟨p, hp⟩ : ∃ r, wide_Of.f (1 + n) = some r := by
    cases hx : wide_Of.f (1 + n) with
    | none => rw [hx] at h; simp at h
    | some r => exact ⟨r, rfl⟩
  obtain ⟨q, hq⟩ : ∃ r, negO topW = some r := by
    cases hx : negO topW with
    | none => rw [hx] at h; simp at h
    | some r => exact ⟨r, rfl⟩
  rw [ho, hp, hq] at h
  dsimp only at h
  obtain ⟨s, hs⟩ : ∃ r, subO topW (of5 o) = some r := by
    cases hx : subO topW (of5 o) with
    | none => rw [hx] at h; simp at h
    | some r => exact ⟨r, rfl⟩
  obtain ⟨u, hu⟩ : ∃ r, subO (of5 q) (of5 p) = some r := by
    cases hx : subO (of5 q) (of5 p) with
    | none => rw [hx] at h; simp at h
    | some r => exact ⟨r, rfl⟩
  rw [hs, hu] at h
  simp only [Bool.and_eq_true, decide_eq_true_eq] at h
  obtain ⟨⟨e1, e2⟩, e3⟩ := h
  have c1 := c_sub (x := topW) (y := of5 o) hs
  have c2 := c_sub (x := of5 q) (y := of5 p) hu
  rw [e1] at c1
  rw [e2] at c2
  exact ⟨of5 o, of5 p, of5 q, of6 s, of6 u, c_ofE ho, c_ofE hp, c_neg hq, c1, c_add e3, c2⟩
def halfW : W5 := ⟨false, 0, 0, 1, 0⟩
def conB : Bool := match wide_Of.f 1, wide_Of.f 2 with
  | some o, some t => match subO halfW (of5 o), wide_Mul.f 60 [halfW.s, halfW.s], wide_Add.f 60 [topW.s, (of5 o).s] with
    | some n, some q3, some q1 => decide (n.2.2.2.2.2 = 0) && decide (q3.2.2.2.2.2 = 10) && decide (q1.2.2.2.2.2 = 10) && match wide_Mul.f 60 [(of6 n).s, (of6 n).s], wide_Mul.f 60 [(of5 t).s, (of6 n).s] with
      | some p, some w => decide (p.2.2.2.2.2 = 0) && decide (w.2.2.2.2.2 = 0) && decide (wide_Add.f 60 [(of6 p).s, (of6 w).s, (of5 o).s] = some (false, 0, 0, 0, 0, 10))
      | _, _ => false
    | _, _, _ => false
  | _, _ => false
set_option maxRecDepth 100000 in
theorem con_all : conB = true := by decide +kernel
theorem con_n : ∃ one two q1 q3 near p tw : W5, CallOf 1 one ∧ CallOf 2 two ∧ CallAdd [topW.s, one.s] q1 10 ∧ CallMul [halfW.s, halfW.s] q3 10 ∧ CallSub halfW one near 0 ∧ CallMul [near.s, near.s] p 0 ∧ CallMul [two.s, near.s] tw 0 ∧ CallAdd [p.s, tw.s, one.s] ⟨false, 0, 0, 0, 0⟩ 10 := by
  have h := con_all
  unfold conB at h
  obtain ⟨o, ho⟩ : ∃ r, wide_Of.f 1 = some r := by
    cases hx : wide_Of.f 1 with
    | none => rw [hx] at h; simp at h
    | some r => exact ⟨r, rfl⟩
  obtain ⟨t, ht⟩ : ∃ r, wide_Of.f 2 = some r := by
    cases hx : wide_Of.f 2 with
    | none => rw [hx] at h; simp at h
    | some r => exact ⟨r, rfl⟩
  rw [ho, ht] at h
  dsimp only at h
  obtain ⟨n, hn⟩ : ∃ r, subO halfW (of5 o) = some r := by
    cases hx : subO halfW (of5 o) with
    | none => rw [hx] at h; simp at h
    | some r => exact ⟨r, rfl⟩
  obtain ⟨q3, hq3⟩ : ∃ r, wide_Mul.f 60 [halfW.s, halfW.s] = some r := by
    cases hx : wide_Mul.f 60 [halfW.s, halfW.s] with
    | none => rw [hx] at h; simp at h
    | some r => exact ⟨r, rfl⟩
  obtain ⟨q1, hq1⟩ : ∃ r, wide_Add.f 60 [topW.s, (of5 o).s] = some r := by
    cases hx : wide_Add.f 60 [topW.s, (of5 o).s] with
    | none => rw [hx] at h; simp at h
    | some r => exact ⟨r, rfl⟩
  rw [hn, hq3, hq1] at h
  dsimp only at h
  rw [Bool.and_eq_true] at h
  obtain ⟨h, h2⟩ := h
  obtain ⟨p, hp⟩ : ∃ r, wide_Mul.f 60 [(of6 n).s, (of6 n).s] = some r := by
    cases hx : wide_Mul.f 60 [(of6 n).s, (of6 n).s] with
    | none => rw [hx] at h2; simp at h2
    | some r => exact ⟨r, rfl⟩
  obtain ⟨w, hw⟩ : ∃ r, wide_Mul.f 60 [(of5 t).s, (of6 n).s] = some r := by
    cases hx : wide_Mul.f 60 [(of5 t).s, (of6 n).s] with
    | none => rw [hx] at h2; simp at h2
    | some r => exact ⟨r, rfl⟩
  rw [hp, hw] at h2
  simp only [Bool.and_eq_true, decide_eq_true_eq] at h h2
  obtain ⟨⟨e1, e2⟩, e3⟩ := h
  obtain ⟨⟨e4, e5⟩, e6⟩ := h2
  have c1 := c_sub (x := halfW) (y := of5 o) hn
  have c2 := c_mul hq3
  have c3 := c_add hq1
  have c4 := c_mul hp
  have c5 := c_mul hw
  rw [e1] at c1
  rw [e2] at c2
  rw [e3] at c3
  rw [e4] at c4
  rw [e5] at c5
  exact ⟨of5 o, of5 t, of6 q1, of6 q3, of6 n, of6 p, of6 w, c_of ho, c_of ht, c3, c2, c1, c4, c5, c_add e6⟩
theorem edges_any (n : Int) (w : World) (hw : (Lit.int .u8 n).wf = true) : Calls Try.prog 8 #[.int .u8 n] w fun e w' => e = .returned (.bool true) ∧ Below w.heap.size w w' := by
  have hb := bounds_u8 hw
  obtain ⟨on, om, nt, less, q2, h1, h2, h3, h4, h5, h6⟩ := ed_n hb.1 hb.2
  obtain ⟨one, two, q1, q3, near, p, tw, g1, g2, g3, g4, g5, g6, g7, g8⟩ := con_n
  exact edges_walk n w hb.1 hb.2 topW one two on om nt q1 less q2 halfW q3 near p tw ⟨false, 0, 0, 0, 0⟩ (Lib.hid rfl) (Lib.hid rfl) (Lib.hid rfl) (Lib.hid g1) (Lib.hid g2) (Lib.hid h1) (Lib.hid h2) (Lib.hid h3) (Lib.hid g3) (Lib.hid h4) (Lib.hid h5) (Lib.hid h6) (Lib.hid g4) (Lib.hid g5) (Lib.hid g6) (Lib.hid g7) (Lib.hid g8)
end Go.Proofs.Ytmpbbodafenonaa

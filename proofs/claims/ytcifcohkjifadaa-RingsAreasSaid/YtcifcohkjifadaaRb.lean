/- Types of the rings' program, and what they are good for; segments, and words for rows. -/
import Derived.Test.YtcifcohkjifadaaIx
import Derived.Test.YtcifcohkjifadaaProg
set_option linter.unusedVariables false
set_option linter.unusedSimpArgs false
namespace Go.Proofs.Ytcifcohkjifadaa
open Go Go.RowKit Go.Proofs.Ytcifcohkjifadaa.Fx Go.Proofs.YtcifcohkjifadaaW.PrintWords
abbrev iv (n : Int) : SP := .is (.int .i64 n)
abbrev bv (b : Bool) : SP := .is (.bool b)
/-- A number's value; a segment's; its cells; two neighbours'. -/
abbrev ic (n : Int) : Value := .int .i64 n
def sgv (s : Int × Int) : Value := .agg #[.int .i64 s.1, .int .i64 s.2]
abbrev sgc (s : Int × Int) : List Value := [.int .i64 s.1, .int .i64 s.2]
def nxv (s : Int × Int) : Value := .agg #[.int .i64 s.1, .int .i64 s.2]
/-- Rows of numbers, of segments, of rows of numbers. -/
abbrev ivec (l : List Int) : SP := .vec 1 (l.map fun z => [ic z])
abbrev svec (l : List (Int × Int)) : SP := .vec 2 (l.map sgc)
abbrev lvec (l : List (List Int)) : SP := .vecs (l.map ivec)
theorem hmx : Try.prog.follows .mixedOrders = true := by kernel_rfl
theorem tyI : ScalTy Try.prog 3 := ⟨⟨_, Try.underlying3, rfl⟩⟩
theorem tyB : ScalTy Try.prog 4 := ⟨⟨_, Try.underlying4, rfl⟩⟩
theorem tyU : ScalTy Try.prog 5 := ⟨⟨_, Try.underlying5, rfl⟩⟩
theorem tyL : ScalTy Try.prog 24 := ⟨⟨_, Try.underlying24, rfl⟩⟩
theorem tyS : AggTy Try.prog 36 2 := ⟨⟨_, Try.underlying36, rfl⟩, by kernel_rfl⟩
theorem tyX : AggTy Try.prog 72 2 := ⟨⟨_, Try.underlying72, rfl⟩, by kernel_rfl⟩
theorem szI : (Try.prog.info? 3).map (·.size) = some 1 := by kernel_rfl
theorem szB : (Try.prog.info? 4).map (·.size) = some 1 := by kernel_rfl
theorem szS : (Try.prog.info? 36).map (·.size) = some 2 := by kernel_rfl
theorem szX : (Try.prog.info? 72).map (·.size) = some 2 := by kernel_rfl
theorem arX : ArrTy Try.prog 72 3 2 := ⟨Try.underlying72, szI⟩
theorem rwI : RowTy Try.prog 24 3 1 := ⟨Try.underlying24, by kernel_rfl⟩
theorem rwS : RowTy Try.prog 22 36 2 := ⟨Try.underlying22, by kernel_rfl⟩
theorem rwL : RowTy Try.prog 30 24 1 := ⟨Try.underlying30, by kernel_rfl⟩
theorem rwX : RowTy Try.prog 70 72 2 := ⟨Try.underlying70, by kernel_rfl⟩
theorem rwB : RowTy Try.prog 58 4 1 := ⟨Try.underlying58, by kernel_rfl⟩
theorem rwU : RowTy Try.prog 63 5 1 := ⟨Try.underlying63, by kernel_rfl⟩
theorem rwP : RowTy Try.prog 40 66 2 := ⟨Try.underlying40, by kernel_rfl⟩
theorem fSA : FieldTy Try.prog 36 0 0 := ⟨⟨_, _, Try.underlying36, rfl, fun _ _ => by kernel_rfl⟩⟩
theorem fSB : FieldTy Try.prog 36 1 1 := ⟨⟨_, _, Try.underlying36, rfl, fun _ _ => by kernel_rfl⟩⟩
theorem aSA : ∃ fs fl, Try.prog.underlying 36 = some (.struct fs) ∧ fs[0]? = some fl ∧ ∀ ad W, (fieldPlace ad fl).run Try.prog W = .ok (ad.add 0) W := ⟨_, _, Try.underlying36, rfl, fun ad W => by kernel_rfl⟩
theorem aSB : ∃ fs fl, Try.prog.underlying 36 = some (.struct fs) ∧ fs[1]? = some fl ∧ ∀ ad W, (fieldPlace ad fl).run Try.prog W = .ok (ad.add 1) W := ⟨_, _, Try.underlying36, rfl, fun ad W => by kernel_rfl⟩
theorem zS (W : World) : (zeroValue 36).run Try.prog W = .ok (sgv (0, 0)) W := by kernel_rfl
theorem zBool (W : World) : (zeroValue 4).run Try.prog W = .ok (.bool false) W := by kernel_rfl
instance (s : Int × Int) : AggSP (.is (sgv s)) 2 := ⟨fun h => ⟨_, h, rfl, by simp [Value.oneCell']⟩⟩
instance (s : Int × Int) : CellOf (.is (sgv s)) 0 (iv s.1) := ⟨fun h => ⟨_, by have h : Value.agg _ = sgv s := h; simp only [sgv, Value.agg.injEq] at h; subst h; rfl, rfl⟩⟩
instance (s : Int × Int) : CellOf (.is (sgv s)) 1 (iv s.2) := ⟨fun h => ⟨_, by have h : Value.agg _ = sgv s := h; simp only [sgv, Value.agg.injEq] at h; subst h; rfl, rfl⟩⟩
instance (s : Int × Int) : AggSP (.is (nxv s)) 2 := ⟨fun h => ⟨_, h, rfl, by simp [Value.oneCell']⟩⟩
instance (s : Int × Int) : CellOf (.is (nxv s)) 0 (iv s.1) := ⟨fun h => ⟨_, by have h : Value.agg _ = nxv s := h; simp only [nxv, Value.agg.injEq] at h; subst h; rfl, rfl⟩⟩
instance (s : Int × Int) : CellOf (.is (nxv s)) 1 (iv s.2) := ⟨fun h => ⟨_, by have h : Value.agg _ = nxv s := h; simp only [nxv, Value.agg.injEq] at h; subst h; rfl, rfl⟩⟩
theorem bS (x y : Int) : Try.prog.built 36 [(0, .int .i64 x), (1, .int .i64 y)] = some (sgv (x, y)).cells := by kernel_rfl
theorem bX (x y : Int) : Try.prog.built 72 [(0, .int .i64 x), (1, .int .i64 y)] = some (nxv (x, y)).cells := by kernel_rfl
theorem aS (x y : Int) : Value.agg (sgv (x, y)).cells = sgv (x, y) := rfl
theorem aX (x y : Int) : Value.agg (nxv (x, y)).cells = nxv (x, y) := rfl
theorem bSa (x : Int) : Try.prog.built 36 [(0, .int .i64 x)] = some (sgv (x, 0)).cells := by kernel_rfl
theorem bSb (y : Int) : Try.prog.built 36 [(1, .int .i64 y)] = some (sgv (0, y)).cells := by kernel_rfl
theorem fillL1' (A : Option Addr) (n c : Nat) : filled Try.prog 24 1 [Value.slice A n c] = some #[Value.slice A n c] := by kernel_rfl
theorem fillL2' (A : Option Addr) (n c : Nat) (A' : Option Addr) (n' c' : Nat) : filled Try.prog 24 2 [Value.slice A n c, Value.slice A' n' c'] = some #[Value.slice A n c, Value.slice A' n' c'] := by kernel_rfl
theorem fillL1 : ∀ vs : List Value, vs.length = 1 → (∀ v ∈ vs, ∃ A n c, v = Value.slice A n c) → filled Try.prog 24 1 vs = some vs.toArray := fun vs hl h => by
  match vs, hl with
  | [v], _ =>
    obtain ⟨A, n, c, rfl⟩ := h v (by simp)
    exact fillL1' A n c
theorem fillL2 : ∀ vs : List Value, vs.length = 2 → (∀ v ∈ vs, ∃ A n c, v = Value.slice A n c) → filled Try.prog 24 2 vs = some vs.toArray := fun vs hl h => by
  match vs, hl with
  | [v, u], _ =>
    obtain ⟨A, n, c, rfl⟩ := h v (by simp)
    obtain ⟨A', n', c', rfl⟩ := h u (by simp)
    exact fillL2' A n c A' n' c'
theorem vecs1 {sz : Nat} {r : List (List Value)} : ∀ p ∈ [SP.vec sz r], ∃ sz rows, p = SP.vec sz rows := fun p hp => by
  simp at hp; exact ⟨_, _, hp⟩
theorem vecs2 {sz sz' : Nat} {r r' : List (List Value)} : ∀ p ∈ [SP.vec sz r, SP.vec sz' r'], ∃ sz rows, p = SP.vec sz rows := fun p hp => by
  simp at hp
  rcases hp with hp | hp
  · exact ⟨_, _, hp⟩
  · exact ⟨_, _, hp⟩
theorem apTy {S E : TypeId} {sz bytes : Nat} (hu : Try.prog.underlying S = some (.slice E)) (hs : 0 < sz) (h : (match Try.prog.info? E with | some i => (match i.zero with | some z => i.size == sz && (i.bytes == bytes && z.cells.size == sz) | none => false) | none => false) = true) : AppTy Try.prog S E sz bytes := ⟨hu, by
  obtain ⟨p, hp⟩ : ∃ p, p = Try.prog.info? E := ⟨_, rfl⟩
  rw [← hp] at h ⊢
  cases p with
  | none => cases h
  | some i =>
    simp only at h
    cases hz : i.zero with
    | none => rw [hz] at h; cases h
    | some z =>
      rw [hz] at h
      simp only [Bool.and_eq_true, beq_iff_eq] at h
      exact ⟨i, z, rfl, hz, h.1, h.2.1, h.2.2⟩, hs⟩
theorem apI : AppTy Try.prog 24 3 1 8 := apTy Try.underlying24 (by decide) (by kernel_rfl)
theorem apS : AppTy Try.prog 22 36 2 16 := apTy Try.underlying22 (by decide) (by kernel_rfl)
theorem apL : AppTy Try.prog 30 24 1 24 := apTy Try.underlying30 (by decide) (by kernel_rfl)
theorem mkTy {S E : TypeId} {sz bytes : Nat} {c : Value} (hu : Try.prog.underlying S = some (.slice E)) (hs : 0 < sz) {z : Value} (hz : (Try.prog.info? E).map (fun i => (i.zero, i.size, i.bytes)) = some (some z, sz, bytes)) (hc : z.cells = (List.replicate sz c).toArray) : MkTy Try.prog S E sz bytes c := ⟨hu, by
  obtain ⟨p, hp⟩ : ∃ p, p = Try.prog.info? E := ⟨_, rfl⟩
  rw [← hp] at hz ⊢
  cases p with
  | none => cases hz
  | some i =>
    simp only [Option.map_some, Option.some.injEq, Prod.mk.injEq] at hz
    exact ⟨i, z, rfl, hz.1, hz.2.1, hz.2.2, hc⟩, hs⟩
theorem mkI : MkTy Try.prog 24 3 1 8 (.int .i64 0) := mkTy (z := .int .i64 0) Try.underlying24 (by decide) (by kernel_rfl) rfl
theorem mkB : MkTy Try.prog 58 4 1 1 (.bool false) := mkTy (z := .bool false) Try.underlying58 (by decide) (by kernel_rfl) rfl
theorem mkX : MkTy Try.prog 70 72 2 16 (.int .i64 0) := mkTy (z := .agg #[.int .i64 0, .int .i64 0]) Try.underlying70 (by decide) (by kernel_rfl) rfl
theorem laidOut : laidOutB Try.prog = true := by kernel_rfl
theorem rowS : (36 : TypeId) < Try.prog.types.size := of_decide_eq_true (by kernel_rfl)
theorem lawS : Go.WideMaps.KeyLaw Try.prog 36 := deep_law_laid laidOut (m := 2) (by omega) rowS (by kernel_rfl) (by rw [Try.underlying36])
theorem keyTypeS : Try.prog.keyType 36 = true := by kernel_rfl
theorem cellsS : Try.prog.cellsOf 36 = 2 := by kernel_rfl
theorem cellsI : Try.prog.cellsOf 3 = 1 := by kernel_rfl
theorem sizeT : ∃ m, Try.prog.types.size = m + 2 := ⟨Try.prog.types.size - 2, by have : (2 : Nat) ≤ Try.prog.types.size := of_decide_eq_true (by kernel_rfl); omega⟩
theorem keyS : KeyTy Try.prog 36 := ⟨Go.Maps.Keyed.of_law lawS, fun a b wa wb => by
  obtain ⟨m, hm⟩ := sizeT
  refine ⟨.string (keyBytes [.int .i64 a, .int .i64 b]), ?_⟩
  unfold keyOf
  simp only [Try.underlying36]
  rw [if_pos (by simp [keyTypeS, Value.formed, Try.underlying36, cellsS]), hm]
  unfold Program.keyLits
  simp only [Try.underlying36, Value.cells]
  rw [if_pos (by rw [cellsS]; exact ⟨rfl, by simp⟩)]
  simp [cellsI, Program.keyLits, Try.underlying3, wa, wb]⟩
theorem sG : Try.prog.eqGuardType Try.prog.depth 36 = false := by kernel_rfl
theorem eqSg (s u : Int × Int) (W : World) : (Op.equalIn 10000 36 (sgv s) (sgv u)).run Try.prog W = .ok (s.1 == u.1 && s.2 == u.2) W := by
  rw [show (10000 : Nat) = 9998 + 2 from rfl]
  refine eqA_of Try.underlying36 (by kernel_rfl) ?_
  refine eqf_cons (by rfl) (by go_simp; rfl) (by go_simp; rfl) (by go_simp) ?_
  exact eqf_last (by rfl) (by go_simp; rfl) (by go_simp; rfl) (by go_simp)
theorem one_all (l : List Int) : ((l.map fun z => [ic z]).all fun r => r.length == 1 && r.all (·.oneCell')) = true := by
  rw [List.all_eq_true]
  intro r hr
  obtain ⟨z, _, rfl⟩ := List.mem_map.1 hr
  rfl
theorem seg_all (l : List (Int × Int)) : ((l.map sgc).all fun r => r.length == 2 && r.all (·.oneCell')) = true := by
  rw [List.all_eq_true]
  intro r hr
  obtain ⟨z, _, rfl⟩ := List.mem_map.1 hr
  rfl
section
variable {P : Program} {w0 : World} {ok0 : Nat → Prop} {N : Nat} {R : Rg} {ops : Array Oper} {Q : Exit → Act → World → Prop} {i : Nat} {o : Oper}
/-- One more behind a row of the call's own. -/
theorem oapp_ {d t : Tmp} {y : Operand} {S E : TypeId} {sz bytes : Nat} {rows rs rows' : List (List Value)} (hh : Pl R ops i o (some d) (.call { callee := .builtin .append, args := #[.tmp t, y], argTypes := #[S, S] }) true) (hT : AppTy P S E sz bytes)
    (hx : R.Nd i (.o t sz E rows)) (hy : Vl R i y (.vec sz rs)) (hb : bytes ≤ 24) (he : rows ++ rs = rows' ∧ ((rs.all fun r => r.length == sz && r.all (·.oneCell')) = true ∧ rs.length = 1) ∧ rows.length ≤ 5000000) : Does P w0 ok0 N R ops Q i o (some (.o d sz E rows')) := by
  obtain ⟨rfl, ⟨h1, h2⟩, h3⟩ := he
  refine oapp hh hT hx hy h1 (by omega) (by rw [h2]; unfold maxLen; omega) ?_
  rw [h2]
  have := Nat.mul_le_mul (show rows.length + 1 ≤ 5000001 by omega) hb
  omega
/-- A row behind a row of the call's own. -/
theorem oapg {d t : Tmp} {y : Operand} {S E : TypeId} {sz bytes : Nat} {rows rs rows' : List (List Value)} (hh : Pl R ops i o (some d) (.call { callee := .builtin .append, args := #[.tmp t, y], argTypes := #[S, S] }) true) (hT : AppTy P S E sz bytes)
    (hx : R.Nd i (.o t sz E rows)) (hy : Vl R i y (.vec sz rs)) (hb : bytes ≤ 24) (he : rows ++ rs = rows' ∧ ((rs.all fun r => r.length == sz && r.all (·.oneCell')) = true ∧ 0 < rs.length) ∧ rows.length + rs.length ≤ 5000000) : Does P w0 ok0 N R ops Q i o (some (.o d sz E rows')) := by
  obtain ⟨rfl, ⟨h1, h2⟩, h3⟩ := he
  refine oapp hh hT hx hy h1 h2 (by unfold maxLen; omega) ?_
  have := Nat.mul_le_mul h3 hb
  omega
/-- A row, or none, behind a row of the call's own. -/
theorem oapa {d t : Tmp} {y : Operand} {S E : TypeId} {sz bytes : Nat} {rows rs rows' : List (List Value)} (hh : Pl R ops i o (some d) (.call { callee := .builtin .append, args := #[.tmp t, y], argTypes := #[S, S] }) true) (hT : AppTy P S E sz bytes)
    (hx : R.Nd i (.o t sz E rows)) (hy : Vl R i y (.vec sz rs)) (hb : bytes ≤ 24) (he : rows ++ rs = rows' ∧ (rs.all fun r => r.length == sz && r.all (·.oneCell')) = true ∧ rows.length + rs.length ≤ 5000000) : Does P w0 ok0 N R ops Q i o (some (.o d sz E rows')) := by
  obtain ⟨rfl, h1, h3⟩ := he
  cases rs with
  | nil => rw [List.append_nil]; exact oappE hh hT hx hy
  | cons r rs => exact oapg hh hT hx hy hb ⟨rfl, ⟨h1, by simp⟩, h3⟩
end
end Go.Proofs.Ytcifcohkjifadaa

/- The walk of options.Make: one setter behind the other. -/
import Derived.Test.YtbiafpklgkkoaaaOptB
import Derived.Deep.LoopGhost
import Derived.OwnWalk
set_option linter.unusedVariables false
set_option linter.unusedSimpArgs false
namespace Go.Proofs.Ytbiafpklgkkoaaa
open Go Go.Proofs Go.RowKit
inductive Sett where
  | mode (n : Int) : Sett
  | budget (n : Int) : Sett
  | refine (b : Bool) : Sett
  | nil_ : Sett
def Sett.Is (w : World) (v : Value) : Sett → Prop
  | .mode n => ∃ b, v = .func (.func 33) #[] #[.pointer (some ⟨b, 0, none⟩)] ∧ SetB w b (.int .i64 n) 3
  | .budget n => ∃ b, v = .func (.func 32) #[] #[.pointer (some ⟨b, 0, none⟩)] ∧ SetB w b (.int .i64 n) 3
  | .refine n => ∃ b, v = .func (.func 35) #[] #[.pointer (some ⟨b, 0, none⟩)] ∧ SetB w b (.bool n) 4
  | .nil_ => v = .nilFunc
def Sett.app (o : Int × Int × Bool) : Sett → Int × Int × Bool
  | .mode n => (n, o.2.1, o.2.2)
  | .budget n => (o.1, n, o.2.2)
  | .refine b => (o.1, o.2.1, b)
  | .nil_ => o
def RowS (w : World) (A : Option Addr) (l : List Sett) : Prop := l.length ≤ 9223372036854775807 ∧ ∀ j (h : j < l.length), ∃ ad v, A = some ad ∧ ad.block < w.heap.size ∧ w.cell? (ad.add j) = some v ∧ (l[j]).Is w v
def makeV (o : Int × Int × Bool) : Value := if chkS o.1 o.2.1 = 0 then .tuple #[.agg #[.int .i64 o.1, .int .i64 o.2.1, .bool o.2.2], .int .i64 0] else .tuple #[.agg #[.int .i64 0, .int .i64 0, .bool false], .int .i64 2]
structure MInv (w W : World) (o : Int × Int × Bool) : Prop where
  hb : Below w.heap.size w W
  xr : OptB W w.heap.size 0 0 false
  xo : OptB W (w.heap.size + 1) o.1 o.2.1 o.2.2
theorem OptB.cells {w : World} {o : Nat} {m k : Int} {r : Bool} (h : OptB w o m k r) : w.cell? ⟨o, 0, none⟩ = some (.int .i64 m) ∧ w.cell? ⟨o, 1, none⟩ = some (.int .i64 k) ∧ w.cell? ⟨o, 2, none⟩ = some (.bool r) :=
  ⟨by simp [World.cell?, show w.heap[o]? = _ from h], by simp [World.cell?, show w.heap[o]? = _ from h], by simp [World.cell?, show w.heap[o]? = _ from h]⟩
theorem OptB.fr {w : World} {o : Nat} {m k : Int} {r : Bool} (h : OptB w o m k r) : w.frozen? ⟨o, 0, none⟩ = false ∧ w.frozen? ⟨o, 1, none⟩ = false ∧ w.frozen? ⟨o, 2, none⟩ = false :=
  ⟨by simp [World.frozen?, show w.heap[o]? = _ from h], by simp [World.frozen?, show w.heap[o]? = _ from h], by simp [World.frozen?, show w.heap[o]? = _ from h]⟩
theorem MInv.setter {w W : World} {o : Int × Int × Bool} (h : MInv w W o) {b : Nat} {v : Value} {t : TypeId} (hB : SetB w b v t) : SetB W b v t := (h.hb.block b (Array.getElem?_eq_some_iff.1 hB).1).trans hB
theorem MInv.far {w W : World} {o : Int × Int × Bool} (h : MInv w W o) (i : Nat) (v : Value) : Below w.heap.size w (W.setCell ⟨w.heap.size + 1, i, none⟩ v) ∧ OptB (W.setCell ⟨w.heap.size + 1, i, none⟩ v) w.heap.size 0 0 false :=
  ⟨h.hb.setCell (Nat.le_succ _) _, (Below.heap_setCell W ⟨w.heap.size + 1, i, none⟩ v w.heap.size (by simp)).trans h.xr⟩
theorem MInv.put0 {w W : World} {o : Int × Int × Bool} (h : MInv w W o) (n : Int) : MInv w (W.setCell ⟨w.heap.size + 1, 0, none⟩ (.int .i64 n)) (Sett.app o (.mode n)) := ⟨(h.far _ _).1, (h.far _ _).2, h.xo.set0 n⟩
theorem MInv.put1 {w W : World} {o : Int × Int × Bool} (h : MInv w W o) (n : Int) : MInv w (W.setCell ⟨w.heap.size + 1, 1, none⟩ (.int .i64 n)) (Sett.app o (.budget n)) := ⟨(h.far _ _).1, (h.far _ _).2, h.xo.set1 n⟩
theorem MInv.put2 {w W : World} {o : Int × Int × Bool} (h : MInv w W o) (n : Bool) : MInv w (W.setCell ⟨w.heap.size + 1, 2, none⟩ (.bool n)) (Sett.app o (.refine n)) := ⟨(h.far _ _).1, (h.far _ _).2, h.xo.set2 n⟩
theorem OptB.new (w : World) (m n : Int) (r : Bool) : OptB (w.alloc (.cells #[.int .i64 m, .int .i64 n, .bool r] 25)) w.heap.size m n r := by
  show (w.heap.push _)[w.heap.size]? = _
  simp
theorem MInv.start (w : World) : MInv w ((w.alloc (.cells #[.int .i64 0, .int .i64 0, .bool false] 25)).alloc (.cells #[.int .i64 1, .int .i64 0, .bool false] 25)) (1, 0, false) := by
  have e : (w.alloc (.cells #[.int .i64 0, .int .i64 0, .bool false] 25)).heap.size = w.heap.size + 1 := by
    show (w.heap.push _).size = _
    rw [Array.size_push]
  have x := OptB.new (w.alloc (.cells #[.int .i64 0, .int .i64 0, .bool false] 25)) 1 0 false
  rw [e] at x
  exact ⟨((Below.refl _ _).alloc (Nat.le_refl _) _).alloc (by rw [e]; omega) _, (OptB.new w 0 0 false).later ((Below.refl _ _).alloc (Nat.le_refl _) _), x⟩
set_option maxHeartbeats 4000000 in
set_option maxRecDepth 100000 in
theorem make_any (A : Option Addr) (l : List Sett) (c : Nat) (w : World) (hR : RowS w A l) (hc : l.length ≤ c) : Calls Try.prog 12 #[.slice A l.length c] w fun e w' => e = .returned (makeV (l.foldl Sett.app (1, 0, false))) ∧ Below w.heap.size w w' := by
  have hlen := hR.1
  go_enter Try.func12, Try.ntmps12
  go_wp2
  go_loopw [11] (fun v W => ∃ k : Nat, k ≤ l.length ∧ v = .int .i64 k ∧ MInv w W ((l.take k).foldl Sett.app (1, 0, false))) (fun v _ => l.length - (intOf v).toNat)
  case atStart => exact ⟨0, Nat.zero_le _, rfl, MInv.start w⟩
  case round =>
    obtain ⟨k, hk, rfl, hI⟩ := hrel
    by_cases hlt : k < l.length
    · obtain ⟨ad, v, rfl, hab, hcell, hIs⟩ := hR.2 k hlt
      have g1 : (k : Int) < (l.length : Int) := by omega
      have g0 : (0 : Int) ≤ (k : Int) := by omega
      have hcell2 : wr.cell? (ad.add k) = some v := (hI.hb.cell (p := ad.add k) (by unfold Addr.add; split <;> exact hab)).trans hcell
      have hfold : (l.take (k + 1)).foldl Sett.app (1, 0, false) = Sett.app ((l.take k).foldl Sett.app (1, 0, false)) l[k] := by
        rw [List.take_succ_eq_append_getElem hlt, List.foldl_append]
        rfl
      cases hs : l[k] with
      | mode n =>
        rw [hs] at hIs
        obtain ⟨b, rfl, hB⟩ := hIs
        have hB2 := hI.setter hB
        have hne : ∀ W, (binOp .neq 52 (.func (.func 33) #[] #[.pointer (some ⟨b, 0, none⟩)]) .nilFunc).run Try.prog W = .ok (.bool true) W := fun W => rfl
        go_wp2_with (go_at_call 33; refine (mode_set n b _ _ _ _ _ hB2 hI.xo).mono ?_; rintro e w2 ⟨rfl, rfl, hO⟩)
        go_roundw
        case rel => exact ⟨k + 1, by omega, rfl, by rw [hfold, hs]; exact hI.put0 n⟩
        case measure => simp only [intOf]; omega
      | budget n =>
        rw [hs] at hIs
        obtain ⟨b, rfl, hB⟩ := hIs
        have hB2 := hI.setter hB
        have hne : ∀ W, (binOp .neq 52 (.func (.func 32) #[] #[.pointer (some ⟨b, 0, none⟩)]) .nilFunc).run Try.prog W = .ok (.bool true) W := fun W => rfl
        go_wp2_with (go_at_call 32; refine (budget_set n b _ _ _ _ _ hB2 hI.xo).mono ?_; rintro e w2 ⟨rfl, rfl, hO⟩)
        go_roundw
        case rel => exact ⟨k + 1, by omega, rfl, by rw [hfold, hs]; exact hI.put1 n⟩
        case measure => simp only [intOf]; omega
      | refine n =>
        rw [hs] at hIs
        obtain ⟨b, rfl, hB⟩ := hIs
        have hB2 := hI.setter hB
        have hne : ∀ W, (binOp .neq 52 (.func (.func 35) #[] #[.pointer (some ⟨b, 0, none⟩)]) .nilFunc).run Try.prog W = .ok (.bool true) W := fun W => rfl
        go_wp2_with (go_at_call 35; refine (refine_set n b _ _ _ _ _ hB2 hI.xo).mono ?_; rintro e w2 ⟨rfl, rfl, hO⟩)
        go_roundw
        case rel => exact ⟨k + 1, by omega, rfl, by rw [hfold, hs]; exact hI.put2 n⟩
        case measure => simp only [intOf]; omega
      | nil_ =>
        rw [hs] at hIs
        obtain rfl : v = .nilFunc := hIs
        have hne : ∀ W, (binOp .neq 52 .nilFunc .nilFunc).run Try.prog W = .ok (.bool false) W := fun W => rfl
        go_wp2
        go_roundw
        case rel => exact ⟨k + 1, by omega, rfl, by rw [hfold, hs]; exact hI⟩
        case measure => simp only [intOf]; omega
    · obtain rfl : k = l.length := by omega
      rw [List.take_length] at hI
      obtain ⟨o, ho⟩ : ∃ o, o = l.foldl Sett.app (1, 0, false) := ⟨_, rfl⟩
      rw [← ho] at hI
      have HO := Lib.hid ho
      clear ho
      obtain ⟨om, on, ob⟩ := o
      obtain ⟨c0, c1, c2⟩ := hI.xo.cells
      obtain ⟨q, hq⟩ : ∃ q, chkS om on = q := ⟨_, rfl⟩
      by_cases hq0 : q = 0
      · subst hq0
        go_wp2_with (go_at_call 16; refine (check_any om on ob _).mono ?_; rintro e w2 ⟨rfl, hb2⟩; rw [hq]; have d := (hI.xo.later hb2).cells; obtain ⟨d0, d1, d2⟩ := d; have y := (hI.xr.later hb2); obtain ⟨y0, y1, y2⟩ := y.cells; obtain ⟨z0, z1, z2⟩ := y.fr)
        have hF := ((y.set0 (om)).set1 (on)).set2 (ob)
        obtain ⟨e0, e1, e2⟩ := hF.cells
        refine bodyPost_ret (v := .tuple #[.agg #[.int .i64 (om), .int .i64 (on), .bool (ob)], .int .i64 (0)]) (by simp [results, Try.results12, go_sem, e0, e1, e2]) rfl ⟨?_, ?_⟩
        · rw [← HO.out]
          exact (congrArg Ending.returned (if_pos hq)).symm
        · exact (((hI.hb.trans (hb2.mono hI.hb.size)).setCell (Nat.le_refl _) _).setCell (Nat.le_refl _) _).setCell (Nat.le_refl _) _
      · have hq2 : q = 2 := by
          rw [← hq] at hq0 ⊢
          unfold chkS at hq0 ⊢
          split
          · rfl
          · rename_i h
            exact absurd (if_neg h) hq0
        subst hq2
        go_wp2_with (go_at_call 16; refine (check_any om on ob _).mono ?_; rintro e w2 ⟨rfl, hb2⟩; rw [hq]; have d := (hI.xo.later hb2).cells; obtain ⟨d0, d1, d2⟩ := d; have y := (hI.xr.later hb2); obtain ⟨y0, y1, y2⟩ := y.cells; obtain ⟨z0, z1, z2⟩ := y.fr)
        have hF := ((y.set0 (0)).set1 (0)).set2 (false)
        obtain ⟨e0, e1, e2⟩ := hF.cells
        refine bodyPost_ret (v := .tuple #[.agg #[.int .i64 (0), .int .i64 (0), .bool (false)], .int .i64 (2)]) (by simp [results, Try.results12, go_sem, e0, e1, e2]) rfl ⟨?_, ?_⟩
        · rw [← HO.out]
          exact (congrArg Ending.returned (if_neg (fun h => by rw [hq] at h; cases h))).symm
        · exact (((hI.hb.trans (hb2.mono hI.hb.size)).setCell (Nat.le_refl _) _).setCell (Nat.le_refl _) _).setCell (Nat.le_refl _) _
end Go.Proofs.Ytbiafpklgkkoaaa

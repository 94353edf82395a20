/- The walk of parquetlaw06.sets: steps as setters. -/
import Derived.Test.YtbiafpklgkkoaaaOptK
import Derived.OwnWalk
import Derived.Maps.OwnOps
set_option linter.unusedVariables false
set_option linter.unusedSimpArgs false
namespace Go.Proofs.Ytbiafpklgkkoaaa
open Go Go.Proofs Go.RowKit Go.Shelf Go.Proofs.YtbiafpklgkkoaaaW.PrintWords Go.Proofs.YtbiafpklgkkoaaaW.PrintLast Go.Proofs.YtbiafpklgkkoaaaW.PrintMore
structure Stp where
  f0 : Int
  f1 : Int
  f2 : Bool
def zStp : Stp := ⟨0, 0, false⟩
def kStp : Kd Stp := Kd.iso (Kd.pair (Kd.int .i64) (Kd.pair (Kd.int .i64) Kd.bool)) (fun x : Stp => (x.f0, x.f1, x.f2))
theorem kStp_open {w : World} {x : Stp} {cs : List Value} (h : kStp.K w x cs) : cs = [.int .i64 x.f0, .int .i64 x.f1, .bool x.f2] := by
  obtain ⟨_, _, rfl, rfl, _, _, rfl, rfl, rfl⟩ := h
  exact rfl
theorem kStp_mk (w : World) (x : Stp) : kStp.K w x [.int .i64 x.f0, .int .i64 x.f1, .bool x.f2] := ⟨[.int .i64 x.f0], [.int .i64 x.f1, .bool x.f2], rfl, rfl, ⟨[.int .i64 x.f1], [.bool x.f2], rfl, rfl, rfl⟩⟩
def rdStp (xs : List Stp) (i : Int) : Stp := xs.getD i.toNat zStp
theorem atStp {w : World} {A : Option Addr} {n : Nat} {xs : List Stp} (h : Kd.C kStp w A n xs) (i : Int) (h0 : 0 ≤ i) (h1 : i < n) : ∃ ad , A = some ad ∧ w.cell? (ad.add (i.toNat * 3)) = some (.int .i64 (rdStp xs i).f0) ∧ w.cell? ⟨(ad.add (i.toNat * 3)).block, (ad.add (i.toNat * 3)).off + 1, none⟩ = some (.int .i64 (rdStp xs i).f1) ∧ w.cell? ⟨(ad.add (i.toNat * 3)).block, (ad.add (i.toNat * 3)).off + 2, none⟩ = some (.bool (rdStp xs i).f2) := by
  obtain ⟨ad, c, e, _, hK, hc0⟩ := Kd.C_get h zStp i h0 h1
  have hc : ∀ j u, c[j]? = some u → w.cell? (ad.add (i.toNat * 3 + j)) = some u := hc0
  obtain rfl := kStp_open hK
  exact ⟨ad, e, hc 0 _ rfl, by rw [← add_field _ _ 1 (by omega)]; exact hc 1 _ rfl, by rw [← add_field _ _ 2 (by omega)]; exact hc 2 _ rfl⟩
/-- A step, as a setter. -/
def toS (s : Stp) : Sett := if s.f0 = 0 then .mode s.f1 else if s.f0 = 1 then .budget s.f1 else if s.f0 = 2 then .refine s.f2 else .nil_
theorem takeS {l : List Stp} {k : Nat} (h : k < l.length) : (l.take (k + 1)).map toS = (l.take k).map toS ++ [toS (rdStp l (k : Int))] := by
  rw [List.take_succ_eq_append_getElem h, List.map_append]
  simp [rdStp, List.getD_eq_getElem?_getD, List.getElem?_eq_getElem h]
theorem SetsR.any {W : World} {base : Nat} {sv : Value} {l : List Sett} (h : SetsR W base sv l) : ∃ A c n, sv = .slice A n c ∧ n = l.length ∧ l.length ≤ c ∧ RowS W A l := by
  by_cases h0 : 0 < l.length
  · obtain ⟨A, c, e, h1, h2⟩ := h.row h0
    exact ⟨A, c, _, e, rfl, h1, h2⟩
  · have hl : l.length = 0 := by omega
    obtain rfl := List.eq_nil_of_length_eq_zero hl
    obtain ⟨cs, ⟨hl2, hn | ⟨g, cap, cur, rfl, hg, hh, hcap, hmax, hcs, htk⟩⟩, hI⟩ := h
    · exact ⟨none, 0, 0, hn.1, rfl, Nat.le_refl _, by simp, fun j hj => absurd hj (Nat.not_lt_zero _)⟩
    · exact ⟨_, cap, 0, rfl, rfl, Nat.zero_le _, by simp, fun j hj => absurd hj (Nat.not_lt_zero _)⟩
/-- Behind an append. -/
theorem sets_mid {w w2 w3 : World} {sv v' : Value} {l : List Sett} {cs : List Value} {x : Sett} {v : Value} (hb : Below w.heap.size w w2) (hrow : w2.ownsRow w.heap.size 52 1 sv l.length cs)
    (hIs : ∀ j (h : j < l.length), ∃ v, cs[j]? = some v ∧ (l[j]).Is w2 v) (hx : x.Is w2 v) (hown : w3.ownsRow w.heap.size 52 1 v' (l.length + 1) (cs ++ [v])) (hg : (w2.alloc (.cells #[v] 52)).grownBy w3 sv.ownBlock) :
    Below w.heap.size w w3 ∧ SetsR w3 w.heap.size v' (l ++ [x]) := by
  have ha : Below w2.heap.size w2 (w2.alloc (.cells #[v] 52)) := (Below.refl _ _).alloc (Nat.le_refl _) _
  refine ⟨Below.grown (hb.trans (ha.mono hb.size)) hg (Nat.le_trans hb.size ha.size) (fun k hk => (hrow.lt k hk).1), SetsR.appended hrow hIs hx rfl hown hg⟩
def stepsS (l : List Stp) : List Sett := (l.take 50).map toS
def SetsPost (w : World) (L : List Sett) (e : Ending) (W' : World) : Prop := ∃ B d n, e = .returned (.slice B n d) ∧ n = L.length ∧ L.length ≤ d ∧ RowS W' B L ∧ Below w.heap.size w W'
set_option maxHeartbeats 8000000 in
set_option maxRecDepth 100000 in
theorem sets_any (A : Option Addr) (c : Nat) (l : List Stp) (w : World) (hR : Kd.C kStp w A l.length l) (hc : l.length ≤ c) :
    Calls Try.prog 13 #[.slice A l.length c] w (SetsPost w (stepsS l)) := by
  obtain ⟨i0, hi, hz0, hz1, hz2⟩ := info_parts infoSet
  have hlen : l.length ≤ 9223372036854775807 := hR.2.1
  have HR := Lib.hid hR
  clear hR
  go_enter Try.func13, Try.ntmps13
  go_wp2
  go_loopw [3, 4] (fun v3 v4 W => ∃ k : Nat, k ≤ l.length ∧ k ≤ 50 ∧ v4 = .int .i64 k ∧ SetsR W w.heap.size v3 ((l.take k).map toS) ∧ Below w.heap.size w W) (fun _ v4 _ => 50 - (intOf v4).toNat)
  case atStart => exact ⟨0, Nat.zero_le _, Nat.zero_le _, rfl, SetsR.nil _ _, Below.refl _ _⟩
  case round =>
    obtain ⟨k, hk, hk50, rfl, hS, hB⟩ := hrel
    by_cases hgo : k < l.length ∧ k < 50
    · obtain ⟨hlt, hlt50⟩ := hgo
      have hLk : Hid (((l.take k).map toS).length = k) := Lib.hid (by rw [List.length_map, List.length_take]; omega)
      obtain ⟨ad, e, hx, hx1, hx2⟩ := atStp (Kd.C_below HR.out hB) (k : Int) (by omega) (by omega)
      subst e
      obtain ⟨t, ht⟩ : ∃ t, t = rdStp l (k : Int) := ⟨_, rfl⟩
      rw [← ht] at hx hx1 hx2
      rw [Int.toNat_natCast] at hx hx1 hx2
      have hlI : (k : Int) < (l.length : Int) := by omega
      have h50 : (k : Int) < 50 := by omega
      by_cases h0 : t.f0 = 0
      · have HX : Hid (toS (rdStp l (k : Int)) = .mode t.f1) := Lib.hid (by rw [← ht]; exact if_pos h0)
        have q0 : (t.f0 == 0) = true := by simpa using h0
        clear ht h0
        go_wp2_with fail
        refine (mode_any t.f1 _).mono ?_
        rintro e w2 ⟨rfl, hSet, hb2⟩
        have hB2 := below_step hB hb2
        have hS2 := hS.below hb2
        obtain ⟨cs, hrow, hIs⟩ := hS2
        have hmax : ((l.take k).map toS).length + 1 ≤ maxLen := by rw [hLk.out]; unfold maxLen; omega
        have hsz2 := hB2.size
        have hLk2 : ((l.take k).map toS).length = k := hLk.out
        have hLK := Lib.hid hLk2
        clear hLk2
        go_wp2_with (at_builtin; refine wpList_append_own _ rfl _ _ 37 rfl w.heap.size 52 i0 .nilFunc 1 8 Try.underlying37 hi hz0 hz1 hz2 rfl (by decide) _ _ _ rfl (hrow.alloc _) ⟨w2.heap.size, 0, none⟩ 1 1 [.func (.func 33) #[] #[.pointer (some ⟨wr.heap.size, 0, none⟩)]] rfl rfl (cell_one_new _ _ _) (by simp [Value.oneCell']) hmax (by rw [hLK.out]; omega) (by have := hB2.size; simp; omega) ?_; intro v' w3 hown hgrow _; obtain ⟨hb3, hs3⟩ := sets_mid (x := Sett.mode t.f1) hB2 hrow hIs ⟨_, rfl, hSet⟩ hown hgrow; clear hown hgrow hrow hIs hmax)
        go_roundw
        case rel => exact ⟨k + 1, by omega, by omega, by go_num, by rw [takeS hlt, HX.out]; exact hs3, hb3⟩
        case measure => simp only [intOf]; omega
      · have q0 : (t.f0 == 0) = false := by simpa using h0
        by_cases h1 : t.f0 = 1
        · have HX : Hid (toS (rdStp l (k : Int)) = .budget t.f1) := Lib.hid (by rw [← ht]; exact (if_neg h0).trans (if_pos h1))
          have q1 : (t.f0 == 1) = true := by simpa using h1
          clear ht h0 h1
          go_wp2_with fail
          refine (budget_any t.f1 _).mono ?_
          rintro e w2 ⟨rfl, hSet, hb2⟩
          have hB2 := below_step hB hb2
          have hS2 := hS.below hb2
          obtain ⟨cs, hrow, hIs⟩ := hS2
          have hmax : ((l.take k).map toS).length + 1 ≤ maxLen := by rw [hLk.out]; unfold maxLen; omega
          have hsz2 := hB2.size
          have hLk2 : ((l.take k).map toS).length = k := hLk.out
          have hLK := Lib.hid hLk2
          clear hLk2
          go_wp2_with (at_builtin; refine wpList_append_own _ rfl _ _ 37 rfl w.heap.size 52 i0 .nilFunc 1 8 Try.underlying37 hi hz0 hz1 hz2 rfl (by decide) _ _ _ rfl (hrow.alloc _) ⟨w2.heap.size, 0, none⟩ 1 1 [.func (.func 32) #[] #[.pointer (some ⟨wr.heap.size, 0, none⟩)]] rfl rfl (cell_one_new _ _ _) (by simp [Value.oneCell']) hmax (by rw [hLK.out]; omega) (by have := hB2.size; simp; omega) ?_; intro v' w3 hown hgrow _; obtain ⟨hb3, hs3⟩ := sets_mid (x := Sett.budget t.f1) hB2 hrow hIs ⟨_, rfl, hSet⟩ hown hgrow; clear hown hgrow hrow hIs hmax)
          go_roundw
          case rel => exact ⟨k + 1, by omega, by omega, by go_num, by rw [takeS hlt, HX.out]; exact hs3, hb3⟩
          case measure => simp only [intOf]; omega
        · have q1 : (t.f0 == 1) = false := by simpa using h1
          by_cases h2 : t.f0 = 2
          · have HX : Hid (toS (rdStp l (k : Int)) = .refine t.f2) := Lib.hid (by rw [← ht]; exact (if_neg h0).trans ((if_neg h1).trans (if_pos h2)))
            have q2 : (t.f0 == 2) = true := by simpa using h2
            clear ht h0 h1 h2
            go_wp2_with fail
            refine (refine_any t.f2 _).mono ?_
            rintro e w2 ⟨rfl, hSet, hb2⟩
            have hB2 := below_step hB hb2
            have hS2 := hS.below hb2
            obtain ⟨cs, hrow, hIs⟩ := hS2
            have hmax : ((l.take k).map toS).length + 1 ≤ maxLen := by rw [hLk.out]; unfold maxLen; omega
            have hsz2 := hB2.size
            have hLk2 : ((l.take k).map toS).length = k := hLk.out
            have hLK := Lib.hid hLk2
            clear hLk2
            go_wp2_with (at_builtin; refine wpList_append_own _ rfl _ _ 37 rfl w.heap.size 52 i0 .nilFunc 1 8 Try.underlying37 hi hz0 hz1 hz2 rfl (by decide) _ _ _ rfl (hrow.alloc _) ⟨w2.heap.size, 0, none⟩ 1 1 [.func (.func 35) #[] #[.pointer (some ⟨wr.heap.size, 0, none⟩)]] rfl rfl (cell_one_new _ _ _) (by simp [Value.oneCell']) hmax (by rw [hLK.out]; omega) (by have := hB2.size; simp; omega) ?_; intro v' w3 hown hgrow _; obtain ⟨hb3, hs3⟩ := sets_mid (x := Sett.refine t.f2) hB2 hrow hIs ⟨_, rfl, hSet⟩ hown hgrow; clear hown hgrow hrow hIs hmax)
            go_roundw
            case rel => exact ⟨k + 1, by omega, by omega, by go_num, by rw [takeS hlt, HX.out]; exact hs3, hb3⟩
            case measure => simp only [intOf]; omega
          · have HX : Hid (toS (rdStp l (k : Int)) = .nil_) := Lib.hid (by rw [← ht]; exact (if_neg h0).trans ((if_neg h1).trans (if_neg h2)))
            have q2 : (t.f0 == 2) = false := by simpa using h2
            clear ht h0 h1 h2
            have hB2 := hB
            have hS2 := hS
            obtain ⟨cs, hrow, hIs⟩ := hS2
            have hmax : ((l.take k).map toS).length + 1 ≤ maxLen := by rw [hLk.out]; unfold maxLen; omega
            have hsz2 := hB2.size
            have hLk2 : ((l.take k).map toS).length = k := hLk.out
            have hLK := Lib.hid hLk2
            clear hLk2
            go_wp2_with (at_builtin; refine wpList_append_own _ rfl _ _ 37 rfl w.heap.size 52 i0 .nilFunc 1 8 Try.underlying37 hi hz0 hz1 hz2 rfl (by decide) _ _ _ rfl (hrow.alloc _) ⟨wr.heap.size, 0, none⟩ 1 1 [.nilFunc] rfl rfl (cell_one_new _ _ _) (by simp [Value.oneCell']) hmax (by rw [hLK.out]; omega) (by have := hB2.size; simp; omega) ?_; intro v' w3 hown hgrow _; obtain ⟨hb3, hs3⟩ := sets_mid (x := Sett.nil_) hB2 hrow hIs (show Sett.Is _ _ Sett.nil_ from rfl) hown hgrow; clear hown hgrow hrow hIs hmax)
            go_roundw
            case rel => exact ⟨k + 1, by omega, by omega, by go_num, by rw [takeS hlt, HX.out]; exact hs3, hb3⟩
            case measure => simp only [intOf]; omega
    · have hend : Hid (l.take k = l.take 50) := Lib.hid (by
        by_cases h : k < l.length
        · have : k = 50 := by omega
          rw [this]
        · rw [List.take_of_length_le (by omega), List.take_of_length_le (by omega)])
      by_cases hlt : k < l.length
      · have hlI : (k : Int) < (l.length : Int) := by omega
        have h50 : ¬ ((k : Int) < 50) := by omega
        have h50b : decide ((k : Int) < 50) = false := by simpa using h50
        clear hgo
        obtain ⟨B, d, n, rfl, hn, hd, hrow⟩ := SetsR.any hS
        have HN := Lib.hid hn
        clear hn
        go_wp2
        go_ret
        unfold SetsPost stepsS
        rw [← hend.out]
        exact ⟨_, _, _, rfl, HN.out, hd, hrow, hB⟩
      · have hlI : decide (k < l.length) = false := by simpa using hlt
        clear hgo
        obtain ⟨B, d, n, rfl, hn, hd, hrow⟩ := SetsR.any hS
        have HN := Lib.hid hn
        clear hn
        go_wp2
        go_ret
        unfold SetsPost stepsS
        rw [← hend.out]
        exact ⟨_, _, _, rfl, HN.out, hd, hrow, hB⟩
end Go.Proofs.Ytbiafpklgkkoaaa

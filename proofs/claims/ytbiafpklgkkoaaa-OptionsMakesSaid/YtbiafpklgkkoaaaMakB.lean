/- The law OptionsMakes at every input: the steps one behind the other. -/
import Derived.Test.YtbiafpklgkkoaaaMakA
import Derived.Test.YtbiafpklgkkoaaaPureOptA
import Derived.Test.YtbiafpklgkkoaaaMU2
set_option linter.unusedVariables false
set_option linter.unusedSimpArgs false
namespace Go.Proofs.Ytbiafpklgkkoaaa
open Go Go.Proofs Go.RowKit Go.Shelf Go.Proofs.Ytbiafpklgkkoaaa.MU Go.Proofs.YtbiafpklgkkoaaaW.PrintWords Go.Proofs.YtbiafpklgkkoaaaW.PrintLast Go.Proofs.YtbiafpklgkkoaaaW.PrintMore
attribute [local go_sem high] Go.Proofs.Ytbiafpklgkkoaaa.eqA25
/-- What is wanted of the first k steps. -/
def wantS (l : List Stp) (k : Nat) : Opt3 := ((l.take k).map toS).foldl Sett.app (1, 0, false)
def OptO (W : World) (b : Nat) (o : Opt3) : Prop := OptB W b o.1 o.2.1 o.2.2
theorem rcheck_in {m n : Int} (r : Bool) (h : okO m n) : parquetref06_Check.f m n r = some 0 := by
  obtain ⟨h1, h2, h3, h4⟩ := h
  unfold parquetref06_Check.f
  rw [if_neg (by omega), if_neg (by omega), if_neg (by omega), if_neg (by omega)]
theorem beq_opt (m n : Int) (r : Bool) : (m == m && (n == n && (r == r))) = true := by simp
set_option maxHeartbeats 8000000 in
set_option maxRecDepth 100000 in
theorem makes_any (A : Option Addr) (c : Nat) (l : List Stp) (w : World) (hR : Kd.C kStp w A l.length l) (hc : l.length ≤ c) :
    Calls Try.prog 4 #[.slice A l.length c] w fun e w' => e = .returned (.bool true) ∧ Below w.heap.size w w' := by
  have hlen : l.length ≤ 9223372036854775807 := hR.2.1
  have HR := Lib.hid hR
  have hO0 := OptB.new w 1 0 false
  have hB0 : Below w.heap.size w (w.alloc (.cells #[.int .i64 1, .int .i64 0, .bool false] 25)) := (Below.refl _ _).alloc (Nat.le_refl _) _
  clear hR
  go_enter Try.func4, Try.ntmps4
  go_wp2
  go_loopw [4] (fun v4 W => ∃ k : Nat, k ≤ l.length ∧ k ≤ 50 ∧ v4 = .int .i64 k ∧ OptO W w.heap.size (wantS l k) ∧ Below w.heap.size w W) (fun v4 _ => 50 - (intOf v4).toNat)
  case atStart => exact ⟨0, Nat.zero_le _, Nat.zero_le _, rfl, hO0, hB0⟩
  case round =>
    obtain ⟨k, hk, hk50, rfl, hO', hB⟩ := hrel
    have hO : OptB wr w.heap.size (wantS l k).1 (wantS l k).2.1 (wantS l k).2.2 := hO'
    clear hO'
    by_cases hgo : k < l.length ∧ k < 50
    · obtain ⟨hlt, hlt50⟩ := hgo
      obtain ⟨ad, e, hx, hx1, hx2⟩ := atStp (Kd.C_below HR.out hB) (k : Int) (by omega) (by omega)
      subst e
      obtain ⟨t, ht⟩ : ∃ t, t = rdStp l (k : Int) := ⟨_, rfl⟩
      rw [← ht] at hx hx1 hx2
      rw [Int.toNat_natCast] at hx hx1 hx2
      have hlI : (k : Int) < (l.length : Int) := by omega
      have h50 : (k : Int) < 50 := by omega
      obtain ⟨c0, c1, c2⟩ := hO.cells
      obtain ⟨z0, z1, z2⟩ := hO.fr
      by_cases h0 : t.f0 = 0
      · have HX : Hid (toS (rdStp l (k : Int)) = .mode t.f1) := Lib.hid (by rw [← ht]; exact if_pos h0)
        have q0 : (t.f0 == 0) = true := by simpa using h0
        have hP : OptO (wr.setCell ⟨w.heap.size, 0, none⟩ (.int .i64 t.f1)) w.heap.size (wantS l (k + 1)) := by
          unfold wantS
          rw [takeS hlt, app_snoc, HX.out]
          exact hO.set0 _
        clear ht h0
        go_wp2
        go_roundw
        case rel => exact ⟨k + 1, by omega, by omega, by go_num, hP, hB.setCell (Nat.le_refl _) _⟩
        case measure => simp only [intOf]; omega
      · have q0 : (t.f0 == 0) = false := by simpa using h0
        by_cases h1 : t.f0 = 1
        · have HX : Hid (toS (rdStp l (k : Int)) = .budget t.f1) := Lib.hid (by rw [← ht]; exact (if_neg h0).trans (if_pos h1))
          have q1 : (t.f0 == 1) = true := by simpa using h1
          have hP : OptO (wr.setCell ⟨w.heap.size, 1, none⟩ (.int .i64 t.f1)) w.heap.size (wantS l (k + 1)) := by
            unfold wantS
            rw [takeS hlt, app_snoc, HX.out]
            exact hO.set1 _
          clear ht h0 h1
          go_wp2
          go_roundw
          case rel => exact ⟨k + 1, by omega, by omega, by go_num, hP, hB.setCell (Nat.le_refl _) _⟩
          case measure => simp only [intOf]; omega
        · have q1 : (t.f0 == 1) = false := by simpa using h1
          by_cases h2 : t.f0 = 2
          · have HX : Hid (toS (rdStp l (k : Int)) = .refine t.f2) := Lib.hid (by rw [← ht]; exact (if_neg h0).trans ((if_neg h1).trans (if_pos h2)))
            have q2 : (t.f0 == 2) = true := by simpa using h2
            have hP : OptO (wr.setCell ⟨w.heap.size, 2, none⟩ (.bool t.f2)) w.heap.size (wantS l (k + 1)) := by
              unfold wantS
              rw [takeS hlt, app_snoc, HX.out]
              exact hO.set2 _
            clear ht h0 h1 h2
            go_wp2
            go_roundw
            case rel => exact ⟨k + 1, by omega, by omega, by go_num, hP, hB.setCell (Nat.le_refl _) _⟩
            case measure => simp only [intOf]; omega
          · have HX : Hid (toS (rdStp l (k : Int)) = .nil_) := Lib.hid (by rw [← ht]; exact (if_neg h0).trans ((if_neg h1).trans (if_neg h2)))
            have q2 : (t.f0 == 2) = false := by simpa using h2
            have hP : OptO wr w.heap.size (wantS l (k + 1)) := by
              unfold wantS
              rw [takeS hlt, app_snoc, HX.out]
              exact hO
            clear ht h0 h1 h2
            go_wp2
            go_roundw
            case rel => exact ⟨k + 1, by omega, by omega, by go_num, hP, hB⟩
            case measure => simp only [intOf]; omega
    · have hend : (l.take k).map toS = stepsS l := by
        unfold stepsS
        by_cases h : k < l.length
        · have : k = 50 := by omega
          rw [this]
        · rw [List.take_of_length_le (by omega), List.take_of_length_le (by omega)]
      obtain ⟨o, ho⟩ : ∃ o, o = wantS l k := ⟨_, rfl⟩
      rw [← ho] at hO
      obtain ⟨m, n, r⟩ := o
      have HF : Hid ((stepsS l).foldl Sett.app (1, 0, false) = (m, n, r)) := Lib.hid (by rw [ho, ← hend]; rfl)
      clear ho hend
      by_cases hlt : k < l.length
      · have hlI : (k : Int) < (l.length : Int) := by omega
        have h50b : decide ((k : Int) < 50) = false := by simp; omega
        clear hgo
        by_cases hok : okO m n
        · have hck : chkS m n = 0 := by unfold okO at hok; exact if_neg (by omega)
          have hmk : Hid (makeV (m, n, r) = .tuple #[.agg #[.int .i64 m, .int .i64 n, .bool r], .int .i64 0]) := Lib.hid (makeV_good hck)
          have hrc : ∀ W, Calls Try.prog 14 #[.agg #[.int .i64 m, .int .i64 n, .bool r]] W fun e w' => e = .returned (.int .i64 0) ∧ Below W.heap.size W w' := fun W => parquetref06_Check.calls m n r _ W (rcheck_in r hok)
          have HRC := Lib.hid hrc
          clear hrc hck hok
          go_wp2_with fail
          refine (sets_any A c l _ (Kd.C_below HR.out hB) hc).mono ?_
          rintro e w2 ⟨B, d, q, rfl, hq, hd, hrow, hb2⟩
          have HQ := Lib.hid hq
          clear hq
          have hO2 := hO.later hb2
          go_wp2_with fail
          refine (make_n B (stepsS l) d q _ hrow hd HQ.out).mono ?_
          rintro e w3 ⟨rfl, hb3⟩
          rw [HF.out, hmk.out]
          have hO3 := hO2.later hb3
          have hbb : ∀ (u : World) o, Below u.heap.size u (u.alloc o) := fun u o => (Below.refl _ _).alloc (Nat.le_refl _) _
          have hO4 := hO3.later (hbb w3 (.cells #[.int .i64 m, .int .i64 n, .bool r] 25))
          obtain ⟨c0, c1, c2⟩ := hO4.cells
          have p4 := OptB.new w3 m n r
          go_wp2_with fail
          refine (HRC.out _).mono ?_
          rintro e w5 ⟨rfl, hb5⟩
          have hO5 := hO4.later hb5
          have p5 := p4.later hb5
          clear c0 c1 c2
          obtain ⟨c0, c1, c2⟩ := hO5.cells
          obtain ⟨d0, d1, d2⟩ := p5.cells
          go_wp2_with fail
          refine (known_ok _).mono ?_
          rintro e w6 ⟨rfl, hb6⟩
          go_wp2
          go_ret
          exact ⟨rfl, below_step (below_step (below_alloc (below_step (below_step hB hb2) hb3) _) hb5) hb6⟩
        · have hck : chkS m n = 2 := by unfold okO at hok; exact if_pos (by omega)
          have hmk : Hid (makeV (m, n, r) = .tuple #[.agg #[.int .i64 0, .int .i64 0, .bool false], .int .i64 2]) := Lib.hid (makeV_bad hck)
          have hrc : ∀ W, Calls Try.prog 14 #[.agg #[.int .i64 m, .int .i64 n, .bool r]] W fun e w' => e = .returned (.int .i64 2) ∧ Below W.heap.size W w' := fun W => parquetref06_Check.calls m n r _ W (rcheck_no r hok)
          have HRC := Lib.hid hrc
          clear hrc hck hok
          go_wp2_with fail
          refine (sets_any A c l _ (Kd.C_below HR.out hB) hc).mono ?_
          rintro e w2 ⟨B, d, q, rfl, hq, hd, hrow, hb2⟩
          have HQ := Lib.hid hq
          clear hq
          have hO2 := hO.later hb2
          go_wp2_with fail
          refine (make_n B (stepsS l) d q _ hrow hd HQ.out).mono ?_
          rintro e w3 ⟨rfl, hb3⟩
          rw [HF.out, hmk.out]
          have hO3 := hO2.later hb3
          have hbb : ∀ (u : World) o, Below u.heap.size u (u.alloc o) := fun u o => (Below.refl _ _).alloc (Nat.le_refl _) _
          have hO4 := hO3.later (hbb w3 (.cells #[.int .i64 0, .int .i64 0, .bool false] 25))
          obtain ⟨c0, c1, c2⟩ := hO4.cells
          have p4 := OptB.new w3 0 0 false
          go_wp2_with fail
          refine (HRC.out _).mono ?_
          rintro e w5 ⟨rfl, hb5⟩
          have hO5 := hO4.later hb5
          have p5 := p4.later hb5
          clear c0 c1 c2
          obtain ⟨c0, c1, c2⟩ := hO5.cells
          obtain ⟨d0, d1, d2⟩ := p5.cells
          go_wp2_with fail
          refine (known_ok _).mono ?_
          rintro e w6 ⟨rfl, hb6⟩
          go_wp2
          go_ret
          exact ⟨rfl, below_step (below_step (below_alloc (below_step (below_step hB hb2) hb3) _) hb5) hb6⟩
      · have hlI : decide (k < l.length) = false := by simpa using hlt
        clear hgo
        by_cases hok : okO m n
        · have hck : chkS m n = 0 := by unfold okO at hok; exact if_neg (by omega)
          have hmk : Hid (makeV (m, n, r) = .tuple #[.agg #[.int .i64 m, .int .i64 n, .bool r], .int .i64 0]) := Lib.hid (makeV_good hck)
          have hrc : ∀ W, Calls Try.prog 14 #[.agg #[.int .i64 m, .int .i64 n, .bool r]] W fun e w' => e = .returned (.int .i64 0) ∧ Below W.heap.size W w' := fun W => parquetref06_Check.calls m n r _ W (rcheck_in r hok)
          have HRC := Lib.hid hrc
          clear hrc hck hok
          go_wp2_with fail
          refine (sets_any A c l _ (Kd.C_below HR.out hB) hc).mono ?_
          rintro e w2 ⟨B, d, q, rfl, hq, hd, hrow, hb2⟩
          have HQ := Lib.hid hq
          clear hq
          have hO2 := hO.later hb2
          go_wp2_with fail
          refine (make_n B (stepsS l) d q _ hrow hd HQ.out).mono ?_
          rintro e w3 ⟨rfl, hb3⟩
          rw [HF.out, hmk.out]
          have hO3 := hO2.later hb3
          have hbb : ∀ (u : World) o, Below u.heap.size u (u.alloc o) := fun u o => (Below.refl _ _).alloc (Nat.le_refl _) _
          have hO4 := hO3.later (hbb w3 (.cells #[.int .i64 m, .int .i64 n, .bool r] 25))
          obtain ⟨c0, c1, c2⟩ := hO4.cells
          have p4 := OptB.new w3 m n r
          go_wp2_with fail
          refine (HRC.out _).mono ?_
          rintro e w5 ⟨rfl, hb5⟩
          have hO5 := hO4.later hb5
          have p5 := p4.later hb5
          clear c0 c1 c2
          obtain ⟨c0, c1, c2⟩ := hO5.cells
          obtain ⟨d0, d1, d2⟩ := p5.cells
          go_wp2_with fail
          refine (known_ok _).mono ?_
          rintro e w6 ⟨rfl, hb6⟩
          go_wp2
          go_ret
          exact ⟨rfl, below_step (below_step (below_alloc (below_step (below_step hB hb2) hb3) _) hb5) hb6⟩
        · have hck : chkS m n = 2 := by unfold okO at hok; exact if_pos (by omega)
          have hmk : Hid (makeV (m, n, r) = .tuple #[.agg #[.int .i64 0, .int .i64 0, .bool false], .int .i64 2]) := Lib.hid (makeV_bad hck)
          have hrc : ∀ W, Calls Try.prog 14 #[.agg #[.int .i64 m, .int .i64 n, .bool r]] W fun e w' => e = .returned (.int .i64 2) ∧ Below W.heap.size W w' := fun W => parquetref06_Check.calls m n r _ W (rcheck_no r hok)
          have HRC := Lib.hid hrc
          clear hrc hck hok
          go_wp2_with fail
          refine (sets_any A c l _ (Kd.C_below HR.out hB) hc).mono ?_
          rintro e w2 ⟨B, d, q, rfl, hq, hd, hrow, hb2⟩
          have HQ := Lib.hid hq
          clear hq
          have hO2 := hO.later hb2
          go_wp2_with fail
          refine (make_n B (stepsS l) d q _ hrow hd HQ.out).mono ?_
          rintro e w3 ⟨rfl, hb3⟩
          rw [HF.out, hmk.out]
          have hO3 := hO2.later hb3
          have hbb : ∀ (u : World) o, Below u.heap.size u (u.alloc o) := fun u o => (Below.refl _ _).alloc (Nat.le_refl _) _
          have hO4 := hO3.later (hbb w3 (.cells #[.int .i64 0, .int .i64 0, .bool false] 25))
          obtain ⟨c0, c1, c2⟩ := hO4.cells
          have p4 := OptB.new w3 0 0 false
          go_wp2_with fail
          refine (HRC.out _).mono ?_
          rintro e w5 ⟨rfl, hb5⟩
          have hO5 := hO4.later hb5
          have p5 := p4.later hb5
          clear c0 c1 c2
          obtain ⟨c0, c1, c2⟩ := hO5.cells
          obtain ⟨d0, d1, d2⟩ := p5.cells
          go_wp2_with fail
          refine (known_ok _).mono ?_
          rintro e w6 ⟨rfl, hb6⟩
          go_wp2
          go_ret
          exact ⟨rfl, below_step (below_step (below_alloc (below_step (below_step hB hb2) hb3) _) hb5) hb6⟩
end Go.Proofs.Ytbiafpklgkkoaaa

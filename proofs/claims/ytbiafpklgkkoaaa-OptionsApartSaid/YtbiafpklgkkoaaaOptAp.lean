/- The walk of parquetlaw06.OptionsApart. -/
import Derived.Test.YtbiafpklgkkoaaaOptK
import Derived.Test.YtbiafpklgkkoaaaPureOptionsPrints
import Derived.Test.YtbiafpklgkkoaaaMU3
set_option linter.unusedVariables false
set_option linter.unusedSimpArgs false
namespace Go.Proofs.Ytbiafpklgkkoaaa
open Go Go.Proofs Go.RowKit Go.Maps Go.Shelf Go.Proofs.YtbiafpklgkkoaaaW.PrintWords Go.Proofs.YtbiafpklgkkoaaaW.PrintLast Go.Proofs.YtbiafpklgkkoaaaW.PrintMore
attribute [local go_sem high] eqA25
theorem make2 (p q : Int) (a b : Nat) (w : World) (h1 : SetB w a (.int .i64 p) 3) (h2 : SetB w b (.int .i64 q) 3) (k : Nat)
    (c0 : w.cell? ⟨k, 0, none⟩ = some (.func (.func 32) #[] #[.pointer (some ⟨a, 0, none⟩)])) (c1 : w.cell? ⟨k, 1, none⟩ = some (.func (.func 32) #[] #[.pointer (some ⟨b, 0, none⟩)])) {r : Value} (hr : makeV (1, q, false) = r) :
    Calls Try.prog 12 #[.slice (some ⟨k, 0, none⟩) 2 2] w fun e w' => e = .returned r ∧ Below w.heap.size w w' := by
  subst hr
  have hk : k < w.heap.size := by have := World.block_lt_of_cell? w _ c0; simpa using this
  refine make_n (some ⟨k, 0, none⟩) [.budget p, .budget q] 2 2 w ⟨by simp, fun j hj => ?_⟩ (by simp) rfl
  refine ⟨⟨k, 0, none⟩, ?_⟩
  have hj3 : j = 0 ∨ j = 1 := by simp at hj; omega
  rcases hj3 with rfl | rfl
  · exact ⟨_, rfl, hk, c0, a, rfl, h1⟩
  · exact ⟨_, rfl, hk, c1, b, rfl, h2⟩
theorem budget_in {n : Int} (h0 : 0 ≤ n) (h1 : n ≤ 100) : makeV (1, n, false) = .tuple #[.agg #[.int .i64 1, .int .i64 n, .bool false], .int .i64 0] := makeV_good (if_neg (by omega))
theorem budget_out {n : Int} (h : n < 0 ∨ 100 < n) : makeV (1, n, false) = .tuple #[.agg #[.int .i64 0, .int .i64 0, .bool false], .int .i64 2] := makeV_bad (if_pos (by omega))
set_option maxHeartbeats 8000000 in
set_option maxRecDepth 100000 in
theorem apart_e (a0 a1 : Int) (a2 : Bool) (b0 b1 : Int) (b2 : Bool) (n : Int) (s t : ByteArray) (e f : Int) (w : World) (hn : -9223372036854775808 ≤ n ∧ n ≤ 9223372036854775807)
    (ha : ∀ W, Calls Try.prog 17 #[.agg #[.int .i64 a0, .int .i64 a1, .bool a2]] W fun x w' => x = .returned (.tuple #[.string s, .int .i64 e]) ∧ Below W.heap.size W w')
    (hb : ∀ W, Calls Try.prog 17 #[.agg #[.int .i64 b0, .int .i64 b1, .bool b2]] W fun x w' => x = .returned (.tuple #[.string t, .int .i64 f]) ∧ Below W.heap.size W w')
    (he : (e == 0) = false) :
    Calls Try.prog 8 #[.agg #[.int .i64 a0, .int .i64 a1, .bool a2], .agg #[.int .i64 b0, .int .i64 b1, .bool b2], .int .i64 n] w fun e w' => e = .returned (.bool true) ∧ Below w.heap.size w w' := by
  by_cases hin : 0 ≤ n ∧ n ≤ 100
  · obtain ⟨h0, h1⟩ := hin
    clear hn
    have HA := Lib.hid ha
    have HBb := Lib.hid hb
    clear ha hb
    go_enter Try.func8, Try.ntmps8
    go_wp2_with fail
    refine (HA.out _).mono ?_
    rintro e w1 ⟨rfl, hb1⟩
    have hbb : ∀ (u : World) o, Below u.heap.size u (u.alloc o) := fun u o => (Below.refl _ _).alloc (Nat.le_refl _) _
    have oa1 := ((OptB.new w a0 a1 a2).later (hbb _ _)).later hb1
    have ob := OptB.new (w.alloc (.cells #[.int .i64 a0, .int .i64 a1, .bool a2] 25)) b0 b1 b2
    rw [World.size_alloc] at ob
    have ob1 := ob.later hb1
    obtain ⟨y0, y1, y2⟩ := ob1.cells
    go_wp2_with fail
    refine (HBb.out _).mono ?_
    rintro e w2 ⟨rfl, hb2⟩
    have oa2 := oa1.later hb2
    have ob2 := ob1.later hb2
    clear y0 y1 y2
    obtain ⟨y0, y1, y2⟩ := ob2.cells
    obtain ⟨z0, z1, z2⟩ := oa2.cells
    go_wp2_with fail
    refine (budget_any n _).mono ?_
    rintro e w3 ⟨rfl, hs3, hb3⟩
    go_wp2_with fail
    refine (budget_any 3 _).mono ?_
    rintro e w4 ⟨rfl, hs4, hb4⟩
    have hs3' := hs3.later hb4
    go_wp2_with fail
    refine (make2 n 3 _ _ _ (hs3'.later (hbb _ _)) (hs4.later (hbb _ _)) w4.heap.size (by simp) (by simp) (budget_in (by decide) (by decide))).mono ?_
    rintro e w5 ⟨rfl, hb5⟩
    have hs3a := ((hs3'.later (hbb w4 _)).later hb5).later (hbb w5 (.cells #[.int .i64 1, .int .i64 3, .bool false] 25))
    have hs4a := ((hs4.later (hbb w4 _)).later hb5).later (hbb w5 (.cells #[.int .i64 1, .int .i64 3, .bool false] 25))
    have p5 := OptB.new w5 1 3 false
    go_wp2_with fail
    refine (make2 3 n _ _ _ (hs4a.later (hbb _ _)) (hs3a.later (hbb _ _)) (w5.heap.size + 1) (by simp) (by simp) (budget_in h0 h1)).mono ?_
    rintro e w6 ⟨rfl, hb6⟩
    have p6 := (p5.later (hbb _ _)).later hb6
    have hlt6 := p6.lt
    obtain ⟨x0, x1, x2⟩ := p6.cells
    go_wp2_with fail
    refine (known_ok _).mono ?_
    rintro e w7 ⟨rfl, hb7⟩
    go_wp2
    go_ret
    exact ⟨rfl, below_step (below_step (below_alloc (below_step (below_alloc (below_alloc (below_step (below_alloc (below_step (below_step (below_step (below_step (below_alloc (below_alloc (Below.refl _ _) _) _) hb1) hb2) hb3) hb4) _) hb5) _) _) hb6) _) hb7) (Below.refl _ _)⟩
  · have h2 : n < 0 ∨ 100 < n := by omega
    have HA := Lib.hid ha
    have HBb := Lib.hid hb
    clear ha hb
    by_cases h0 : n < 0
    · have H2 := Lib.hid h2
      clear h2 hin
      go_enter Try.func8, Try.ntmps8
      go_wp2_with fail
      refine (HA.out _).mono ?_
      rintro e w1 ⟨rfl, hb1⟩
      have hbb : ∀ (u : World) o, Below u.heap.size u (u.alloc o) := fun u o => (Below.refl _ _).alloc (Nat.le_refl _) _
      have oa1 := ((OptB.new w a0 a1 a2).later (hbb _ _)).later hb1
      have ob := OptB.new (w.alloc (.cells #[.int .i64 a0, .int .i64 a1, .bool a2] 25)) b0 b1 b2
      rw [World.size_alloc] at ob
      have ob1 := ob.later hb1
      obtain ⟨y0, y1, y2⟩ := ob1.cells
      go_wp2_with fail
      refine (HBb.out _).mono ?_
      rintro e w2 ⟨rfl, hb2⟩
      have oa2 := oa1.later hb2
      have ob2 := ob1.later hb2
      clear y0 y1 y2
      obtain ⟨y0, y1, y2⟩ := ob2.cells
      obtain ⟨z0, z1, z2⟩ := oa2.cells
      go_wp2_with fail
      refine (budget_any n _).mono ?_
      rintro e w3 ⟨rfl, hs3, hb3⟩
      go_wp2_with fail
      refine (budget_any 3 _).mono ?_
      rintro e w4 ⟨rfl, hs4, hb4⟩
      have hs3' := hs3.later hb4
      go_wp2_with fail
      refine (make2 n 3 _ _ _ (hs3'.later (hbb _ _)) (hs4.later (hbb _ _)) w4.heap.size (by simp) (by simp) (budget_in (by decide) (by decide))).mono ?_
      rintro e w5 ⟨rfl, hb5⟩
      have hs3a := ((hs3'.later (hbb w4 _)).later hb5).later (hbb w5 (.cells #[.int .i64 1, .int .i64 3, .bool false] 25))
      have hs4a := ((hs4.later (hbb w4 _)).later hb5).later (hbb w5 (.cells #[.int .i64 1, .int .i64 3, .bool false] 25))
      have p5 := OptB.new w5 1 3 false
      go_wp2_with fail
      refine (make2 3 n _ _ _ (hs4a.later (hbb _ _)) (hs3a.later (hbb _ _)) (w5.heap.size + 1) (by simp) (by simp) (budget_out H2.out)).mono ?_
      rintro e w6 ⟨rfl, hb6⟩
      have p6 := (p5.later (hbb _ _)).later hb6
      have hlt6 := p6.lt
      obtain ⟨x0, x1, x2⟩ := p6.cells
      go_wp2_with fail
      refine (known_ok _).mono ?_
      rintro e w7 ⟨rfl, hb7⟩
      go_wp2
      go_ret
      exact ⟨rfl, below_step (below_step (below_alloc (below_step (below_alloc (below_alloc (below_step (below_alloc (below_step (below_step (below_step (below_step (below_alloc (below_alloc (Below.refl _ _) _) _) hb1) hb2) hb3) hb4) _) hb5) _) _) hb6) _) hb7) (Below.refl _ _)⟩
    · have h1 : 100 < n := by omega
      have H2 := Lib.hid h2
      have h3 : 0 ≤ n := by omega
      clear h2 hin h0
      go_enter Try.func8, Try.ntmps8
      go_wp2_with fail
      refine (HA.out _).mono ?_
      rintro e w1 ⟨rfl, hb1⟩
      have hbb : ∀ (u : World) o, Below u.heap.size u (u.alloc o) := fun u o => (Below.refl _ _).alloc (Nat.le_refl _) _
      have oa1 := ((OptB.new w a0 a1 a2).later (hbb _ _)).later hb1
      have ob := OptB.new (w.alloc (.cells #[.int .i64 a0, .int .i64 a1, .bool a2] 25)) b0 b1 b2
      rw [World.size_alloc] at ob
      have ob1 := ob.later hb1
      obtain ⟨y0, y1, y2⟩ := ob1.cells
      go_wp2_with fail
      refine (HBb.out _).mono ?_
      rintro e w2 ⟨rfl, hb2⟩
      have oa2 := oa1.later hb2
      have ob2 := ob1.later hb2
      clear y0 y1 y2
      obtain ⟨y0, y1, y2⟩ := ob2.cells
      obtain ⟨z0, z1, z2⟩ := oa2.cells
      go_wp2_with fail
      refine (budget_any n _).mono ?_
      rintro e w3 ⟨rfl, hs3, hb3⟩
      go_wp2_with fail
      refine (budget_any 3 _).mono ?_
      rintro e w4 ⟨rfl, hs4, hb4⟩
      have hs3' := hs3.later hb4
      go_wp2_with fail
      refine (make2 n 3 _ _ _ (hs3'.later (hbb _ _)) (hs4.later (hbb _ _)) w4.heap.size (by simp) (by simp) (budget_in (by decide) (by decide))).mono ?_
      rintro e w5 ⟨rfl, hb5⟩
      have hs3a := ((hs3'.later (hbb w4 _)).later hb5).later (hbb w5 (.cells #[.int .i64 1, .int .i64 3, .bool false] 25))
      have hs4a := ((hs4.later (hbb w4 _)).later hb5).later (hbb w5 (.cells #[.int .i64 1, .int .i64 3, .bool false] 25))
      have p5 := OptB.new w5 1 3 false
      go_wp2_with fail
      refine (make2 3 n _ _ _ (hs4a.later (hbb _ _)) (hs3a.later (hbb _ _)) (w5.heap.size + 1) (by simp) (by simp) (budget_out H2.out)).mono ?_
      rintro e w6 ⟨rfl, hb6⟩
      have p6 := (p5.later (hbb _ _)).later hb6
      have hlt6 := p6.lt
      obtain ⟨x0, x1, x2⟩ := p6.cells
      go_wp2_with fail
      refine (known_ok _).mono ?_
      rintro e w7 ⟨rfl, hb7⟩
      go_wp2
      go_ret
      exact ⟨rfl, below_step (below_step (below_alloc (below_step (below_alloc (below_alloc (below_step (below_alloc (below_step (below_step (below_step (below_step (below_alloc (below_alloc (Below.refl _ _) _) _) hb1) hb2) hb3) hb4) _) hb5) _) _) hb6) _) hb7) (Below.refl _ _)⟩
set_option maxHeartbeats 8000000 in
set_option maxRecDepth 100000 in
theorem apart_f (a0 a1 : Int) (a2 : Bool) (b0 b1 : Int) (b2 : Bool) (n : Int) (s t : ByteArray) (e f : Int) (w : World) (hn : -9223372036854775808 ≤ n ∧ n ≤ 9223372036854775807)
    (ha : ∀ W, Calls Try.prog 17 #[.agg #[.int .i64 a0, .int .i64 a1, .bool a2]] W fun x w' => x = .returned (.tuple #[.string s, .int .i64 e]) ∧ Below W.heap.size W w')
    (hb : ∀ W, Calls Try.prog 17 #[.agg #[.int .i64 b0, .int .i64 b1, .bool b2]] W fun x w' => x = .returned (.tuple #[.string t, .int .i64 f]) ∧ Below W.heap.size W w')
    (he : (e == 0) = true) (hf : (f == 0) = false) :
    Calls Try.prog 8 #[.agg #[.int .i64 a0, .int .i64 a1, .bool a2], .agg #[.int .i64 b0, .int .i64 b1, .bool b2], .int .i64 n] w fun e w' => e = .returned (.bool true) ∧ Below w.heap.size w w' := by
  by_cases hin : 0 ≤ n ∧ n ≤ 100
  · obtain ⟨h0, h1⟩ := hin
    clear hn
    have HA := Lib.hid ha
    have HBb := Lib.hid hb
    clear ha hb
    go_enter Try.func8, Try.ntmps8
    go_wp2_with fail
    refine (HA.out _).mono ?_
    rintro e w1 ⟨rfl, hb1⟩
    have hbb : ∀ (u : World) o, Below u.heap.size u (u.alloc o) := fun u o => (Below.refl _ _).alloc (Nat.le_refl _) _
    have oa1 := ((OptB.new w a0 a1 a2).later (hbb _ _)).later hb1
    have ob := OptB.new (w.alloc (.cells #[.int .i64 a0, .int .i64 a1, .bool a2] 25)) b0 b1 b2
    rw [World.size_alloc] at ob
    have ob1 := ob.later hb1
    obtain ⟨y0, y1, y2⟩ := ob1.cells
    go_wp2_with fail
    refine (HBb.out _).mono ?_
    rintro e w2 ⟨rfl, hb2⟩
    have oa2 := oa1.later hb2
    have ob2 := ob1.later hb2
    clear y0 y1 y2
    obtain ⟨y0, y1, y2⟩ := ob2.cells
    obtain ⟨z0, z1, z2⟩ := oa2.cells
    go_wp2_with fail
    refine (budget_any n _).mono ?_
    rintro e w3 ⟨rfl, hs3, hb3⟩
    go_wp2_with fail
    refine (budget_any 3 _).mono ?_
    rintro e w4 ⟨rfl, hs4, hb4⟩
    have hs3' := hs3.later hb4
    go_wp2_with fail
    refine (make2 n 3 _ _ _ (hs3'.later (hbb _ _)) (hs4.later (hbb _ _)) w4.heap.size (by simp) (by simp) (budget_in (by decide) (by decide))).mono ?_
    rintro e w5 ⟨rfl, hb5⟩
    have hs3a := ((hs3'.later (hbb w4 _)).later hb5).later (hbb w5 (.cells #[.int .i64 1, .int .i64 3, .bool false] 25))
    have hs4a := ((hs4.later (hbb w4 _)).later hb5).later (hbb w5 (.cells #[.int .i64 1, .int .i64 3, .bool false] 25))
    have p5 := OptB.new w5 1 3 false
    go_wp2_with fail
    refine (make2 3 n _ _ _ (hs4a.later (hbb _ _)) (hs3a.later (hbb _ _)) (w5.heap.size + 1) (by simp) (by simp) (budget_in h0 h1)).mono ?_
    rintro e w6 ⟨rfl, hb6⟩
    have p6 := (p5.later (hbb _ _)).later hb6
    have hlt6 := p6.lt
    obtain ⟨x0, x1, x2⟩ := p6.cells
    go_wp2_with fail
    refine (known_ok _).mono ?_
    rintro e w7 ⟨rfl, hb7⟩
    go_wp2
    go_ret
    exact ⟨rfl, below_step (below_step (below_alloc (below_step (below_alloc (below_alloc (below_step (below_alloc (below_step (below_step (below_step (below_step (below_alloc (below_alloc (Below.refl _ _) _) _) hb1) hb2) hb3) hb4) _) hb5) _) _) hb6) _) hb7) (Below.refl _ _)⟩
  · have h2 : n < 0 ∨ 100 < n := by omega
    have HA := Lib.hid ha
    have HBb := Lib.hid hb
    clear ha hb
    by_cases h0 : n < 0
    · have H2 := Lib.hid h2
      clear h2 hin
      go_enter Try.func8, Try.ntmps8
      go_wp2_with fail
      refine (HA.out _).mono ?_
      rintro e w1 ⟨rfl, hb1⟩
      have hbb : ∀ (u : World) o, Below u.heap.size u (u.alloc o) := fun u o => (Below.refl _ _).alloc (Nat.le_refl _) _
      have oa1 := ((OptB.new w a0 a1 a2).later (hbb _ _)).later hb1
      have ob := OptB.new (w.alloc (.cells #[.int .i64 a0, .int .i64 a1, .bool a2] 25)) b0 b1 b2
      rw [World.size_alloc] at ob
      have ob1 := ob.later hb1
      obtain ⟨y0, y1, y2⟩ := ob1.cells
      go_wp2_with fail
      refine (HBb.out _).mono ?_
      rintro e w2 ⟨rfl, hb2⟩
      have oa2 := oa1.later hb2
      have ob2 := ob1.later hb2
      clear y0 y1 y2
      obtain ⟨y0, y1, y2⟩ := ob2.cells
      obtain ⟨z0, z1, z2⟩ := oa2.cells
      go_wp2_with fail
      refine (budget_any n _).mono ?_
      rintro e w3 ⟨rfl, hs3, hb3⟩
      go_wp2_with fail
      refine (budget_any 3 _).mono ?_
      rintro e w4 ⟨rfl, hs4, hb4⟩
      have hs3' := hs3.later hb4
      go_wp2_with fail
      refine (make2 n 3 _ _ _ (hs3'.later (hbb _ _)) (hs4.later (hbb _ _)) w4.heap.size (by simp) (by simp) (budget_in (by decide) (by decide))).mono ?_
      rintro e w5 ⟨rfl, hb5⟩
      have hs3a := ((hs3'.later (hbb w4 _)).later hb5).later (hbb w5 (.cells #[.int .i64 1, .int .i64 3, .bool false] 25))
      have hs4a := ((hs4.later (hbb w4 _)).later hb5).later (hbb w5 (.cells #[.int .i64 1, .int .i64 3, .bool false] 25))
      have p5 := OptB.new w5 1 3 false
      go_wp2_with fail
      refine (make2 3 n _ _ _ (hs4a.later (hbb _ _)) (hs3a.later (hbb _ _)) (w5.heap.size + 1) (by simp) (by simp) (budget_out H2.out)).mono ?_
      rintro e w6 ⟨rfl, hb6⟩
      have p6 := (p5.later (hbb _ _)).later hb6
      have hlt6 := p6.lt
      obtain ⟨x0, x1, x2⟩ := p6.cells
      go_wp2_with fail
      refine (known_ok _).mono ?_
      rintro e w7 ⟨rfl, hb7⟩
      go_wp2
      go_ret
      exact ⟨rfl, below_step (below_step (below_alloc (below_step (below_alloc (below_alloc (below_step (below_alloc (below_step (below_step (below_step (below_step (below_alloc (below_alloc (Below.refl _ _) _) _) hb1) hb2) hb3) hb4) _) hb5) _) _) hb6) _) hb7) (Below.refl _ _)⟩
    · have h1 : 100 < n := by omega
      have H2 := Lib.hid h2
      have h3 : 0 ≤ n := by omega
      clear h2 hin h0
      go_enter Try.func8, Try.ntmps8
      go_wp2_with fail
      refine (HA.out _).mono ?_
      rintro e w1 ⟨rfl, hb1⟩
      have hbb : ∀ (u : World) o, Below u.heap.size u (u.alloc o) := fun u o => (Below.refl _ _).alloc (Nat.le_refl _) _
      have oa1 := ((OptB.new w a0 a1 a2).later (hbb _ _)).later hb1
      have ob := OptB.new (w.alloc (.cells #[.int .i64 a0, .int .i64 a1, .bool a2] 25)) b0 b1 b2
      rw [World.size_alloc] at ob
      have ob1 := ob.later hb1
      obtain ⟨y0, y1, y2⟩ := ob1.cells
      go_wp2_with fail
      refine (HBb.out _).mono ?_
      rintro e w2 ⟨rfl, hb2⟩
      have oa2 := oa1.later hb2
      have ob2 := ob1.later hb2
      clear y0 y1 y2
      obtain ⟨y0, y1, y2⟩ := ob2.cells
      obtain ⟨z0, z1, z2⟩ := oa2.cells
      go_wp2_with fail
      refine (budget_any n _).mono ?_
      rintro e w3 ⟨rfl, hs3, hb3⟩
      go_wp2_with fail
      refine (budget_any 3 _).mono ?_
      rintro e w4 ⟨rfl, hs4, hb4⟩
      have hs3' := hs3.later hb4
      go_wp2_with fail
      refine (make2 n 3 _ _ _ (hs3'.later (hbb _ _)) (hs4.later (hbb _ _)) w4.heap.size (by simp) (by simp) (budget_in (by decide) (by decide))).mono ?_
      rintro e w5 ⟨rfl, hb5⟩
      have hs3a := ((hs3'.later (hbb w4 _)).later hb5).later (hbb w5 (.cells #[.int .i64 1, .int .i64 3, .bool false] 25))
      have hs4a := ((hs4.later (hbb w4 _)).later hb5).later (hbb w5 (.cells #[.int .i64 1, .int .i64 3, .bool false] 25))
      have p5 := OptB.new w5 1 3 false
      go_wp2_with fail
      refine (make2 3 n _ _ _ (hs4a.later (hbb _ _)) (hs3a.later (hbb _ _)) (w5.heap.size + 1) (by simp) (by simp) (budget_out H2.out)).mono ?_
      rintro e w6 ⟨rfl, hb6⟩
      have p6 := (p5.later (hbb _ _)).later hb6
      have hlt6 := p6.lt
      obtain ⟨x0, x1, x2⟩ := p6.cells
      go_wp2_with fail
      refine (known_ok _).mono ?_
      rintro e w7 ⟨rfl, hb7⟩
      go_wp2
      go_ret
      exact ⟨rfl, below_step (below_step (below_alloc (below_step (below_alloc (below_alloc (below_step (below_alloc (below_step (below_step (below_step (below_step (below_alloc (below_alloc (Below.refl _ _) _) _) hb1) hb2) hb3) hb4) _) hb5) _) _) hb6) _) hb7) (Below.refl _ _)⟩
set_option maxHeartbeats 8000000 in
set_option maxRecDepth 100000 in
theorem apart_s (a0 a1 : Int) (a2 : Bool) (b0 b1 : Int) (b2 : Bool) (n : Int) (s t : ByteArray) (e f : Int) (w : World) (hn : -9223372036854775808 ≤ n ∧ n ≤ 9223372036854775807)
    (ha : ∀ W, Calls Try.prog 17 #[.agg #[.int .i64 a0, .int .i64 a1, .bool a2]] W fun x w' => x = .returned (.tuple #[.string s, .int .i64 e]) ∧ Below W.heap.size W w')
    (hb : ∀ W, Calls Try.prog 17 #[.agg #[.int .i64 b0, .int .i64 b1, .bool b2]] W fun x w' => x = .returned (.tuple #[.string t, .int .i64 f]) ∧ Below W.heap.size W w')
    (he : (e == 0) = true) (hf : (f == 0) = true) (hst : (s.toList == t.toList) = true) (hab : (a0 == b0 && (a1 == b1 && (a2 == b2))) = true) :
    Calls Try.prog 8 #[.agg #[.int .i64 a0, .int .i64 a1, .bool a2], .agg #[.int .i64 b0, .int .i64 b1, .bool b2], .int .i64 n] w fun e w' => e = .returned (.bool true) ∧ Below w.heap.size w w' := by
  by_cases hin : 0 ≤ n ∧ n ≤ 100
  · obtain ⟨h0, h1⟩ := hin
    clear hn
    have HA := Lib.hid ha
    have HBb := Lib.hid hb
    clear ha hb
    go_enter Try.func8, Try.ntmps8
    go_wp2_with fail
    refine (HA.out _).mono ?_
    rintro e w1 ⟨rfl, hb1⟩
    have hbb : ∀ (u : World) o, Below u.heap.size u (u.alloc o) := fun u o => (Below.refl _ _).alloc (Nat.le_refl _) _
    have oa1 := ((OptB.new w a0 a1 a2).later (hbb _ _)).later hb1
    have ob := OptB.new (w.alloc (.cells #[.int .i64 a0, .int .i64 a1, .bool a2] 25)) b0 b1 b2
    rw [World.size_alloc] at ob
    have ob1 := ob.later hb1
    obtain ⟨y0, y1, y2⟩ := ob1.cells
    go_wp2_with fail
    refine (HBb.out _).mono ?_
    rintro e w2 ⟨rfl, hb2⟩
    have oa2 := oa1.later hb2
    have ob2 := ob1.later hb2
    clear y0 y1 y2
    obtain ⟨y0, y1, y2⟩ := ob2.cells
    obtain ⟨z0, z1, z2⟩ := oa2.cells
    go_wp2_with fail
    refine (budget_any n _).mono ?_
    rintro e w3 ⟨rfl, hs3, hb3⟩
    go_wp2_with fail
    refine (budget_any 3 _).mono ?_
    rintro e w4 ⟨rfl, hs4, hb4⟩
    have hs3' := hs3.later hb4
    go_wp2_with fail
    refine (make2 n 3 _ _ _ (hs3'.later (hbb _ _)) (hs4.later (hbb _ _)) w4.heap.size (by simp) (by simp) (budget_in (by decide) (by decide))).mono ?_
    rintro e w5 ⟨rfl, hb5⟩
    have hs3a := ((hs3'.later (hbb w4 _)).later hb5).later (hbb w5 (.cells #[.int .i64 1, .int .i64 3, .bool false] 25))
    have hs4a := ((hs4.later (hbb w4 _)).later hb5).later (hbb w5 (.cells #[.int .i64 1, .int .i64 3, .bool false] 25))
    have p5 := OptB.new w5 1 3 false
    go_wp2_with fail
    refine (make2 3 n _ _ _ (hs4a.later (hbb _ _)) (hs3a.later (hbb _ _)) (w5.heap.size + 1) (by simp) (by simp) (budget_in h0 h1)).mono ?_
    rintro e w6 ⟨rfl, hb6⟩
    have p6 := (p5.later (hbb _ _)).later hb6
    have hlt6 := p6.lt
    obtain ⟨x0, x1, x2⟩ := p6.cells
    go_wp2_with fail
    refine (known_ok _).mono ?_
    rintro e w7 ⟨rfl, hb7⟩
    go_wp2
    go_ret
    exact ⟨rfl, below_step (below_step (below_alloc (below_step (below_alloc (below_alloc (below_step (below_alloc (below_step (below_step (below_step (below_step (below_alloc (below_alloc (Below.refl _ _) _) _) hb1) hb2) hb3) hb4) _) hb5) _) _) hb6) _) hb7) (Below.refl _ _)⟩
  · have h2 : n < 0 ∨ 100 < n := by omega
    have HA := Lib.hid ha
    have HBb := Lib.hid hb
    clear ha hb
    by_cases h0 : n < 0
    · have H2 := Lib.hid h2
      clear h2 hin
      go_enter Try.func8, Try.ntmps8
      go_wp2_with fail
      refine (HA.out _).mono ?_
      rintro e w1 ⟨rfl, hb1⟩
      have hbb : ∀ (u : World) o, Below u.heap.size u (u.alloc o) := fun u o => (Below.refl _ _).alloc (Nat.le_refl _) _
      have oa1 := ((OptB.new w a0 a1 a2).later (hbb _ _)).later hb1
      have ob := OptB.new (w.alloc (.cells #[.int .i64 a0, .int .i64 a1, .bool a2] 25)) b0 b1 b2
      rw [World.size_alloc] at ob
      have ob1 := ob.later hb1
      obtain ⟨y0, y1, y2⟩ := ob1.cells
      go_wp2_with fail
      refine (HBb.out _).mono ?_
      rintro e w2 ⟨rfl, hb2⟩
      have oa2 := oa1.later hb2
      have ob2 := ob1.later hb2
      clear y0 y1 y2
      obtain ⟨y0, y1, y2⟩ := ob2.cells
      obtain ⟨z0, z1, z2⟩ := oa2.cells
      go_wp2_with fail
      refine (budget_any n _).mono ?_
      rintro e w3 ⟨rfl, hs3, hb3⟩
      go_wp2_with fail
      refine (budget_any 3 _).mono ?_
      rintro e w4 ⟨rfl, hs4, hb4⟩
      have hs3' := hs3.later hb4
      go_wp2_with fail
      refine (make2 n 3 _ _ _ (hs3'.later (hbb _ _)) (hs4.later (hbb _ _)) w4.heap.size (by simp) (by simp) (budget_in (by decide) (by decide))).mono ?_
      rintro e w5 ⟨rfl, hb5⟩
      have hs3a := ((hs3'.later (hbb w4 _)).later hb5).later (hbb w5 (.cells #[.int .i64 1, .int .i64 3, .bool false] 25))
      have hs4a := ((hs4.later (hbb w4 _)).later hb5).later (hbb w5 (.cells #[.int .i64 1, .int .i64 3, .bool false] 25))
      have p5 := OptB.new w5 1 3 false
      go_wp2_with fail
      refine (make2 3 n _ _ _ (hs4a.later (hbb _ _)) (hs3a.later (hbb _ _)) (w5.heap.size + 1) (by simp) (by simp) (budget_out H2.out)).mono ?_
      rintro e w6 ⟨rfl, hb6⟩
      have p6 := (p5.later (hbb _ _)).later hb6
      have hlt6 := p6.lt
      obtain ⟨x0, x1, x2⟩ := p6.cells
      go_wp2_with fail
      refine (known_ok _).mono ?_
      rintro e w7 ⟨rfl, hb7⟩
      go_wp2
      go_ret
      exact ⟨rfl, below_step (below_step (below_alloc (below_step (below_alloc (below_alloc (below_step (below_alloc (below_step (below_step (below_step (below_step (below_alloc (below_alloc (Below.refl _ _) _) _) hb1) hb2) hb3) hb4) _) hb5) _) _) hb6) _) hb7) (Below.refl _ _)⟩
    · have h1 : 100 < n := by omega
      have H2 := Lib.hid h2
      have h3 : 0 ≤ n := by omega
      clear h2 hin h0
      go_enter Try.func8, Try.ntmps8
      go_wp2_with fail
      refine (HA.out _).mono ?_
      rintro e w1 ⟨rfl, hb1⟩
      have hbb : ∀ (u : World) o, Below u.heap.size u (u.alloc o) := fun u o => (Below.refl _ _).alloc (Nat.le_refl _) _
      have oa1 := ((OptB.new w a0 a1 a2).later (hbb _ _)).later hb1
      have ob := OptB.new (w.alloc (.cells #[.int .i64 a0, .int .i64 a1, .bool a2] 25)) b0 b1 b2
      rw [World.size_alloc] at ob
      have ob1 := ob.later hb1
      obtain ⟨y0, y1, y2⟩ := ob1.cells
      go_wp2_with fail
      refine (HBb.out _).mono ?_
      rintro e w2 ⟨rfl, hb2⟩
      have oa2 := oa1.later hb2
      have ob2 := ob1.later hb2
      clear y0 y1 y2
      obtain ⟨y0, y1, y2⟩ := ob2.cells
      obtain ⟨z0, z1, z2⟩ := oa2.cells
      go_wp2_with fail
      refine (budget_any n _).mono ?_
      rintro e w3 ⟨rfl, hs3, hb3⟩
      go_wp2_with fail
      refine (budget_any 3 _).mono ?_
      rintro e w4 ⟨rfl, hs4, hb4⟩
      have hs3' := hs3.later hb4
      go_wp2_with fail
      refine (make2 n 3 _ _ _ (hs3'.later (hbb _ _)) (hs4.later (hbb _ _)) w4.heap.size (by simp) (by simp) (budget_in (by decide) (by decide))).mono ?_
      rintro e w5 ⟨rfl, hb5⟩
      have hs3a := ((hs3'.later (hbb w4 _)).later hb5).later (hbb w5 (.cells #[.int .i64 1, .int .i64 3, .bool false] 25))
      have hs4a := ((hs4.later (hbb w4 _)).later hb5).later (hbb w5 (.cells #[.int .i64 1, .int .i64 3, .bool false] 25))
      have p5 := OptB.new w5 1 3 false
      go_wp2_with fail
      refine (make2 3 n _ _ _ (hs4a.later (hbb _ _)) (hs3a.later (hbb _ _)) (w5.heap.size + 1) (by simp) (by simp) (budget_out H2.out)).mono ?_
      rintro e w6 ⟨rfl, hb6⟩
      have p6 := (p5.later (hbb _ _)).later hb6
      have hlt6 := p6.lt
      obtain ⟨x0, x1, x2⟩ := p6.cells
      go_wp2_with fail
      refine (known_ok _).mono ?_
      rintro e w7 ⟨rfl, hb7⟩
      go_wp2
      go_ret
      exact ⟨rfl, below_step (below_step (below_alloc (below_step (below_alloc (below_alloc (below_step (below_alloc (below_step (below_step (below_step (below_step (below_alloc (below_alloc (Below.refl _ _) _) _) hb1) hb2) hb3) hb4) _) hb5) _) _) hb6) _) hb7) (Below.refl _ _)⟩
set_option maxHeartbeats 8000000 in
set_option maxRecDepth 100000 in
theorem apart_d (a0 a1 : Int) (a2 : Bool) (b0 b1 : Int) (b2 : Bool) (n : Int) (s t : ByteArray) (e f : Int) (w : World) (hn : -9223372036854775808 ≤ n ∧ n ≤ 9223372036854775807)
    (ha : ∀ W, Calls Try.prog 17 #[.agg #[.int .i64 a0, .int .i64 a1, .bool a2]] W fun x w' => x = .returned (.tuple #[.string s, .int .i64 e]) ∧ Below W.heap.size W w')
    (hb : ∀ W, Calls Try.prog 17 #[.agg #[.int .i64 b0, .int .i64 b1, .bool b2]] W fun x w' => x = .returned (.tuple #[.string t, .int .i64 f]) ∧ Below W.heap.size W w')
    (he : (e == 0) = true) (hf : (f == 0) = true) (hst : (s.toList == t.toList) = false) (hab : (a0 == b0 && (a1 == b1 && (a2 == b2))) = false) :
    Calls Try.prog 8 #[.agg #[.int .i64 a0, .int .i64 a1, .bool a2], .agg #[.int .i64 b0, .int .i64 b1, .bool b2], .int .i64 n] w fun e w' => e = .returned (.bool true) ∧ Below w.heap.size w w' := by
  by_cases hin : 0 ≤ n ∧ n ≤ 100
  · obtain ⟨h0, h1⟩ := hin
    clear hn
    have HA := Lib.hid ha
    have HBb := Lib.hid hb
    clear ha hb
    go_enter Try.func8, Try.ntmps8
    go_wp2_with fail
    refine (HA.out _).mono ?_
    rintro e w1 ⟨rfl, hb1⟩
    have hbb : ∀ (u : World) o, Below u.heap.size u (u.alloc o) := fun u o => (Below.refl _ _).alloc (Nat.le_refl _) _
    have oa1 := ((OptB.new w a0 a1 a2).later (hbb _ _)).later hb1
    have ob := OptB.new (w.alloc (.cells #[.int .i64 a0, .int .i64 a1, .bool a2] 25)) b0 b1 b2
    rw [World.size_alloc] at ob
    have ob1 := ob.later hb1
    obtain ⟨y0, y1, y2⟩ := ob1.cells
    go_wp2_with fail
    refine (HBb.out _).mono ?_
    rintro e w2 ⟨rfl, hb2⟩
    have oa2 := oa1.later hb2
    have ob2 := ob1.later hb2
    clear y0 y1 y2
    obtain ⟨y0, y1, y2⟩ := ob2.cells
    obtain ⟨z0, z1, z2⟩ := oa2.cells
    go_wp2_with fail
    refine (budget_any n _).mono ?_
    rintro e w3 ⟨rfl, hs3, hb3⟩
    go_wp2_with fail
    refine (budget_any 3 _).mono ?_
    rintro e w4 ⟨rfl, hs4, hb4⟩
    have hs3' := hs3.later hb4
    go_wp2_with fail
    refine (make2 n 3 _ _ _ (hs3'.later (hbb _ _)) (hs4.later (hbb _ _)) w4.heap.size (by simp) (by simp) (budget_in (by decide) (by decide))).mono ?_
    rintro e w5 ⟨rfl, hb5⟩
    have hs3a := ((hs3'.later (hbb w4 _)).later hb5).later (hbb w5 (.cells #[.int .i64 1, .int .i64 3, .bool false] 25))
    have hs4a := ((hs4.later (hbb w4 _)).later hb5).later (hbb w5 (.cells #[.int .i64 1, .int .i64 3, .bool false] 25))
    have p5 := OptB.new w5 1 3 false
    go_wp2_with fail
    refine (make2 3 n _ _ _ (hs4a.later (hbb _ _)) (hs3a.later (hbb _ _)) (w5.heap.size + 1) (by simp) (by simp) (budget_in h0 h1)).mono ?_
    rintro e w6 ⟨rfl, hb6⟩
    have p6 := (p5.later (hbb _ _)).later hb6
    have hlt6 := p6.lt
    obtain ⟨x0, x1, x2⟩ := p6.cells
    go_wp2_with fail
    refine (known_ok _).mono ?_
    rintro e w7 ⟨rfl, hb7⟩
    go_wp2
    go_ret
    exact ⟨rfl, below_step (below_step (below_alloc (below_step (below_alloc (below_alloc (below_step (below_alloc (below_step (below_step (below_step (below_step (below_alloc (below_alloc (Below.refl _ _) _) _) hb1) hb2) hb3) hb4) _) hb5) _) _) hb6) _) hb7) (Below.refl _ _)⟩
  · have h2 : n < 0 ∨ 100 < n := by omega
    have HA := Lib.hid ha
    have HBb := Lib.hid hb
    clear ha hb
    by_cases h0 : n < 0
    · have H2 := Lib.hid h2
      clear h2 hin
      go_enter Try.func8, Try.ntmps8
      go_wp2_with fail
      refine (HA.out _).mono ?_
      rintro e w1 ⟨rfl, hb1⟩
      have hbb : ∀ (u : World) o, Below u.heap.size u (u.alloc o) := fun u o => (Below.refl _ _).alloc (Nat.le_refl _) _
      have oa1 := ((OptB.new w a0 a1 a2).later (hbb _ _)).later hb1
      have ob := OptB.new (w.alloc (.cells #[.int .i64 a0, .int .i64 a1, .bool a2] 25)) b0 b1 b2
      rw [World.size_alloc] at ob
      have ob1 := ob.later hb1
      obtain ⟨y0, y1, y2⟩ := ob1.cells
      go_wp2_with fail
      refine (HBb.out _).mono ?_
      rintro e w2 ⟨rfl, hb2⟩
      have oa2 := oa1.later hb2
      have ob2 := ob1.later hb2
      clear y0 y1 y2
      obtain ⟨y0, y1, y2⟩ := ob2.cells
      obtain ⟨z0, z1, z2⟩ := oa2.cells
      go_wp2_with fail
      refine (budget_any n _).mono ?_
      rintro e w3 ⟨rfl, hs3, hb3⟩
      go_wp2_with fail
      refine (budget_any 3 _).mono ?_
      rintro e w4 ⟨rfl, hs4, hb4⟩
      have hs3' := hs3.later hb4
      go_wp2_with fail
      refine (make2 n 3 _ _ _ (hs3'.later (hbb _ _)) (hs4.later (hbb _ _)) w4.heap.size (by simp) (by simp) (budget_in (by decide) (by decide))).mono ?_
      rintro e w5 ⟨rfl, hb5⟩
      have hs3a := ((hs3'.later (hbb w4 _)).later hb5).later (hbb w5 (.cells #[.int .i64 1, .int .i64 3, .bool false] 25))
      have hs4a := ((hs4.later (hbb w4 _)).later hb5).later (hbb w5 (.cells #[.int .i64 1, .int .i64 3, .bool false] 25))
      have p5 := OptB.new w5 1 3 false
      go_wp2_with fail
      refine (make2 3 n _ _ _ (hs4a.later (hbb _ _)) (hs3a.later (hbb _ _)) (w5.heap.size + 1) (by simp) (by simp) (budget_out H2.out)).mono ?_
      rintro e w6 ⟨rfl, hb6⟩
      have p6 := (p5.later (hbb _ _)).later hb6
      have hlt6 := p6.lt
      obtain ⟨x0, x1, x2⟩ := p6.cells
      go_wp2_with fail
      refine (known_ok _).mono ?_
      rintro e w7 ⟨rfl, hb7⟩
      go_wp2
      go_ret
      exact ⟨rfl, below_step (below_step (below_alloc (below_step (below_alloc (below_alloc (below_step (below_alloc (below_step (below_step (below_step (below_step (below_alloc (below_alloc (Below.refl _ _) _) _) hb1) hb2) hb3) hb4) _) hb5) _) _) hb6) _) hb7) (Below.refl _ _)⟩
    · have h1 : 100 < n := by omega
      have H2 := Lib.hid h2
      have h3 : 0 ≤ n := by omega
      clear h2 hin h0
      go_enter Try.func8, Try.ntmps8
      go_wp2_with fail
      refine (HA.out _).mono ?_
      rintro e w1 ⟨rfl, hb1⟩
      have hbb : ∀ (u : World) o, Below u.heap.size u (u.alloc o) := fun u o => (Below.refl _ _).alloc (Nat.le_refl _) _
      have oa1 := ((OptB.new w a0 a1 a2).later (hbb _ _)).later hb1
      have ob := OptB.new (w.alloc (.cells #[.int .i64 a0, .int .i64 a1, .bool a2] 25)) b0 b1 b2
      rw [World.size_alloc] at ob
      have ob1 := ob.later hb1
      obtain ⟨y0, y1, y2⟩ := ob1.cells
      go_wp2_with fail
      refine (HBb.out _).mono ?_
      rintro e w2 ⟨rfl, hb2⟩
      have oa2 := oa1.later hb2
      have ob2 := ob1.later hb2
      clear y0 y1 y2
      obtain ⟨y0, y1, y2⟩ := ob2.cells
      obtain ⟨z0, z1, z2⟩ := oa2.cells
      go_wp2_with fail
      refine (budget_any n _).mono ?_
      rintro e w3 ⟨rfl, hs3, hb3⟩
      go_wp2_with fail
      refine (budget_any 3 _).mono ?_
      rintro e w4 ⟨rfl, hs4, hb4⟩
      have hs3' := hs3.later hb4
      go_wp2_with fail
      refine (make2 n 3 _ _ _ (hs3'.later (hbb _ _)) (hs4.later (hbb _ _)) w4.heap.size (by simp) (by simp) (budget_in (by decide) (by decide))).mono ?_
      rintro e w5 ⟨rfl, hb5⟩
      have hs3a := ((hs3'.later (hbb w4 _)).later hb5).later (hbb w5 (.cells #[.int .i64 1, .int .i64 3, .bool false] 25))
      have hs4a := ((hs4.later (hbb w4 _)).later hb5).later (hbb w5 (.cells #[.int .i64 1, .int .i64 3, .bool false] 25))
      have p5 := OptB.new w5 1 3 false
      go_wp2_with fail
      refine (make2 3 n _ _ _ (hs4a.later (hbb _ _)) (hs3a.later (hbb _ _)) (w5.heap.size + 1) (by simp) (by simp) (budget_out H2.out)).mono ?_
      rintro e w6 ⟨rfl, hb6⟩
      have p6 := (p5.later (hbb _ _)).later hb6
      have hlt6 := p6.lt
      obtain ⟨x0, x1, x2⟩ := p6.cells
      go_wp2_with fail
      refine (known_ok _).mono ?_
      rintro e w7 ⟨rfl, hb7⟩
      go_wp2
      go_ret
      exact ⟨rfl, below_step (below_step (below_alloc (below_step (below_alloc (below_alloc (below_step (below_alloc (below_step (below_step (below_step (below_step (below_alloc (below_alloc (Below.refl _ _) _) _) hb1) hb2) hb3) hb4) _) hb5) _) _) hb6) _) hb7) (Below.refl _ _)⟩
end Go.Proofs.Ytbiafpklgkkoaaa

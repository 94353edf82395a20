/- options.Parse as a plain function's contract; the walk of parquetlaw06.known: it is true. -/
import Derived.Test.YtbiafpklgkkoaaaParB
import Derived.Test.YtbiafpklgkkoaaaWMore
import Derived.Test.YtbiafpklgkkoaaaWNEv
import Derived.Test.YtbiafpklgkkoaaaWEqStruct
import Derived.Test.YtbiafpklgkkoaaaWInvWords
import Derived.Lib.SlBytesConst
set_option linter.unusedVariables false
set_option linter.unusedSimpArgs false
namespace Go.Proofs.Ytbiafpklgkkoaaa
open Go Go.Proofs Go.RowKit Go.Maps Go.Shelf Go.Proofs.YtbiafpklgkkoaaaW.PrintWords Go.Proofs.YtbiafpklgkkoaaaW.PrintLast Go.Proofs.YtbiafpklgkkoaaaW.PrintMore
/-- The options of bytes, as the print tells functions. -/
def parseO (l0 : List Int) : Option (Int × Int × Bool × Int × Int) := if l0.length ≤ 1048576 then some ((parseT l0.length (tks l0)).1.1, (parseT l0.length (tks l0)).1.2.1, (parseT l0.length (tks l0)).1.2.2, (parseT l0.length (tks l0)).2.1, (parseT l0.length (tks l0)).2.2) else none
theorem parse_r (A0 : Option Addr) (c0 : Nat) (l0 : List Int) (r1 : Int) (r2 : Int) (r3 : Bool) (r4 : Int) (r5 : Int) (w : World) (hr0 : ReadsInt w .u8 A0 l0.length l0) (hc0 : l0.length ≤ c0) (h : parseO l0 = some (r1, r2, r3, r4, r5)) :
    Calls Try.prog 10 #[.slice A0 l0.length c0] w fun e w' => e = .returned (.tuple #[.agg #[.int .i64 r1, .int .i64 r2, .bool r3], .int .i64 r4, .int .i64 r5]) ∧ Below w.heap.size w w' := by
  unfold parseO at h
  split at h
  · rename_i hl
    simp only [Option.some.injEq, Prod.mk.injEq] at h
    obtain ⟨rfl, rfl, rfl, rfl, rfl⟩ := h
    exact parse_any A0 c0 l0 w hl hc0 hr0
  · cases h
theorem eqA25 (d : Nat) (w : World) (x0 x1 y0 y1 : Int) (x2 y2 : Bool) :
    (Op.equalIn (d + 2) 25 (.agg #[.int .i64 x0, .int .i64 x1, .bool x2]) (.agg #[.int .i64 y0, .int .i64 y1, .bool y2])).run Try.prog w = .ok (x0 == y0 && (x1 == y1 && (x2 == y2))) w := by
  refine eqA_of Try.underlying25 (by kernel_rfl) ?_
  refine eqf_cons (by rfl) (by go_simp; rfl) (by go_simp; rfl) (by go_simp) ?_
  refine eqf_cons (by rfl) (by go_simp; rfl) (by go_simp; rfl) (by go_simp) ?_
  exact eqf_last (by rfl) (by go_simp; rfl) (by go_simp; rfl) (by go_simp)
attribute [local go_sem high] eqA25
theorem reads_new (w : World) (k : IntKind) (xs : List Int) (e : TypeId) (fr : Nat × Nat) (hm : xs.length ≤ 9223372036854775807) :
    ReadsInt (w.alloc (.cells (nums k xs).toArray e fr)) k (some ⟨w.heap.size, 0, none⟩) xs.length xs := by
  refine ⟨rfl, hm, fun _ => ⟨_, rfl, fun j hj => ?_⟩⟩
  rw [add_plain]
  have h := World.alloc_heap_new w (.cells (nums k xs).toArray e fr)
  unfold World.cell?
  simp only [h]
  simp [nums, List.getD_eq_getElem?_getD, List.getElem?_eq_getElem hj]
def k1 : List Int := [97, 108, 108, 32, 98, 117, 100, 103, 101, 116, 32, 55, 32, 114, 101, 102, 105, 110, 101]
def k2 : List Int := [116, 114, 105, 32, 114, 101, 102, 105, 110, 101, 32, 114, 101, 102, 105, 110, 101]
theorem k1_eq : parseO k1 = some (3, 7, true, 0, 0) := by decide +kernel
theorem k2_eq : parseO k2 = some (0, 0, false, 11, 11) := by decide +kernel
theorem make3 (a b c : Nat) (w : World) (h1 : SetB w a (.int .i64 2) 3) (h2 : SetB w b (.int .i64 5) 3) (h3 : SetB w c (.int .i64 3) 3)
    (k : Nat) (c0 : w.cell? ⟨k, 0, none⟩ = some (.func (.func 33) #[] #[.pointer (some ⟨a, 0, none⟩)])) (c1 : w.cell? ⟨k, 1, none⟩ = some (.func (.func 32) #[] #[.pointer (some ⟨b, 0, none⟩)])) (c2 : w.cell? ⟨k, 2, none⟩ = some (.func (.func 33) #[] #[.pointer (some ⟨c, 0, none⟩)])) :
    Calls Try.prog 12 #[.slice (some ⟨k, 0, none⟩) 3 3] w fun e w' => e = .returned (.tuple #[.agg #[.int .i64 3, .int .i64 5, .bool false], .int .i64 0]) ∧ Below w.heap.size w w' := by
  have hk : k < w.heap.size := by have := World.block_lt_of_cell? w _ c0; simpa using this
  refine make_n (some ⟨k, 0, none⟩) [.mode 2, .budget 5, .mode 3] 3 3 w ⟨by decide, fun j hj => ?_⟩ (by decide) rfl
  refine ⟨⟨k, 0, none⟩, ?_⟩
  have hj3 : j = 0 ∨ j = 1 ∨ j = 2 := by simp at hj; omega
  rcases hj3 with rfl | rfl | rfl
  · exact ⟨_, rfl, hk, c0, a, rfl, h1⟩
  · exact ⟨_, rfl, hk, c1, b, rfl, h2⟩
  · exact ⟨_, rfl, hk, c2, c, rfl, h3⟩
set_option maxHeartbeats 8000000 in
set_option maxRecDepth 100000 in
theorem known_ok (w : World) : Calls Try.prog 9 #[] w fun e w' => e = .returned (.bool true) ∧ Below w.heap.size w w' := by
  have kc := fun (w : World) (C : Array Value) (n c : Nat) => Lib.run_convert_bytes_const (P := Try.prog) w 22 5 C n c Try.underlying22 Try.underlying5
  go_enter Try.func9, Try.ntmps9
  go_wp2_with fail
  refine (parse_r _ _ k1 _ _ _ _ _ _ (reads_new w .u8 k1 5 (19, 20) (by decide)) (by decide) k1_eq).mono ?_
  rintro e w1 ⟨rfl, hb1⟩
  go_wp2_with fail
  have o1 := OptB.new w1 3 7 true
  refine (mode_any 2 _).mono ?_
  rintro e w2 ⟨rfl, hs2, hb2⟩
  go_wp2_with fail
  refine (budget_any 5 _).mono ?_
  rintro e w3 ⟨rfl, hs3, hb3⟩
  go_wp2_with fail
  refine (mode_any 3 _).mono ?_
  rintro e w4 ⟨rfl, hs4, hb4⟩
  have o4 := ((o1.later hb2).later hb3).later hb4
  have hs2' := (hs2.later hb3).later hb4
  have hs3' := hs3.later hb4
  have hba : ∀ o, Below w4.heap.size w4 (w4.alloc o) := fun o => (Below.refl _ _).alloc (Nat.le_refl _) _
  go_wp2_with fail
  refine (make3 _ _ _ _ (hs2'.later (hba _)) (hs3'.later (hba _)) (hs4.later (hba _)) w4.heap.size (by simp) (by simp) (by simp)).mono ?_
  rintro e w5 ⟨rfl, hb5⟩
  have o5 := (o4.later (hba _)).later hb5
  have p5 := OptB.new w5 3 5 false
  have kc2 := kc (w5.alloc (.cells #[.int .i64 3, .int .i64 5, .bool false] 25))
  simp only [World.size_alloc] at kc2
  have q5 := o5.later ((Below.refl _ _).alloc (Nat.le_refl _) (.cells #[.int .i64 3, .int .i64 5, .bool false] 25))
  go_wp2_with fail
  have hr2 := reads_new (w5.alloc (.cells #[.int .i64 3, .int .i64 5, .bool false] 25)) .u8 k2 5 (17, 18) (by decide)
  rw [World.size_alloc] at hr2
  refine (parse_r _ _ k2 _ _ _ _ _ _ hr2 (by decide) k2_eq).mono ?_
  rintro e w6 ⟨rfl, hb6⟩
  have hbb : ∀ (u : World) o, Below u.heap.size u (u.alloc o) := fun u o => (Below.refl _ _).alloc (Nat.le_refl _) _
  have o6 := (q5.later (hbb _ _)).later hb6
  have p6 := (p5.later (hbb _ _)).later hb6
  have o7 := o6.later (hbb w6 (.cells #[.int .i64 0, .int .i64 0, .bool false] 25))
  have p7 := p6.later (hbb w6 (.cells #[.int .i64 0, .int .i64 0, .bool false] 25))
  obtain ⟨c0, c1, c2⟩ := o7.cells
  obtain ⟨d0, d1, d2⟩ := p7.cells
  go_wp2
  go_ret
  exact ⟨rfl, below_alloc (below_step (below_alloc (below_alloc (below_step (below_alloc (below_step (below_step (below_step (below_alloc (below_step (below_alloc (Below.refl _ _) _) hb1) _) hb2) hb3) hb4) _) hb5) _) _) hb6) _⟩
end Go.Proofs.Ytbiafpklgkkoaaa

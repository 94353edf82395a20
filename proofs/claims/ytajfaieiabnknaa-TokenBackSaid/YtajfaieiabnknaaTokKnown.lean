/- The walk of parquetlaw02.known: it is true. -/
import Derived.Test.YtajfaieiabnknaaTokWalk5
import Derived.Test.YtajfaieiabnknaaNumWalk2
import Derived.Lib.SlBytesConst
set_option linter.unusedVariables false
set_option linter.unusedSimpArgs false
namespace Go.Proofs.Ytajfaieiabnknaa
open Go Go.Proofs Go.RowKit Go.Shelf Go.Proofs.YtajfaieiabnknaaW.PrintWords Go.Proofs.YtajfaieiabnknaaW.PrintLast Go.Proofs.YtajfaieiabnknaaW.PrintMore

def kxs : List Int := [97, 32, 35, 32, 98, 10, 45, 49, 50, 32, 99, 35]
def kts : List S37 := [⟨0, ⟨#[97]⟩⟩, ⟨6, ⟨#[45, 49, 50]⟩⟩, ⟨10, ⟨#[99, 35]⟩⟩]
theorem kts_eq : tks kxs = kts := by decide +kernel

/-- A new row of numbers, read. -/
theorem reads_new (w : World) (k : IntKind) (xs : List Int) (e : TypeId) (fr : Nat × Nat) (hm : xs.length ≤ 9223372036854775807) :
    ReadsInt (w.alloc (.cells (nums k xs).toArray e fr)) k (some ⟨w.heap.size, 0, none⟩) xs.length xs := by
  refine ⟨rfl, hm, fun _ => ⟨_, rfl, fun j hj => ?_⟩⟩
  rw [add_plain]
  have h := World.alloc_heap_new w (.cells (nums k xs).toArray e fr)
  unfold World.cell?
  simp only [h]
  simp [nums, List.getD_eq_getElem?_getD, List.getElem?_eq_getElem hj]
theorem kreads (w : World) : ReadsInt (w.alloc (.cells #[.int .u8 97, .int .u8 32, .int .u8 35, .int .u8 32, .int .u8 98, .int .u8 10, .int .u8 45, .int .u8 49, .int .u8 50, .int .u8 32, .int .u8 99, .int .u8 35] 5 (12, 13))) .u8 (some ⟨w.heap.size, 0, none⟩) kxs.length kxs :=
  reads_new w .u8 kxs 5 (12, 13) (by decide)

theorem klit (w : World) : Kd.C k37 (w.alloc (.cells #[.int .i64 0, .string ⟨#[97]⟩, .int .i64 6, .string ⟨#[45, 49, 50]⟩, .int .i64 10, .string ⟨#[99, 35]⟩] 37)) (some ⟨w.heap.size, 0, none⟩) kts.length kts := by
  have h := World.ownsRow_lit (base := w.heap.size) (e := 37) (size := 2) w #[.int .i64 0, .string ⟨#[97]⟩, .int .i64 6, .string ⟨#[45, 49, 50]⟩, .int .i64 10, .string ⟨#[99, 35]⟩] 3 (Nat.le_refl _) (by decide) (by decide)
  have h2 : Kd.R k37 37 (w.alloc (.cells #[.int .i64 0, .string ⟨#[97]⟩, .int .i64 6, .string ⟨#[45, 49, 50]⟩, .int .i64 10, .string ⟨#[99, 35]⟩] 37)) w.heap.size (fun _ => True) (.slice (some ⟨w.heap.size, 0, none⟩) 3 3) kts :=
    toksR (l := [(0, [97]), (6, [45, 49, 50]), (10, [99, 35])]) h
  obtain ⟨A, c, he, _, hr⟩ := Kd.R_reads h2
  cases he
  exact hr

set_option maxHeartbeats 4000000 in
set_option maxRecDepth 100000 in
theorem known_ok (w : World) : Calls Try.prog 16 #[] w fun e w' => e = .returned (.bool true) ∧ Below w.heap.size w w' := by
  have kc := fun (w : World) (C : Array Value) (n c : Nat) => Lib.run_convert_bytes_const (P := Try.prog) w 22 5 C n c Try.underlying22 Try.underlying5
  go_enter Try.func16, Try.ntmps16
  go_wp2_with fail
  refine (all_ok _ 12 kxs _ (by decide) (by decide) (kreads w)).mono ?_
  rintro e w1 ⟨v1, rfl, hv1, hb1⟩
  rw [kts_eq] at hv1
  obtain ⟨A1, c1, rfl, hc1, hr1⟩ := Kd.R_reads hv1
  go_wp2_with fail
  refine (number_any _ _ _ (by decide) (by decide) (by decide)).mono ?_
  rw [show (numS (bytesOf ⟨#[45, 49, 50]⟩) 12) = (-12, 0) from by decide +kernel]
  rintro e w2 ⟨rfl, hb2⟩
  go_wp2_with fail
  refine (number_any _ _ _ (by decide) (by decide) (by decide)).mono ?_
  rw [show (numS (bytesOf ⟨#[48, 49, 51]⟩) 99) = (0, 11) from by decide +kernel]
  rintro e w3 ⟨rfl, hb3⟩
  go_wp2_with fail
  refine (number_any _ _ _ (by decide) (by decide) (by decide)).mono ?_
  rw [show (numS (bytesOf ⟨#[49, 51]⟩) 12) = (0, 10) from by decide +kernel]
  rintro e w4 ⟨rfl, hb4⟩
  go_wp2_with fail
  have hr4 := Kd.C_below (Kd.C_below (Kd.C_below hr1 hb2) hb3) hb4
  refine (same_any A1 c1 kts (some ⟨w4.heap.size, 0, none⟩) 3 kts _ (Kd.C_below hr4 ((Below.refl _ w4).alloc (Nat.le_refl _) _)) ?_).mono ?_
  · exact klit w4
  rintro e w5 ⟨rfl, hb5⟩
  rw [show eqT kts kts = true from by simp [eqT]]
  go_wp2
  go_ret
  exact ⟨rfl, below_step (below_alloc (below_step (below_step (below_step (below_step (below_alloc (Below.refl _ _) _) hb1) hb2) hb3) hb4) _) hb5.below⟩
end Go.Proofs.Ytajfaieiabnknaa

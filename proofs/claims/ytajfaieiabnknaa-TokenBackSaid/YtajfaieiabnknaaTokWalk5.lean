/- The walk of parquetref02.All: the same words. -/
import Derived.Test.YtajfaieiabnknaaTokWalk4
set_option linter.unusedVariables false
set_option linter.unusedSimpArgs false
namespace Go.Proofs.Ytajfaieiabnknaa
open Go Go.Proofs Go.RowKit Go.Shelf Go.Proofs.YtajfaieiabnknaaW.PrintWords Go.Proofs.YtajfaieiabnknaaW.PrintLast Go.Proofs.YtajfaieiabnknaaW.PrintMore

def Md.flag : Md → Bool
  | .com => true
  | _ => false
def Md.from_ : Md → Int
  | .word q _ => q
  | _ => -1
/-- The mode's bytes are those since its begin. -/
def Md.fits (xs : List Int) (k : Nat) : Md → Prop
  | .word q acc => q ≤ k ∧ acc = (xs.take k).drop q
  | _ => True

/-- What holds at a round's head of the reference's loop. -/
def RefInv (w : World) (xs : List Int) (v4 v5 v6 v7 : Value) (W : World) : Prop :=
  ∃ (k : Nat) (m : Md) (pre : List (Nat × List Int)), k ≤ xs.length + 1 ∧ v7 = .int .i64 k ∧ v5 = .bool m.flag ∧ v6 = .int .i64 m.from_ ∧ m.fits xs k ∧ (k = xs.length + 1 → m = .out) ∧
    pre ++ scan k m (xs.drop k) = toks xs ∧ W.ownsRow w.heap.size 37 2 v4 pre.length (cellsT pre) ∧ Below w.heap.size w W

/-- One byte more: the word that ends, if one does, and where the cutter stands then. -/
def stepM (k : Nat) (m : Md) (c : Int) : List (Nat × List Int) × Md :=
  match m with
  | .out => if blk c then ([], .out) else if c = 35 then ([], .com) else ([], .word k [c])
  | .com => if c = 10 then ([], .out) else ([], .com)
  | .word q acc => if blk c then ([(q, acc)], .out) else ([], .word q (acc ++ [c]))
theorem stepM_scan (xs : List Int) (k : Nat) (m : Md) (hk : k < xs.length) : scan k m (xs.drop k) = (stepM k m (xs.getD k 0)).1 ++ scan (k + 1) (stepM k m (xs.getD k 0)).2 (xs.drop (k + 1)) := by
  rw [drop_cons hk]
  generalize xs.getD k 0 = c
  cases m with
  | out => simp only [scan, stepM]; split <;> (try split) <;> simp
  | com => simp only [scan, stepM]; split <;> simp
  | word q acc => simp only [scan, stepM]; split <;> simp
theorem stepM_last (xs : List Int) (m : Md) : scan xs.length m (xs.drop xs.length) = (stepM xs.length m 10).1 ++ scan (xs.length + 1) (stepM xs.length m 10).2 (xs.drop (xs.length + 1)) ∧ (stepM xs.length m 10).2 = .out := by
  rw [List.drop_length, List.drop_of_length_le (by omega : xs.length ≤ xs.length + 1)]
  cases m <;> simp [scan, stepM, blk]
theorem stepM_fits (xs : List Int) (k : Nat) (m : Md) (hk : k < xs.length) (h : m.fits xs k) : (stepM k m (xs.getD k 0)).2.fits xs (k + 1) := by
  cases m with
  | out =>
    simp only [stepM]
    split
    · trivial
    · split
      · trivial
      · refine ⟨by omega, ?_⟩
        rw [mid_snoc (Nat.le_refl k) hk]
        simp
  | com => simp only [stepM]; split <;> trivial
  | word q acc =>
    simp only [stepM]
    split
    · trivial
    · obtain ⟨h1, h2⟩ := h
      refine ⟨by omega, ?_⟩
      rw [mid_snoc h1 hk, h2]
theorem stepM_len (k : Nat) (m : Md) (c : Int) : (stepM k m c).1.length ≤ 1 := by
  cases m <;> simp only [stepM] <;> (repeat' split) <;> simp
theorem byte_cases (c : Int) : c = 32 ∨ c = 9 ∨ c = 13 ∨ c = 10 ∨ c = 35 ∨ (blk c = false ∧ (c == 32) = false ∧ (c == 9) = false ∧ (c == 13) = false ∧ (c == 10) = false ∧ (c != 10) = true ∧ (c == 35) = false ∧ c ≠ 35 ∧ c ≠ 10) := by
  by_cases h1 : c = 32
  · exact .inl h1
  by_cases h2 : c = 9
  · exact .inr (.inl h2)
  by_cases h3 : c = 13
  · exact .inr (.inr (.inl h3))
  by_cases h4 : c = 10
  · exact .inr (.inr (.inr (.inl h4)))
  by_cases h5 : c = 35
  · exact .inr (.inr (.inr (.inr (.inl h5))))
  · exact .inr (.inr (.inr (.inr (.inr (by simp [blk, h1, h2, h3, h4, h5])))))

/-- The end of a round. -/
theorem RefInv.next {w W : World} {xs : List Int} {k : Nat} {m : Md} {pre : List (Nat × List Int)} {c : Int} {v4 v5 v6 v7 : Value} (hk : k ≤ xs.length) (hc : (k < xs.length ∧ c = xs.getD k 0) ∨ (k = xs.length ∧ c = 10)) (hf : m.fits xs k)
    (hT : pre ++ scan k m (xs.drop k) = toks xs) (hO : W.ownsRow w.heap.size 37 2 v4 (pre ++ (stepM k m c).1).length (cellsT (pre ++ (stepM k m c).1))) (hB : Below w.heap.size w W)
    (h7 : v7 = .int .i64 ((k + 1 : Nat) : Int)) (h5 : v5 = .bool (stepM k m c).2.flag) (h6 : v6 = .int .i64 (stepM k m c).2.from_) : RefInv w xs v4 v5 v6 v7 W := by
  refine ⟨k + 1, (stepM k m c).2, pre ++ (stepM k m c).1, by omega, h7, h5, h6, ?_, ?_, ?_, hO, hB⟩
  · rcases hc with ⟨h1, rfl⟩ | ⟨rfl, rfl⟩
    · exact stepM_fits xs k m h1 hf
    · rw [(stepM_last xs m).2]; trivial
  · intro e
    rcases hc with ⟨h1, rfl⟩ | ⟨rfl, rfl⟩
    · omega
    · exact (stepM_last xs m).2
  · rw [← hT, List.append_assoc]
    rcases hc with ⟨h1, rfl⟩ | ⟨rfl, rfl⟩
    · rw [stepM_scan xs k m h1]
    · rw [(stepM_last xs m).1]

set_option maxHeartbeats 4000000 in
set_option maxRecDepth 100000 in
theorem refAll_ok (A : Option Addr) (cap : Nat) (xs : List Int) (w : World) (hlen : xs.length ≤ 1048576) (hcap : xs.length ≤ cap) (hR : ReadsInt w .u8 A xs.length xs) :
    Calls Try.prog 18 #[.slice A xs.length cap] w fun e W' => ∃ v, e = .returned (.tuple #[v, .int .i64 0]) ∧ Kd.R k37 37 W' w.heap.size (fun _ => True) v (tks xs) ∧ Below w.heap.size w W' := by
  obtain ⟨i0, hi, hz0, hz1, hz2⟩ := info_parts info37
  have hl0 : decide ((xs.length : Int) > 1048576) = false := by simp; omega
  go_enter Try.func18, Try.ntmps18
  go_wp2
  go_loopw [4, 5, 6, 7] (fun v4 v5 v6 v7 W => RefInv w xs v4 v5 v6 v7 W) (fun _ _ _ v7 _ => xs.length + 1 - (intOf v7).toNat)
  case atStart => exact ⟨0, .out, [], by omega, rfl, rfl, rfl, trivial, by omega, by simp [toks], World.ownsRow_nil _ _ _ _, Below.refl _ _⟩
  case round =>
    obtain ⟨k, m, pre, hk, rfl, rfl, rfl, hf, hlast, hT, hO, hB⟩ := hrel
    by_cases hle : k ≤ xs.length
    · have hpl : pre.length ≤ xs.length := by
        have h1 := toks_length xs
        rw [← hT] at h1
        simp at h1
        omega
      have HT := Lib.hid hT
      clear hT hlast
      have hk' := hk
      clear hk
      obtain ⟨i0', hi0, hsz0⟩ := info5_
      have HB0 : Hid (∀ w1 t, (wr.alloc t).grownBy w1 u4.ownBlock → Below w.heap.size w w1) := Lib.hid fun w1 t hg => (hB.alloc hB.size _).grown hg (by have := hB.size; simp; omega) (own_base hO)
      have hrd := hR.below hB
      by_cases hlt : k < xs.length
      · obtain ⟨ad, e0, hcell⟩ := hrd.at_ (k : Int) (by omega) (by omega)
        cases e0
        rw [Int.toNat_natCast] at hcell
        obtain ⟨c, hc⟩ : ∃ c, c = xs.getD k 0 := ⟨_, rfl⟩
        rw [show rd xs (k : Int) = c from by rw [hc]; simp [rd]] at hcell
        have HC : Hid ((k < xs.length ∧ c = xs.getD k 0) ∨ (k = xs.length ∧ c = 10)) := Lib.hid (Or.inl ⟨hlt, hc⟩)
        clear hc
        cases m with
        | out =>
          have HF : Hid (Md.out.fits xs k) := Lib.hid trivial
          clear hf
          simp only [Md.from_, Md.flag]
          rcases byte_cases c with rfl | rfl | rfl | rfl | rfl | ⟨hb, h1, h2, h3, h4, h4', h5, h5', h6⟩
          · go_wp2
            go_roundw
            case rel => exact RefInv.next (m := .out) (c := 32) hle HC.out HF.out HT.out (by simpa [stepM, blk] using hO) hB (by go_num) (by simp [stepM, blk, Md.flag]) (by simp [stepM, blk, Md.from_])
            case measure => simp [intOf]; omega
          · go_wp2
            go_roundw
            case rel => exact RefInv.next (m := .out) (c := 9) hle HC.out HF.out HT.out (by simpa [stepM, blk] using hO) hB (by go_num) (by simp [stepM, blk, Md.flag]) (by simp [stepM, blk, Md.from_])
            case measure => simp [intOf]; omega
          · go_wp2
            go_roundw
            case rel => exact RefInv.next (m := .out) (c := 13) hle HC.out HF.out HT.out (by simpa [stepM, blk] using hO) hB (by go_num) (by simp [stepM, blk, Md.flag]) (by simp [stepM, blk, Md.from_])
            case measure => simp [intOf]; omega
          · go_wp2
            go_roundw
            case rel => exact RefInv.next (m := .out) (c := 10) hle HC.out HF.out HT.out (by simpa [stepM, blk] using hO) hB (by go_num) (by simp [stepM, blk, Md.flag]) (by simp [stepM, blk, Md.from_])
            case measure => simp [intOf]; omega
          · go_wp2
            go_roundw
            case rel => exact RefInv.next (m := .out) (c := 35) hle HC.out HF.out HT.out (by simpa [stepM, blk] using hO) hB (by go_num) (by simp [stepM, blk, Md.flag]) (by simp [stepM, blk, Md.from_])
            case measure => simp [intOf]; omega
          · go_wp2
            go_roundw
            case rel => exact RefInv.next (m := .out) (c := c) hle HC.out HF.out HT.out (by simpa [stepM, hb, h5', h6] using hO) hB (by go_num) (by simp [stepM, hb, h5', h6, Md.flag]) (by simp [stepM, hb, h5', h6, Md.from_])
            case measure => simp [intOf]; omega
        | com =>
          have HF : Hid (Md.com.fits xs k) := Lib.hid trivial
          clear hf
          simp only [Md.from_, Md.flag]
          rcases byte_cases c with rfl | rfl | rfl | rfl | rfl | ⟨hb, h1, h2, h3, h4, h4', h5, h5', h6⟩
          · go_wp2
            go_roundw
            case rel => exact RefInv.next (m := .com) (c := 32) hle HC.out HF.out HT.out (by simpa [stepM, blk] using hO) hB (by go_num) (by simp [stepM, blk, Md.flag]) (by simp [stepM, blk, Md.from_])
            case measure => simp [intOf]; omega
          · go_wp2
            go_roundw
            case rel => exact RefInv.next (m := .com) (c := 9) hle HC.out HF.out HT.out (by simpa [stepM, blk] using hO) hB (by go_num) (by simp [stepM, blk, Md.flag]) (by simp [stepM, blk, Md.from_])
            case measure => simp [intOf]; omega
          · go_wp2
            go_roundw
            case rel => exact RefInv.next (m := .com) (c := 13) hle HC.out HF.out HT.out (by simpa [stepM, blk] using hO) hB (by go_num) (by simp [stepM, blk, Md.flag]) (by simp [stepM, blk, Md.from_])
            case measure => simp [intOf]; omega
          · go_wp2
            go_roundw
            case rel => exact RefInv.next (m := .com) (c := 10) hle HC.out HF.out HT.out (by simpa [stepM, blk] using hO) hB (by go_num) (by simp [stepM, blk, Md.flag]) (by simp [stepM, blk, Md.from_])
            case measure => simp [intOf]; omega
          · go_wp2
            go_roundw
            case rel => exact RefInv.next (m := .com) (c := 35) hle HC.out HF.out HT.out (by simpa [stepM, blk] using hO) hB (by go_num) (by simp [stepM, blk, Md.flag]) (by simp [stepM, blk, Md.from_])
            case measure => simp [intOf]; omega
          · go_wp2
            go_roundw
            case rel => exact RefInv.next (m := .com) (c := c) hle HC.out HF.out HT.out (by simpa [stepM, hb, h5', h6] using hO) hB (by go_num) (by simp [stepM, hb, h5', h6, Md.flag]) (by simp [stepM, hb, h5', h6, Md.from_])
            case measure => simp [intOf]; omega
        | word q acc =>
          have HF := Lib.hid (show (Md.word q acc).fits xs k from hf)
          obtain ⟨hq1, hq2⟩ := hf
          have HQ := Lib.hid hq2
          clear hq2
          obtain ⟨A', hsl, hrm, _⟩ := print_mid_int (k := .u8) 22 5 Try.underlying22 hi0 hsz0 (some ad) cap xs (q : Int) (k : Int) (by omega) (by omega) (by omega) hcap
          simp only [Int.toNat_natCast] at hsl hrm
          have hrm' := hrm _ hrd
          rw [← HQ.out] at hsl hrm'
          have hst := string_of_reads (P := Try.prog) (c := cap - q) (dst := 9) Try.underlying22 Try.underlying5 Try.underlying9 hrm'
          clear hrm hrm'
          simp only [Md.from_, Md.flag]
          rcases byte_cases c with rfl | rfl | rfl | rfl | rfl | ⟨hb, h1, h2, h3, h4, h4', h5, h5', h6⟩
          · go_wp2_with (at_builtin; refine wpList_append_own _ rfl _ _ 24 rfl w.heap.size 37 i0 _ 2 24 Try.underlying24 hi hz0 hz1 hz2 rfl (by decide) _ _ _ rfl (hO.alloc _) ⟨wr.heap.size, 0, none⟩ 1 1 [.int .i64 (q : Int), .string (strOfNums acc)] rfl rfl (cell_two_new _ _ _ _) (by simp [Value.oneCell']) (by unfold maxLen; omega) (by omega) (by have := hB.size; simp; omega) ?_; intro v' w1 hown' hgrow _; have hB' := HB0.out w1 _ hgrow)
            go_roundw
            case rel => exact RefInv.next (m := (.word q acc)) (c := 32) hle HC.out HF.out HT.out (by rw [show (stepM k (.word q acc) 32).1 = [(q, acc)] from by simp [stepM, blk], cellsT_snoc]; simpa using hown') hB' (by go_num) (by simp [stepM, blk, Md.flag]) (by simp [stepM, blk, Md.from_])
            case measure => simp [intOf]; omega
          · go_wp2_with (at_builtin; refine wpList_append_own _ rfl _ _ 24 rfl w.heap.size 37 i0 _ 2 24 Try.underlying24 hi hz0 hz1 hz2 rfl (by decide) _ _ _ rfl (hO.alloc _) ⟨wr.heap.size, 0, none⟩ 1 1 [.int .i64 (q : Int), .string (strOfNums acc)] rfl rfl (cell_two_new _ _ _ _) (by simp [Value.oneCell']) (by unfold maxLen; omega) (by omega) (by have := hB.size; simp; omega) ?_; intro v' w1 hown' hgrow _; have hB' := HB0.out w1 _ hgrow)
            go_roundw
            case rel => exact RefInv.next (m := (.word q acc)) (c := 9) hle HC.out HF.out HT.out (by rw [show (stepM k (.word q acc) 9).1 = [(q, acc)] from by simp [stepM, blk], cellsT_snoc]; simpa using hown') hB' (by go_num) (by simp [stepM, blk, Md.flag]) (by simp [stepM, blk, Md.from_])
            case measure => simp [intOf]; omega
          · go_wp2_with (at_builtin; refine wpList_append_own _ rfl _ _ 24 rfl w.heap.size 37 i0 _ 2 24 Try.underlying24 hi hz0 hz1 hz2 rfl (by decide) _ _ _ rfl (hO.alloc _) ⟨wr.heap.size, 0, none⟩ 1 1 [.int .i64 (q : Int), .string (strOfNums acc)] rfl rfl (cell_two_new _ _ _ _) (by simp [Value.oneCell']) (by unfold maxLen; omega) (by omega) (by have := hB.size; simp; omega) ?_; intro v' w1 hown' hgrow _; have hB' := HB0.out w1 _ hgrow)
            go_roundw
            case rel => exact RefInv.next (m := (.word q acc)) (c := 13) hle HC.out HF.out HT.out (by rw [show (stepM k (.word q acc) 13).1 = [(q, acc)] from by simp [stepM, blk], cellsT_snoc]; simpa using hown') hB' (by go_num) (by simp [stepM, blk, Md.flag]) (by simp [stepM, blk, Md.from_])
            case measure => simp [intOf]; omega
          · go_wp2_with (at_builtin; refine wpList_append_own _ rfl _ _ 24 rfl w.heap.size 37 i0 _ 2 24 Try.underlying24 hi hz0 hz1 hz2 rfl (by decide) _ _ _ rfl (hO.alloc _) ⟨wr.heap.size, 0, none⟩ 1 1 [.int .i64 (q : Int), .string (strOfNums acc)] rfl rfl (cell_two_new _ _ _ _) (by simp [Value.oneCell']) (by unfold maxLen; omega) (by omega) (by have := hB.size; simp; omega) ?_; intro v' w1 hown' hgrow _; have hB' := HB0.out w1 _ hgrow)
            go_roundw
            case rel => exact RefInv.next (m := (.word q acc)) (c := 10) hle HC.out HF.out HT.out (by rw [show (stepM k (.word q acc) 10).1 = [(q, acc)] from by simp [stepM, blk], cellsT_snoc]; simpa using hown') hB' (by go_num) (by simp [stepM, blk, Md.flag]) (by simp [stepM, blk, Md.from_])
            case measure => simp [intOf]; omega
          · go_wp2
            go_roundw
            case rel => exact RefInv.next (m := (.word q acc)) (c := 35) hle HC.out HF.out HT.out (by simpa [stepM, blk] using hO) hB (by go_num) (by simp [stepM, blk, Md.flag]) (by simp [stepM, blk, Md.from_])
            case measure => simp [intOf]; omega
          · go_wp2
            go_roundw
            case rel => exact RefInv.next (m := (.word q acc)) (c := c) hle HC.out HF.out HT.out (by simpa [stepM, hb, h5', h6] using hO) hB (by go_num) (by simp [stepM, hb, h5', h6, Md.flag]) (by simp [stepM, hb, h5', h6, Md.from_])
            case measure => simp [intOf]; omega
      · have hke : k = xs.length := by omega
        have HC : Hid ((k < xs.length ∧ (10 : Int) = xs.getD k 0) ∨ (k = xs.length ∧ (10 : Int) = 10)) := Lib.hid (Or.inr ⟨hke, rfl⟩)
        clear hke
        cases m with
        | out =>
          have HF : Hid (Md.out.fits xs k) := Lib.hid trivial
          clear hf
          simp only [Md.from_, Md.flag]
          · go_wp2
            go_roundw
            case rel => exact RefInv.next (m := .out) (c := 10) hle HC.out HF.out HT.out (by simpa [stepM, blk] using hO) hB (by go_num) (by simp [stepM, blk, Md.flag]) (by simp [stepM, blk, Md.from_])
            case measure => simp [intOf]; omega
        | com =>
          have HF : Hid (Md.com.fits xs k) := Lib.hid trivial
          clear hf
          simp only [Md.from_, Md.flag]
          · go_wp2
            go_roundw
            case rel => exact RefInv.next (m := .com) (c := 10) hle HC.out HF.out HT.out (by simpa [stepM, blk] using hO) hB (by go_num) (by simp [stepM, blk, Md.flag]) (by simp [stepM, blk, Md.from_])
            case measure => simp [intOf]; omega
        | word q acc =>
          have HF := Lib.hid (show (Md.word q acc).fits xs k from hf)
          obtain ⟨hq1, hq2⟩ := hf
          have HQ := Lib.hid hq2
          clear hq2
          obtain ⟨A', hsl, hrm, _⟩ := print_mid_int (k := .u8) 22 5 Try.underlying22 hi0 hsz0 A cap xs (q : Int) (k : Int) (by omega) (by omega) (by omega) hcap
          simp only [Int.toNat_natCast] at hsl hrm
          have hrm' := hrm _ hrd
          rw [← HQ.out] at hsl hrm'
          have hst := string_of_reads (P := Try.prog) (c := cap - q) (dst := 9) Try.underlying22 Try.underlying5 Try.underlying9 hrm'
          clear hrm hrm'
          simp only [Md.from_, Md.flag]
          · go_wp2_with (at_builtin; refine wpList_append_own _ rfl _ _ 24 rfl w.heap.size 37 i0 _ 2 24 Try.underlying24 hi hz0 hz1 hz2 rfl (by decide) _ _ _ rfl (hO.alloc _) ⟨wr.heap.size, 0, none⟩ 1 1 [.int .i64 (q : Int), .string (strOfNums acc)] rfl rfl (cell_two_new _ _ _ _) (by simp [Value.oneCell']) (by unfold maxLen; omega) (by omega) (by have := hB.size; simp; omega) ?_; intro v' w1 hown' hgrow _; have hB' := HB0.out w1 _ hgrow)
            go_roundw
            case rel => exact RefInv.next (m := (.word q acc)) (c := 10) hle HC.out HF.out HT.out (by rw [show (stepM k (.word q acc) 10).1 = [(q, acc)] from by simp [stepM, blk], cellsT_snoc]; simpa using hown') hB' (by go_num) (by simp [stepM, blk, Md.flag]) (by simp [stepM, blk, Md.from_])
            case measure => simp [intOf]; omega
    · obtain rfl : k = xs.length + 1 := by omega
      obtain rfl := hlast rfl
      go_wp2
      go_ret2
      refine ⟨_, rfl, toksR (l := toks xs) ?_, hB⟩
      have h1 : pre = toks xs := by rw [← hT, List.drop_of_length_le (by omega)]; simp [scan]
      rw [← h1]
      exact hO
end Go.Proofs.Ytajfaieiabnknaa

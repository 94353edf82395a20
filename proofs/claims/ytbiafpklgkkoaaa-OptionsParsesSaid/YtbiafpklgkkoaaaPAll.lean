/- parquetref02.All, as the print tells it: the words of the bytes. -/
import Derived.Test.YtbiafpklgkkoaaaTokWalk3
import Derived.Test.YtbiafpklgkkoaaaMT2
set_option linter.unusedVariables false
set_option linter.unusedSimpArgs false
namespace Go.Proofs.Ytbiafpklgkkoaaa
open Go Go.RowKit Go.Shelf Go.Proofs.Ytbiafpklgkkoaaa.MT Go.Proofs.YtbiafpklgkkoaaaW.PrintWords Go.Proofs.YtbiafpklgkkoaaaW.PrintLast

def Md.flag : Md → Bool
  | .com => true
  | _ => false
def Md.from_ : Md → Int
  | .word q _ => q
  | _ => -1
/-- The mode's bytes are those since its begin. -/
def Md.fits (xs : List Int) (k : Nat) : Md → Prop
  | .word q acc => q ≤ k ∧ acc = (xs.take k).drop q
  | _ => True

/-- One byte more: the word that ends, if one does, and where the cutter stands then. -/
def stepM (k : Nat) (m : Md) (c : Int) : List (Nat × List Int) × Md :=
  match m with
  | .out => if blk c then ([], .out) else if c = 35 then ([], .com) else ([], .word k [c])
  | .com => if c = 10 then ([], .out) else ([], .com)
  | .word q acc => if blk c then ([(q, acc)], .out) else ([], .word q (acc ++ [c]))
theorem stepM_scan (xs : List Int) (k : Nat) (m : Md) (hk : k < xs.length) : scan k m (xs.drop k) = (stepM k m (xs.getD k 0)).1 ++ scan (k + 1) (stepM k m (xs.getD k 0)).2 (xs.drop (k + 1)) := by
  rw [drop_cons hk]
  generalize xs.getD k 0 = c
  cases m with
  | out => simp only [scan, stepM]; split <;> (try split) <;> simp
  | com => simp only [scan, stepM]; split <;> simp
  | word q acc => simp only [scan, stepM]; split <;> simp
theorem stepM_last (xs : List Int) (m : Md) : scan xs.length m (xs.drop xs.length) = (stepM xs.length m 10).1 ++ scan (xs.length + 1) (stepM xs.length m 10).2 (xs.drop (xs.length + 1)) ∧ (stepM xs.length m 10).2 = .out := by
  rw [List.drop_length, List.drop_of_length_le (by omega : xs.length ≤ xs.length + 1)]
  cases m <;> simp [scan, stepM, blk]
theorem stepM_fits (xs : List Int) (k : Nat) (m : Md) (hk : k < xs.length) (h : m.fits xs k) : (stepM k m (xs.getD k 0)).2.fits xs (k + 1) := by
  cases m with
  | out =>
    simp only [stepM]
    split
    · trivial
    · split
      · trivial
      · refine ⟨by omega, ?_⟩
        rw [mid_snoc (Nat.le_refl k) hk]
        simp
  | com => simp only [stepM]; split <;> trivial
  | word q acc =>
    simp only [stepM]
    split
    · trivial
    · obtain ⟨h1, h2⟩ := h
      refine ⟨by omega, ?_⟩
      rw [mid_snoc h1 hk, h2]
theorem stepM_len (k : Nat) (m : Md) (c : Int) : (stepM k m c).1.length ≤ 1 := by
  cases m <;> simp only [stepM] <;> (repeat' split) <;> simp
theorem byte_cases (c : Int) : c = 32 ∨ c = 9 ∨ c = 13 ∨ c = 10 ∨ c = 35 ∨ (blk c = false ∧ (c == 32) = false ∧ (c == 9) = false ∧ (c == 13) = false ∧ (c == 10) = false ∧ (c != 10) = true ∧ (c == 35) = false ∧ c ≠ 35 ∧ c ≠ 10) := by
  by_cases h1 : c = 32
  · exact .inl h1
  by_cases h2 : c = 9
  · exact .inr (.inl h2)
  by_cases h3 : c = 13
  · exact .inr (.inr (.inl h3))
  by_cases h4 : c = 10
  · exact .inr (.inr (.inr (.inl h4)))
  by_cases h5 : c = 35
  · exact .inr (.inr (.inr (.inr (.inl h5))))
  · exact .inr (.inr (.inr (.inr (.inr (by simp [blk, h1, h2, h3, h4, h5])))))

abbrev S60' := MT.S60
def t60 (x : Nat × List Int) : S60' := ⟨(x.1 : Int), strOfNums x.2⟩
theorem w64 {x : Int} (h0 : -9223372036854775808 ≤ x) (h1 : x ≤ 9223372036854775807) : wrap64 x = x := by
  unfold wrap64
  omega
set_option maxHeartbeats 1000000 in
theorem all_j1 (xs : List Int) (k : Nat) (m : Md) (c : Int) (pre : List (Nat × List Int)) (hk : k ≤ xs.length) (hl : xs.length ≤ 1048576) (hp : pre.length ≤ k) (hf : m.fits xs k) {r : List S60' × Int}
    (h : Ev (fun q => parquetref02_All.l0 q xs ((pre ++ (stepM k m c).1).map t60) (stepM k m c).2.flag (stepM k m c).2.from_ ((k : Int) + 1)) r) :
    Ev (fun q => parquetref02_All.j1 q xs (pre.map t60) m.flag m.from_ (k : Int) c) r := by
  have hw : wrap64 ((k : Int) + 1) = (k : Int) + 1 := w64 (by omega) (by omega)
  have hb : Ev (fun q => parquetref02_All.j2 q xs (pre.map t60) m.flag m.from_ (k : Int) c (blk c)) r := by
    cases m with
    | com =>
      refine Ev.step (fun q => ?_) h
      by_cases h10 : c = 10
      · subst h10
        simp [parquetref02_All.j2, stepM, Md.flag, Md.from_, hw]
      · have e : (c != 10) = true := by simp [h10]
        simp [parquetref02_All.j2, stepM, Md.flag, Md.from_, hw, h10, e]
    | out =>
      refine Ev.step (f := fun q => parquetref02_All.j3 q xs (pre.map t60) false (-1) (k : Int) c (blk c) false) (fun q => by simp [parquetref02_All.j2, Md.flag, Md.from_]) ?_
      refine Ev.step (f := fun q => parquetref02_All.j4 q xs (pre.map t60) false (-1) (k : Int) (blk c) (c == 35)) (fun q => by simp [parquetref02_All.j3]) ?_
      refine Ev.step (fun q => ?_) h
      by_cases h35 : c = 35
      · subst h35
        simp [parquetref02_All.j4, stepM, Md.flag, Md.from_, hw, blk]
      · cases hbk : blk c with
        | true => simp [parquetref02_All.j4, stepM, Md.flag, Md.from_, hw, h35, hbk]
        | false => simp [parquetref02_All.j4, stepM, Md.flag, Md.from_, hw, h35, hbk]
    | word p acc =>
      obtain ⟨h1, h2⟩ := hf
      refine Ev.step (f := fun q => parquetref02_All.j3 q xs (pre.map t60) false (p : Int) (k : Int) c (blk c) (blk c)) (fun q => by simp [parquetref02_All.j2, Md.flag, Md.from_]) ?_
      cases hbk : blk c with
      | true =>
        refine Ev.step (fun q => ?_) h
        have e : t60 (p, acc) = (⟨(p : Int), strOfNums ((xs.take (k : Int).toNat).drop (p : Int).toNat)⟩ : S60') := by
          rw [h2]; rfl
        simp only [parquetref02_All.j3, if_true]
        rw [if_pos (by omega), if_pos (by omega), if_pos (by omega), if_pos (by simp; omega)]
        simp only [stepM, hbk, if_true, List.map_append, List.map_cons, List.map_nil, e, Md.flag, Md.from_, hw]
      | false =>
        refine Ev.step (f := fun q => parquetref02_All.j4 q xs (pre.map t60) false (p : Int) (k : Int) false false) (fun q => by
          simp only [parquetref02_All.j3]
          rw [if_neg (by decide), if_neg (by omega)]) ?_
        refine Ev.step (fun q => ?_) h
        simp only [parquetref02_All.j4]
        rw [if_neg (by decide), if_neg (by omega)]
        simp [stepM, hbk, Md.flag, Md.from_, hw]
  by_cases h1 : c = 32
  · subst h1; exact Ev.step (fun q => by simp [parquetref02_All.j1, blk]) hb
  · by_cases h2 : c = 9
    · subst h2; exact Ev.step (fun q => by simp [parquetref02_All.j1, blk]) hb
    · by_cases h3 : c = 13
      · subst h3; exact Ev.step (fun q => by simp [parquetref02_All.j1, blk]) hb
      · have e : blk c = (c == 10) := by simp [blk, h1, h2, h3]
        rw [e] at hb
        exact Ev.step (fun q => by simp [parquetref02_All.j1, h1, h2, h3]) hb
theorem all_l0 (xs : List Int) (hl : xs.length ≤ 1048576) : ∀ (n k : Nat) (m : Md) (pre : List (Nat × List Int)), k ≤ xs.length + 1 → xs.length + 1 - k ≤ n → m.fits xs k → (k = xs.length + 1 → m = .out) → pre.length ≤ k →
    Ev (fun q => parquetref02_All.l0 q xs (pre.map t60) m.flag m.from_ (k : Int)) ((pre ++ scan k m (xs.drop k)).map t60, 0) := by
  intro n
  induction n with
  | zero =>
    intro k m pre hk hn hf hlast hp
    obtain rfl : k = xs.length + 1 := by omega
    obtain rfl := hlast rfl
    refine Ev.step (f := fun _ => some (pre.map t60, 0)) (fun q => ?_) ?_
    · simp only [parquetref02_All.l0]
      rw [if_neg (by omega)]
    · rw [List.drop_of_length_le (by omega)]
      simp only [scan, List.append_nil]
      exact Ev.now _
  | succ n ih =>
    intro k m pre hk hn hf hlast hp
    by_cases he : k = xs.length + 1
    · subst he
      obtain rfl := hlast rfl
      refine Ev.step (f := fun _ => some (pre.map t60, 0)) (fun q => ?_) ?_
      · simp only [parquetref02_All.l0]
        rw [if_neg (by omega)]
      · rw [List.drop_of_length_le (by omega)]
        simp only [scan, List.append_nil]
        exact Ev.now _
    · by_cases hlt : k < xs.length
      · have hc : rd xs (k : Int) = xs.getD k 0 := by simp [rd]
        refine Ev.step (f := fun q => parquetref02_All.j1 q xs (pre.map t60) m.flag m.from_ (k : Int) (xs.getD k 0)) (fun q => ?_) ?_
        · simp only [parquetref02_All.l0]
          rw [if_pos (by omega), if_pos (by omega), if_pos (by omega), hc]
        · refine all_j1 xs k m _ pre (by omega) hl hp hf ?_
          have h2 := ih (k + 1) (stepM k m (xs.getD k 0)).2 (pre ++ (stepM k m (xs.getD k 0)).1) (by omega) (by omega) (stepM_fits xs k m hlt hf) (fun h => by omega) (by have := stepM_len k m (xs.getD k 0); rw [List.length_append]; omega)
          rw [List.append_assoc, ← stepM_scan xs k m hlt] at h2
          exact h2
      · obtain rfl : k = xs.length := by omega
        refine Ev.step (f := fun q => parquetref02_All.j1 q xs (pre.map t60) m.flag m.from_ (xs.length : Int) 10) (fun q => ?_) ?_
        · simp only [parquetref02_All.l0]
          rw [if_pos (by omega), if_neg (by omega)]
        · refine all_j1 xs xs.length m _ pre (by omega) hl hp hf ?_
          obtain ⟨hs, ho⟩ := stepM_last xs m
          have h2 := ih (xs.length + 1) (stepM xs.length m 10).2 (pre ++ (stepM xs.length m 10).1) (by omega) (by omega) (by rw [ho]; trivial) (fun _ => ho) (by have := stepM_len xs.length m 10; rw [List.length_append]; omega)
          rw [List.append_assoc, ← hs] at h2
          exact h2
/-- The document's own words are the chapter's. -/
theorem all_ev (xs : List Int) (hl : xs.length ≤ 1048576) : Ev (fun q => parquetref02_All.f q xs) ((toks xs).map t60, 0) := by
  refine Ev.congr (f := fun q => parquetref02_All.l0 q xs (([] : List (Nat × List Int)).map t60) Md.out.flag Md.out.from_ ((0 : Nat) : Int)) (fun q => ?_) ?_
  · unfold parquetref02_All.f
    rw [if_neg (by omega)]
    rfl
  · have h := all_l0 xs hl (xs.length + 1) 0 .out [] (by omega) (by omega) trivial (fun h => by omega) (by simp)
    simpa [toks] using h
end Go.Proofs.Ytbiafpklgkkoaaa

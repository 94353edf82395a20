/- Plain words on parquetref02.Number: what the document's own answer computes is what the chapter says. -/
import Derived.Test.YtbiafpklgkkoaaaNumWalk2
import Derived.Test.YtbiafpklgkkoaaaPNum3
import Derived.Test.YtbiafpklgkkoaaaMT7
set_option linter.unusedVariables false
set_option linter.unusedSimpArgs false
namespace Go.Proofs.Ytbiafpklgkkoaaa
open Go Go.RowKit Go.Proofs.Ytbiafpklgkkoaaa.MT Go.Proofs.YtbiafpklgkkoaaaW.PrintWords Go.Proofs.YtbiafpklgkkoaaaW.PrintLast

/-- A byte that a number may hold at this place. -/
def OkC (s : ByteArray) (j : Nat) : Prop := ∀ h : j < s.size, (48 ≤ (s[j]'h).toNat ∧ (s[j]'h).toNat ≤ 57) ∨ (j = 0 ∧ (s[j]'h).toNat = 45)
theorem isD_mem {l : List Int} {c : Int} (h : c ∈ l) (hc : ¬ (48 ≤ c ∧ c ≤ 57)) : isD l = false := by
  cases hd : isD l with
  | false => rfl
  | true =>
    unfold isD at hd
    rw [List.all_eq_true] at hd
    have := hd c h
    simp at this
    exact absurd this hc
theorem byte_at (s : ByteArray) (i : Nat) (h : i < s.size) : (bytesOf s)[i]? = some ((s[i]'h).toNat : Int) := by
  rw [List.getElem?_eq_getElem (by rw [bytesOf_length]; exact h)]
  simp [bytesOf]
  rfl
theorem bad_num (s : ByteArray) (most : Int) (i : Nat) (h : i < s.size) (hb : ¬ ((48 ≤ (s[i]'h).toNat ∧ (s[i]'h).toNat ≤ 57) ∨ (i = 0 ∧ (s[i]'h).toNat = 45))) : numS (bytesOf s) most = (0, 11) := by
  refine numS_bad (.inr (.inr ?_))
  have h1 := byte_at s i h
  have hm : ¬ (48 ≤ ((s[i]'h).toNat : Int) ∧ ((s[i]'h).toNat : Int) ≤ 57) := by omega
  unfold digsOf
  split
  · rename_i h45
    rw [List.head?_eq_getElem?, byte_at s 0 (by omega)] at h45
    have hi : i ≠ 0 := by
      intro h0
      subst h0
      have : ((s[0]'h).toNat : Int) = 45 := Option.some.inj h45
      omega
    refine isD_mem (c := ((s[i]'h).toNat : Int)) ?_ hm
    obtain ⟨k, rfl⟩ : ∃ k, i = k + 1 := ⟨i - 1, by omega⟩
    refine List.mem_of_getElem? (i := k) ?_
    rw [List.getElem?_tail]
    exact h1
  · exact isD_mem (List.mem_of_getElem? h1) hm
theorem good_num (s : ByteArray) (h : ∀ j, j < s.size → OkC s j) : isD (digsOf (bytesOf s)) = true := by
  unfold isD
  rw [List.all_eq_true]
  intro c hc
  unfold digsOf at hc
  split at hc
  · obtain ⟨k, hk⟩ := List.getElem?_of_mem hc
    rw [List.getElem?_tail] at hk
    have hks : k + 1 < s.size := by
      rw [← bytesOf_length]
      exact (List.getElem?_eq_some_iff.1 hk).1
    rw [byte_at s (k + 1) hks] at hk
    have h1 := h (k + 1) hks hks
    have h2 : ((s[k + 1]'hks).toNat : Int) = c := Option.some.inj hk
    simp
    omega
  · rename_i h45
    obtain ⟨k, hk⟩ := List.getElem?_of_mem hc
    have hks : k < s.size := by
      rw [← bytesOf_length]
      exact (List.getElem?_eq_some_iff.1 hk).1
    rw [byte_at s k hks] at hk
    have h1 := h k hks hks
    have h2 : ((s[k]'hks).toNat : Int) = c := Option.some.inj hk
    rcases h1 with h1 | ⟨h0, h1⟩
    · simp
      omega
    · subst h0
      exfalso
      apply h45
      rw [List.head?_eq_getElem?, byte_at s 0 hks, h1]
      rfl
theorem bt_nat (s : ByteArray) (i : Nat) (h : i < s.size) : bt s (i : Int) = ((s[i]'h).toNat : Int) := by
  unfold bt
  rw [dif_pos (by simpa using h)]
  simp
theorem bt_byte (s : ByteArray) (i : Nat) (h : i < s.size) : (bytesOf s).getD i 0 = bt s (i : Int) := by
  rw [List.getD_eq_getElem?_getD, byte_at s i h, bt_nat s i h]; rfl
theorem val_ge_pow (t : List Int) (h : isD t = true) (n : Int) (hn : 1 ≤ n) : (10 : Int) ^ t.length ≤ t.foldl (fun n c => 10 * n + (c - 48)) n := by
  induction t generalizing n with
  | nil => simpa using hn
  | cons c t ih =>
    simp [isD] at h
    have h1 := ih (by simpa [isD] using h.2) (10 * n + (c - 48)) (by omega)
    have hp : (0 : Int) < 10 ^ t.length := Int.pow_pos (by decide)
    simp only [List.length_cons, List.foldl_cons]
    -- the fold grows by ten for each digit
    have h2 : ∀ (t : List Int), isD t = true → ∀ a b : Int, a ≤ b → t.foldl (fun n c => 10 * n + (c - 48)) a + 10 ^ t.length * (b - a) ≤ t.foldl (fun n c => 10 * n + (c - 48)) b := by
      intro t
      induction t with
      | nil => intro _ a b hab; simp; omega
      | cons c t ih2 =>
        intro ht a b hab
        simp [isD] at ht
        have := ih2 (by simpa [isD] using ht.2) (10 * a + (c - 48)) (10 * b + (c - 48)) (by omega)
        simp only [List.length_cons, List.foldl_cons, Int.pow_succ]
        rw [show (10 : Int) ^ t.length * 10 * (b - a) = 10 ^ t.length * (10 * b + (c - 48) - (10 * a + (c - 48))) by grind]
        exact this
    have h3 := h2 t (by simpa [isD] using h.2) 1 (10 * n + (c - 48)) (by omega)
    have h4 := ih (by simpa [isD] using h.2) 1 (by omega)
    have h5 := Int.mul_le_mul_of_nonneg_left (show (9 : Int) ≤ 10 * n + (c - 48) - 1 by omega) (Int.le_of_lt hp)
    rw [Int.pow_succ]
    omega
theorem val_big {l : List Int} (h : isD l = true) (h0 : l.head? ≠ some 48) (hl : 0 < l.length) : (10 : Int) ^ (l.length - 1) ≤ valD l := by
  cases l with
  | nil => simp at hl
  | cons c t =>
    simp [isD] at h
    have hc : c ≠ 48 := fun e => h0 (by rw [e]; rfl)
    have := val_ge_pow t (by simpa [isD] using h.2) (10 * 0 + (c - 48)) (by omega)
    simpa [valD] using this
theorem w64_step (x b : Int) (h0 : 0 ≤ x) (h1 : x ≤ 9223372036854775807) (hb : 48 ≤ b ∧ b ≤ 57) (h : x * 10 + (b - 48) ≤ 9223372036854775807) : wrap64 (wrap64 (wrap64 (x * 10) + wrap64 b) - 48) = x * 10 + (b - 48) := by
  unfold wrap64
  omega
theorem isD_at {l : List Int} (h : isD l = true) (i : Nat) (hi : i < l.length) : 48 ≤ l.getD i 0 ∧ l.getD i 0 ≤ 57 := by
  unfold isD at h
  rw [List.all_eq_true] at h
  rw [List.getD_eq_getElem?_getD, List.getElem?_eq_getElem hi]
  have := h _ (List.getElem_mem hi)
  simpa using this
theorem take_snoc' (l : List Int) (i : Nat) (hi : i < l.length) : l.take (i + 1) = l.take i ++ [l.getD i 0] := by
  rw [List.take_succ_eq_append_getElem hi, List.getD_eq_getElem?_getD, List.getElem?_eq_getElem hi]
  rfl
theorem isD_take {l : List Int} (h : isD l = true) (i : Nat) : isD (l.take i) = true := (isD_of_prefix (l := l.take i) (m := l.drop i) (by rw [List.take_append_drop]; exact h)).1
theorem valD_take_le {l : List Int} (h : isD l = true) (i : Nat) : valD (l.take i) ≤ valD l := by
  have := valD_mono (l := l.take i) (m := l.drop i) (by rw [List.take_append_drop]; exact h)
  rwa [List.take_append_drop] at this

/-- The last loop: the number itself. -/
theorem num_l2 (s ds : ByteArray) (hD : isD (bytesOf ds) = true) (hs : s.size ≤ 1000000) (hl : ds.size ≤ s.size) (hv : valD (bytesOf ds) ≤ 9223372036854775807) : ∀ (m i : Nat), i ≤ ds.size → ds.size - i ≤ m →
    Ev (fun k => parquetref02_Number.l2 k s ds (valD ((bytesOf ds).take i)) (i : Int)) (if ds.size < s.size then -valD (bytesOf ds) else valD (bytesOf ds), 0) := by
  have hlen := bytesOf_length ds
  intro m
  induction m with
  | zero =>
    intro i hi hm
    obtain rfl : i = ds.size := by omega
    rw [List.take_of_length_le (by omega)]
    have h0 := valD_nonneg hD
    by_cases h : ds.size < s.size
    · rw [if_pos h]
      refine Ev.step (f := fun _ => some (-valD (bytesOf ds), 0)) (fun k => ?_) (Ev.now _)
      simp only [parquetref02_Number.l2]
      rw [if_neg (by omega), if_pos (by omega), w64 (by omega) (by omega)]
    · rw [if_neg h]
      refine Ev.step (f := fun _ => some (valD (bytesOf ds), 0)) (fun k => ?_) (Ev.now _)
      simp only [parquetref02_Number.l2]
      rw [if_neg (by omega), if_neg (by omega)]
  | succ m ih =>
    intro i hi hm
    by_cases he : i = ds.size
    · exact ih i hi (by omega)
    · have hil : i < ds.size := by omega
      have hb := isD_at hD i (by omega)
      have h0 := valD_nonneg (isD_take hD i)
      have h1 := valD_take_le hD i
      have h2 := valD_take_le hD (i + 1)
      have hsn : valD ((bytesOf ds).take (i + 1)) = 10 * valD ((bytesOf ds).take i) + ((bytesOf ds).getD i 0 - 48) := by rw [take_snoc' _ i (by omega), valD_snoc]
      rw [bt_byte ds i hil] at hsn hb
      refine Ev.step (f := fun k => parquetref02_Number.l2 k s ds (valD ((bytesOf ds).take (i + 1))) ((i + 1 : Nat) : Int)) (fun k => ?_) (ih (i + 1) (by omega) (by omega))
      simp only [parquetref02_Number.l2]
      rw [if_pos (by omega), if_pos (by omega), w64_step _ _ h0 (by omega) hb (by omega), w64 (x := (i : Int) + 1) (by omega) (by omega), hsn, show valD ((bytesOf ds).take i) * 10 + (bt ds (i : Int) - 48) = 10 * valD ((bytesOf ds).take i) + (bt ds (i : Int) - 48) by omega]
      rfl
theorem fold_lt (t : List Int) (h : isD t = true) : ∀ n : Int, 0 ≤ n → t.foldl (fun n c => 10 * n + (c - 48)) n < 10 ^ t.length * (n + 1) := by
  induction t with
  | nil => intro n hn; simp; omega
  | cons c t ih =>
    intro n hn
    simp [isD] at h
    have h1 := ih (by simpa [isD] using h.2) (10 * n + (c - 48)) (by omega)
    have hp : (0 : Int) < 10 ^ t.length := Int.pow_pos (by decide)
    have h5 := Int.mul_le_mul_of_nonneg_left (show 10 * n + (c - 48) + 1 ≤ 10 * (n + 1) by omega) (Int.le_of_lt hp)
    simp only [List.length_cons, List.foldl_cons, Int.pow_succ]
    rw [Int.mul_assoc]
    omega
theorem valD_lt_pow {t : List Int} (h : isD t = true) : valD t < 10 ^ t.length := by
  have := fold_lt t h 0 (by omega)
  rw [Int.zero_add, Int.mul_one] at this
  exact this
theorem pow10_30 : (9223372036854775807 : Int) < 10 ^ 30 := by decide
/-- The loop that reads up to thirty digits, and the comparison behind it. -/
theorem num_l1 (s ds : ByteArray) (most : Int) (hD : isD (bytesOf ds) = true) (hs : s.size ≤ 1000000) (hl : ds.size ≤ s.size) (hm0 : -9223372036854775808 ≤ most) (hm1 : most ≤ 9223372036854775807)
    (h0 : (bytesOf ds).head? ≠ some 48 ∨ ds.size ≤ 30) (hp : 0 < ds.size) : ∀ (m i : Nat) (b : Bool) (l : List Int), i ≤ ds.size → i ≤ 30 → 30 - i ≤ m → NumP 8 b l (valD ((bytesOf ds).take i)) →
    Ev (fun k => parquetref02_Number.l1 k s most ds (i : Int) b l) (if farD most (bytesOf ds) then (0, 10) else (if ds.size < s.size then -valD (bytesOf ds) else valD (bytesOf ds), 0)) := by
  have hlen := bytesOf_length ds
  have hend : ∀ (i : Nat) (b : Bool) (l : List Int), i ≤ ds.size → (i = ds.size ∨ i = 30) → i ≤ 30 → NumP 8 b l (valD ((bytesOf ds).take i)) →
      Ev (fun k => parquetref02_Number.j5 k s most ds (i : Int) false b l) (if farD most (bytesOf ds) then (0, 10) else (if ds.size < s.size then -valD (bytesOf ds) else valD (bytesOf ds), 0)) := by
    intro i b l hi hie hi30 hN
    have hj6 : ∀ far : Bool, far = farD most (bytesOf ds) → Ev (fun k => parquetref02_Number.j6 k s ds far) (if farD most (bytesOf ds) then (0, 10) else (if ds.size < s.size then -valD (bytesOf ds) else valD (bytesOf ds), 0)) := by
      rintro far rfl
      by_cases hf : farD most (bytesOf ds) = true
      · rw [if_pos hf, hf]
        exact Ev.step (f := fun _ => some (0, 10)) (fun k => by simp [parquetref02_Number.j6]) (Ev.now _)
      · rw [if_neg hf]
        have hf' : farD most (bytesOf ds) = false := by simpa using hf
        have hle : valD (bytesOf ds) ≤ most := by simp [farD] at hf'; omega
        rw [hf']
        refine Ev.step (f := fun k => parquetref02_Number.l2 k s ds (valD ((bytesOf ds).take 0)) ((0 : Nat) : Int)) (fun k => ?_) (num_l2 s ds hD hs hl (by omega) ds.size 0 (by omega) (by omega))
        simp only [parquetref02_Number.j6]
        simp [valD]
    by_cases h30 : 30 < ds.size
    · refine Ev.step (f := fun k => parquetref02_Number.j6 k s ds true) (fun k => ?_) (hj6 true ?_)
      · simp only [parquetref02_Number.j5]
        rw [if_neg (by decide), if_pos (by omega)]
      · have h1 := val_big hD (h0.resolve_right (by omega)) (by omega)
        have h2 : (10 : Int) ^ 30 ≤ 10 ^ ((bytesOf ds).length - 1) := by
          have : (10 : Nat) ^ 30 ≤ 10 ^ ((bytesOf ds).length - 1) := Nat.pow_le_pow_right (by decide) (by omega)
          exact_mod_cast this
        have h3 := pow10_30
        symm
        simp [farD]
        omega
    · obtain rfl : i = ds.size := by omega
      rw [List.take_of_length_le (by omega)] at hN
      by_cases hm : most < 0
      · refine Ev.step (f := fun k => parquetref02_Number.j6 k s ds true) (fun k => ?_) (hj6 true (by simp [farD, hm]))
        simp only [parquetref02_Number.j5]
        rw [if_neg (by decide), if_neg (by omega), if_pos hm]
      · obtain ⟨q, hq, hQ⟩ := small_ev most hm0 hm1
        have hc := cmp_ev hN hQ (by decide) (by decide)
        refine Ev.step (f := fun k => (parquetref01_Small.f k most).bind fun bt => ((parquetref01_Num_Cmp.f k b l bt.1 bt.2).bind fun t => (parquetref02_Number.j6 k s ds (decide (t > 0))))) (fun k => ?_) (Ev.bind hq (Ev.bind hc (hj6 _ ?_)))
        · simp only [parquetref02_Number.j5]
          rw [if_neg (by decide), if_neg (by omega), if_neg hm]
        · unfold farD sgn
          rw [Bool.eq_iff_iff]
          simp only [decide_eq_true_eq, Bool.or_eq_true]
          split
          · omega
          · split <;> omega
  intro m
  induction m with
  | zero =>
    intro i b l hi hi30 hm hN
    obtain rfl : i = 30 := by omega
    refine Ev.step (f := fun k => parquetref02_Number.j5 k s most ds ((30 : Nat) : Int) false b l) (fun k => ?_) (hend 30 b l hi (Or.inr rfl) hi30 hN)
    simp only [parquetref02_Number.l1]
    split <;> simp
  | succ m ih =>
    intro i b l hi hi30 hm hN
    by_cases he : i = ds.size ∨ i = 30
    · refine Ev.step (f := fun k => parquetref02_Number.j5 k s most ds (i : Int) false b l) (fun k => ?_) (hend i b l hi he hi30 hN)
      simp only [parquetref02_Number.l1]
      rcases he with h | h
      · rw [if_neg (by omega)]
      · rw [show decide ((i : Int) < 30) = false from decide_eq_false (by omega)]
        simp
    · have hil : i < ds.size := by omega
      have hb := isD_at hD i (by omega)
      have hsn : valD ((bytesOf ds).take (i + 1)) = 10 * valD ((bytesOf ds).take i) + ((bytesOf ds).getD i 0 - 48) := by rw [take_snoc' _ i (by omega), valD_snoc]
      rw [bt_byte ds i hil] at hsn hb
      obtain ⟨q, hq, hQ⟩ := small_ev 10 (by decide) (by decide)
      obtain ⟨t, ht, hT⟩ := times_ev hN hQ (by decide) (by decide)
      obtain ⟨d, hd, hDg⟩ := small_ev (bt ds (i : Int) - 48) (by omega) (by omega)
      obtain ⟨p, hpp, hP⟩ := plus_ev hT hDg (by decide) (by decide)
      have hPs : NumP 8 p.1 p.2 (valD ((bytesOf ds).take (i + 1))) := by
        rw [hsn]
        rw [show valD ((bytesOf ds).take i) * 10 + (bt ds (i : Int) - 48) = 10 * valD ((bytesOf ds).take i) + (bt ds (i : Int) - 48) by omega] at hP
        have hlt := valD_lt_pow (isD_take hD (i + 1))
        have h0 := valD_nonneg (isD_take hD (i + 1))
        have hle : ((bytesOf ds).take (i + 1)).length ≤ 30 := by rw [List.length_take]; omega
        have h2 : (10 : Int) ^ ((bytesOf ds).take (i + 1)).length ≤ 10 ^ 30 := by
          have : (10 : Nat) ^ ((bytesOf ds).take (i + 1)).length ≤ 10 ^ 30 := Nat.pow_le_pow_right (by decide) hle
          exact_mod_cast this
        have h3 : (10 : Int) ^ 30 < 65536 ^ 8 := by decide
        rw [hsn] at hlt h0
        exact hP.short (by omega) (by omega)
      refine Ev.step (f := fun k => parquetref02_Number.j5 k s most ds (i : Int) true b l) (fun k => ?_) (Ev.step (f := fun k => (parquetref01_Small.f k 10).bind fun q => ((parquetref01_Num_Times.f k b l q.1 q.2).bind fun t => ((parquetref01_Small.f k (bt ds (i : Int) - 48)).bind fun d => ((parquetref01_Num_Plus.f k t.1 t.2 d.1 d.2).bind fun p => (parquetref02_Number.l1 k s most ds ((i + 1 : Nat) : Int) p.1 p.2))))) (fun k => ?_) (Ev.bind hq (Ev.bind ht (Ev.bind hd (Ev.bind hpp (ih (i + 1) p.1 p.2 (by omega) (by omega) (by omega) hPs))))))
      · simp only [parquetref02_Number.l1]
        rw [if_pos (by omega), show decide ((i : Int) < 30) = true from decide_eq_true (by omega)]
      · have g1 : (0 : Int) ≤ (i : Int) := by omega
        have g2 : (i : Int) < (ds.size : Int) := by omega
        have e1 : wrap64 (bt ds (i : Int)) = bt ds (i : Int) := w64 (by omega) (by omega)
        have e2 : wrap64 (bt ds (i : Int) - 48) = bt ds (i : Int) - 48 := w64 (by omega) (by omega)
        have e3 : wrap64 ((i : Int) + 1) = ((i + 1 : Nat) : Int) := by rw [w64 (by omega) (by omega)]; rfl
        simp only [parquetref02_Number.j5, if_true, if_pos g1, if_pos g2, e1, e2, e3]
/-- The document's own answer is the chapter's. -/
theorem number_ev (s : ByteArray) (most : Int) (hs : s.size ≤ 1000000) (hm0 : -9223372036854775808 ≤ most) (hm1 : most ≤ 9223372036854775807) : Ev (fun k => parquetref02_Number.f k s most) (numS (bytesOf s) most) := by
  have hlen := bytesOf_length s
  have hj2 : ∀ ds : ByteArray, bytesOf ds = digsOf (bytesOf s) → isD (digsOf (bytesOf s)) = true → ds.size ≤ s.size → (ds.size < s.size ↔ (bytesOf s).head? = some 45) → Ev (fun k => parquetref02_Number.j2 k s most ds) (numS (bytesOf s) most) := by
    intro ds hds hD hle hlt
    have hdl := bytesOf_length ds
    have hbad : (digsOf (bytesOf s) = [] ∨ ((digsOf (bytesOf s)).head? = some 48 ∧ bytesOf s ≠ [48])) → Ev (fun k => parquetref02_Number.j3 k s most ds true) (numS (bytesOf s) most) := by
      intro h
      rw [numS_bad (h.elim .inl (fun h => .inr (.inl h)))]
      exact Ev.step (f := fun _ => some (0, 11)) (fun k => by simp [parquetref02_Number.j3]) (Ev.now _)
    have hgood : ds.size ≠ 0 → ¬ ((digsOf (bytesOf s)).head? = some 48 ∧ bytesOf s ≠ [48]) → Ev (fun k => parquetref02_Number.j3 k s most ds false) (numS (bytesOf s) most) := by
      intro h1 h2
      have hne : digsOf (bytesOf s) ≠ [] := by
        intro h
        rw [← hds] at h
        rw [h] at hdl
        simp at hdl
        omega
      have hno : ¬ (digsOf (bytesOf s) = [] ∨ ((digsOf (bytesOf s)).head? = some 48 ∧ bytesOf s ≠ [48]) ∨ isD (digsOf (bytesOf s)) = false) := by
        rintro (h | h | h)
        · exact hne h
        · exact h2 h
        · rw [hD] at h; cases h
      refine Ev.step (f := fun k => parquetref02_Number.l1 k s most ds ((0 : Nat) : Int) false []) (fun k => by simp [parquetref02_Number.j3]) ?_
      have hev := num_l1 s ds most (by rw [hds]; exact hD) (by omega) hle hm0 hm1 (by
        by_cases h48 : (digsOf (bytesOf s)).head? = some 48
        · right
          have h5 : bytesOf s = [48] := Classical.byContradiction fun h => h2 ⟨h48, h⟩
          have h6 : (bytesOf s).length = 1 := by rw [h5]; rfl
          omega
        · left
          rw [hds]
          exact h48) (by omega) 30 0 false [] (by omega) (by omega) (by omega) ⟨Dig.nil, (fun i hi => by simp at hi), (fun h => by cases h), rfl, by simp⟩
      rw [hds] at hev
      by_cases hf : farD most (digsOf (bytesOf s)) = true
      · rw [if_pos hf] at hev
        rw [numS_far hno hf]
        exact hev
      · rw [if_neg hf] at hev
        rw [numS_ok hno (by simpa using hf)]
        by_cases h45 : (bytesOf s).head? = some 45
        · rw [if_pos (hlt.2 h45)] at hev
          rw [if_pos h45]
          exact hev
        · rw [if_neg (mt hlt.1 h45)] at hev
          rw [if_neg h45]
          exact hev
    by_cases hz : ds.size = 0
    · refine Ev.step (f := fun k => parquetref02_Number.j3 k s most ds true) (fun k => ?_) (hbad (Or.inl (by rw [← hds]; exact List.eq_nil_of_length_eq_zero (by omega))))
      simp only [parquetref02_Number.j2]
      rw [if_pos (by omega)]
    · have hh : (bytesOf ds).head? = some (bt ds 0) := by
        rw [bytesOf_head ds (by omega)]
        have := bt_nat ds 0 (by omega)
        rw [← this]
        rfl
      rw [hds] at hh
      by_cases h48 : bt ds 0 = 48
      · have hq : (s.toList != ([48] : List UInt8)) = true ↔ bytesOf s ≠ [48] := by
          rw [bne_iff_ne, ByteArray.toList_eq]
          constructor
          · intro h h2
            apply h
            have h1 : s.data.toList.length = 1 := by have := congrArg List.length h2; simpa [bytesOf] using this
            match hd : s.data.toList, h1 with
            | [x], _ =>
              rw [bytesOf, hd] at h2
              simp at h2
              rw [show x = 48 from UInt8.toNat_inj.1 (by simpa using (by omega : x.toNat = 48))]
          · intro h h2
            apply h
            rw [bytesOf, h2]
            rfl
        by_cases h5 : bytesOf s = [48]
        · refine Ev.step (f := fun k => parquetref02_Number.j3 k s most ds false) (fun k => ?_) (hgood hz (fun h => h.2 h5))
          have h6 : (s.toList != ([48] : List UInt8)) = false := by
            cases h7 : (s.toList != ([48] : List UInt8)) with
            | false => rfl
            | true => exact absurd h5 (hq.1 h7)
          simp only [parquetref02_Number.j2]
          rw [if_neg (by omega), if_pos (by omega), if_pos h48, h6]
        · refine Ev.step (f := fun k => parquetref02_Number.j3 k s most ds true) (fun k => ?_) (hbad (Or.inr ⟨by rw [hh, h48], h5⟩))
          simp only [parquetref02_Number.j2]
          rw [if_neg (by omega), if_pos (by omega), if_pos h48, hq.2 h5]
      · refine Ev.step (f := fun k => parquetref02_Number.j3 k s most ds false) (fun k => ?_) (hgood hz (fun h => h48 (by rw [hh] at h; exact Option.some.inj h.1)))
        simp only [parquetref02_Number.j2]
        rw [if_neg (by omega), if_pos (by omega), if_neg h48]
  have hloop : ∀ m i : Nat, i ≤ s.size → s.size - i ≤ m → (∀ j, j < i → OkC s j) → Ev (fun k => parquetref02_Number.l0 k s most (i : Int)) (numS (bytesOf s) most) := by
    intro m
    induction m with
    | zero =>
      intro i hi hm hok
      obtain rfl : i = s.size := by omega
      have hg := good_num s (fun j hj => hok j hj)
      by_cases h0 : 0 < s.size
      · have hh : (bytesOf s).head? = some (bt s 0) := by
          rw [bytesOf_head s h0]
          have := bt_nat s 0 h0
          rw [← this]
          rfl
        by_cases h45 : bt s 0 = 45
        · have hd : bytesOf (s.extract 1 s.size) = digsOf (bytesOf s) := by
            unfold digsOf
            rw [if_pos (by rw [hh, h45]), bytesOf_tail]
          refine Ev.step (f := fun k => parquetref02_Number.j1 k s most s true) (fun k => ?_) (Ev.step (f := fun k => parquetref02_Number.j2 k s most (s.extract 1 s.size)) (fun k => ?_) (hj2 _ hd hg (by simp) ?_))
          · simp only [parquetref02_Number.l0]
            rw [if_neg (by omega), if_pos (by omega), if_pos (by omega), show (bt s 0 == 45) = true from beq_iff_eq.2 h45]
          · have g1 : (1 : Int) ≤ (s.size : Int) := by omega
            simp only [parquetref02_Number.j1, if_true, if_pos g1]
          · rw [hh, h45]
            simp
            omega
        · have hd : bytesOf s = digsOf (bytesOf s) := by
            unfold digsOf
            rw [if_neg (by rw [hh]; intro h; exact h45 (Option.some.inj h))]
          refine Ev.step (f := fun k => parquetref02_Number.j1 k s most s false) (fun k => ?_) (Ev.step (f := fun k => parquetref02_Number.j2 k s most s) (fun k => by simp [parquetref02_Number.j1]) (hj2 _ hd hg (Nat.le_refl _) ?_))
          · simp only [parquetref02_Number.l0]
            rw [if_neg (by omega), if_pos (by omega), if_pos (by omega), show (bt s 0 == 45) = false from beq_eq_false_iff_ne.2 h45]
          · rw [hh]
            constructor
            · intro h; omega
            · intro h; exact absurd (Option.some.inj h) h45
      · have hnil : bytesOf s = [] := List.eq_nil_of_length_eq_zero (by omega)
        have hd : bytesOf s = digsOf (bytesOf s) := by rw [hnil]; rfl
        refine Ev.step (f := fun k => parquetref02_Number.j1 k s most s false) (fun k => ?_) (Ev.step (f := fun k => parquetref02_Number.j2 k s most s) (fun k => by simp [parquetref02_Number.j1]) (hj2 _ hd hg (Nat.le_refl _) ?_))
        · simp only [parquetref02_Number.l0]
          rw [if_neg (by omega), if_neg (by omega)]
        · rw [hnil]
          simp
    | succ m ih =>
      intro i hi hm hok
      by_cases he : i = s.size
      · exact ih i hi (by omega) hok
      · have hil : i < s.size := by omega
        have hbt := bt_nat s i hil
        by_cases hA : (48 ≤ (s[i]'hil).toNat ∧ (s[i]'hil).toNat ≤ 57) ∨ (i = 0 ∧ (s[i]'hil).toNat = 45)
        · refine Ev.step (f := fun k => parquetref02_Number.l0 k s most ((i + 1 : Nat) : Int)) (fun k => ?_) (ih (i + 1) (by omega) (by omega) (fun j hj => by
            rcases Nat.lt_or_ge j i with h | h
            · exact hok j h
            · obtain rfl : j = i := by omega
              exact fun _ => hA))
          simp only [parquetref02_Number.l0]
          rw [if_pos (by omega), if_pos (by omega), w64 (x := (i : Int) + 1) (by omega) (by omega)]
          by_cases h1 : bt s (i : Int) < 48
          · rw [if_pos h1, if_neg (by omega), if_pos (by omega)]; rfl
          · rw [if_neg h1, if_neg (by omega)]; rfl
        · rw [bad_num s most i hil hA]
          refine Ev.step (f := fun _ => some (0, 11)) (fun k => ?_) (Ev.now _)
          simp only [parquetref02_Number.l0]
          rw [if_pos (by omega), if_pos (by omega)]
          by_cases h1 : bt s (i : Int) < 48
          · rw [if_pos h1]
            by_cases h2 : (i : Int) > 0
            · rw [if_pos h2]
            · rw [if_neg h2, if_neg (by omega)]
          · rw [if_neg h1, if_pos (by omega)]
            by_cases h2 : (i : Int) > 0
            · rw [if_pos h2]
            · rw [if_neg h2, if_neg (by omega)]
  exact hloop s.size 0 (by omega) (by omega) (fun j hj => by omega)
end Go.Proofs.Ytbiafpklgkkoaaa

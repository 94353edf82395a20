/- Plain words on the document's Parse: what it says of any text. -/
import Derived.Test.YtmpbbodafenonaaWText1
import Derived.Test.YtmpbbodafenonaaWP2
import Derived.Test.YtmpbbodafenonaaPNum3
import Derived.Test.YtmpbbodafenonaaMT22
import Derived.Test.YtmpbbodafenonaaMT27
import Derived.Test.YtmpbbodafenonaaMT28
set_option linter.unusedVariables false
set_option linter.unusedSimpArgs false
namespace Go.Proofs.Ytmpbbodafenonaa
open Go Go.RowKit Go.Proofs.Ytmpbbodafenonaa.MT Go.Proofs.YtmpbbodafenonaaW.PrintWords Go.Proofs.YtmpbbodafenonaaW.PrintLast

/-- Through a text, byte by byte. -/
def runT : List Int → Bool → Int → Option Int
  | [], _, z => some z
  | c :: t, first, z => if first = true ∧ c = 45 then runT t false z else if 48 ≤ c ∧ c ≤ 57 then runT t false (10 * z + (c - 48)) else none
theorem run_false (t : List Int) : ∀ z, runT t false z = if isD t = true then some (t.foldl (fun n c => 10 * n + (c - 48)) z) else none := by
  induction t with
  | nil => intro z; rfl
  | cons c t ih =>
    intro z
    simp only [runT]
    rw [if_neg (by simp)]
    by_cases hc : 48 ≤ c ∧ c ≤ 57
    · rw [if_pos hc, ih]
      simp [isD, hc.1, hc.2]
    · rw [if_neg hc]
      have : isD (c :: t) = false := isD_mem (List.mem_cons_self) hc
      rw [this]
      rfl
theorem run_true (l : List Int) : runT l true 0 = if isD (digsOf l) = true then some (valD (digsOf l)) else none := by
  cases l with
  | nil => rfl
  | cons c t =>
    by_cases h : c = 45
    · subst h
      simp only [runT, digsOf]
      rw [if_pos (by simp), run_false]
      rfl
    · have e : digsOf (c :: t) = c :: t := by unfold digsOf; rw [if_neg (by simpa using h)]
      rw [e]
      simp only [runT]
      rw [if_neg (by simp [h])]
      by_cases hc : 48 ≤ c ∧ c ≤ 57
      · rw [if_pos hc, run_false]
        simp [isD, hc.1, hc.2, valD]
      · rw [if_neg hc, isD_mem (List.mem_cons_self) hc]
        rfl
theorem bytes_inj {a b : ByteArray} : a.toList = b.toList ↔ bytesOf a = bytesOf b := by
  rw [ByteArray.toList_eq, ByteArray.toList_eq]
  unfold bytesOf
  constructor
  · intro h; rw [h]
  · intro h
    exact (List.map_inj_right (fun x y e => UInt8.toNat_inj.1 (by omega))).1 h
theorem pow300 : (10 : Int) ^ 300 < 65536 ^ 63 := by decide +kernel
theorem pow10_le {a b : Nat} (h : a ≤ b) : (10 : Int) ^ a ≤ 10 ^ b := by
  have : (10 : Nat) ^ a ≤ 10 ^ b := Nat.pow_le_pow_right (by decide) h
  exact_mod_cast this
def negT (s : ByteArray) : Bool := decide (0 < s.size) && (bt s 0 == 45)
def sgT (s : ByteArray) (z : Int) : Int := if negT s then -z else z
def endT (s : ByteArray) (z : Int) (R : Bool × Int × Int × Int × Int × Int) : Prop :=
  ∃ D, CanD D (sgT s z).natAbs ∧ R = if txt (sgT s z) D = bytesOf s then (if ((sgT s z).natAbs : Int) < top4 then (decide (sgT s z < 0), spl0 (sgT s z).natAbs, spl1 (sgT s z).natAbs, spl2 (sgT s z).natAbs, spl3 (sgT s z).natAbs, 0) else (false, 0, 0, 0, 0, 10)) else (false, 0, 0, 0, 0, 11)
theorem rp_end (s : ByteArray) (z : Int) (b : Bool) (l : List Int) (h0 : 0 ≤ z) (h1 : z < 10 ^ 300) (hN : NumP 63 b l z) : ∃ R, Ev (fun k => parquetref01_Parse.j3 k s (negT s) b l) R ∧ endT s z R := by
  have hj4 : ∀ (b : Bool) (l : List Int) (y : Int), y = sgT s z → NumP 63 b l y → ∃ R, Ev (fun k => parquetref01_Parse.j4 k s b l) R ∧ endT s z R := by
    intro b l y hy hY
    have hyb : -(10 : Int) ^ 300 < y ∧ y < 10 ^ 300 := by unfold sgT at hy; split at hy <;> omega
    obtain ⟨D, t, ht, hb, hD, hv, hne, h48⟩ := text_ev hY (by decide) 300 hyb.2 hyb.1 (by decide)
    have htx : bytesOf t = txt (sgT s z) D := by rw [hb, hy]; rfl
    refine ⟨_, ?_, D, ⟨hD, by rw [← hy]; exact hv, hne, h48⟩, rfl⟩
    refine Ev.step (f := fun k => (parquetref01_Num_Text.f k b l).bind fun t521 => (if t521.toList = s.toList then ((parquetref01_told.f b l).bind fun bt522 => (some (bt522.1, bt522.2.1, bt522.2.2.1, bt522.2.2.2.1, bt522.2.2.2.2.1, bt522.2.2.2.2.2))) else (some (false, 0, 0, 0, 0, 11)))) (fun k => rfl) (Ev.bind ht ?_)
    by_cases he : txt (sgT s z) D = bytesOf s
    · rw [if_pos he, if_pos (bytes_inj.2 (htx.trans he))]
      by_cases hf : ((sgT s z).natAbs : Int) < top4
      · rw [if_pos hf, told_num hY (by decide) (by rw [hy]; exact hf), hy]
        exact Ev.now _
      · rw [if_neg hf, told_far hY (by decide) (by rw [hy]; omega)]
        exact Ev.now _
    · rw [if_neg he, if_neg (fun h => he (htx.symm.trans (bytes_inj.1 h)))]
      exact Ev.now _
  cases hn : negT s
  · obtain ⟨R, hR, hE⟩ := hj4 b l z (by unfold sgT; rw [hn]; rfl) hN
    exact ⟨R, Ev.step (f := fun k => parquetref01_Parse.j4 k s b l) (fun k => rfl) hR, hE⟩
  · obtain ⟨q, hq, hQ⟩ := neg_eq hN
    obtain ⟨R, hR, hE⟩ := hj4 q.1 q.2 (-z) (by unfold sgT; rw [hn]; rfl) hQ
    refine ⟨R, Ev.step (f := fun k => parquetref01_Parse.j4 k s q.1 q.2) (fun k => ?_) hR, hE⟩
    simp only [parquetref01_Parse.j3, if_true]
    rw [hq]
    rfl
theorem rp_loop (s : ByteArray) (hs : s.size ≤ 300) : ∀ (m i : Nat) (b : Bool) (l : List Int) (z : Int), i ≤ s.size → s.size - i ≤ m → NumP 63 b l z → 0 ≤ z → z < 10 ^ i →
    ∃ R, Ev (fun k => parquetref01_Parse.l0 k s (i : Int) b l) R ∧ (runT ((bytesOf s).drop i) (i == 0) z = none → R = (false, 0, 0, 0, 0, 11)) ∧ ∀ y, runT ((bytesOf s).drop i) (i == 0) z = some y → endT s y R := by
  have hlen := bytesOf_length s
  have herr : ∀ (i : Nat) (b : Bool) (l : List Int), Ev (fun k => parquetref01_Parse.j2 k s (i : Int) true b l) (false, 0, 0, 0, 0, 11) := fun i b l =>
    Ev.step (f := fun _ => some (false, 0, 0, 0, 0, 11)) (fun k => rfl) (Ev.now _)
  intro m
  induction m with
  | zero =>
    intro i b l z hi hm hN h0 h1
    have e : i = s.size := by omega
    subst e
    obtain ⟨R, hR, hE⟩ := rp_end s z b l h0 (by have := pow10_le hs; omega) hN
    rw [List.drop_of_length_le (by omega)]
    refine ⟨R, Ev.step (f := fun k => parquetref01_Parse.j3 k s (negT s) b l) (fun k => ?_) hR, fun h => (by cases h), fun y h => (by cases h; exact hE)⟩
    simp only [parquetref01_Parse.l0]
    rw [if_neg (by omega)]
    by_cases hp : (s.size : Int) > 0
    · rw [if_pos hp, if_pos (by omega)]
      unfold negT
      rw [decide_eq_true (by omega)]
      rfl
    · rw [if_neg hp]
      unfold negT
      rw [decide_eq_false (by omega)]
      rfl
  | succ m ih =>
    intro i b l z hi hm hN h0 h1
    by_cases he : i = s.size
    · exact ih i b l z hi (by omega) hN h0 h1
    have hil : i < s.size := by omega
    have hdrop : (bytesOf s).drop i = bt s (i : Int) :: (bytesOf s).drop (i + 1) := by
      rw [List.drop_eq_getElem_cons (by omega)]
      congr 1
      have := bt_byte s i hil
      rw [List.getD_eq_getElem?_getD, List.getElem?_eq_getElem (by omega)] at this
      simpa using this
    rw [hdrop]
    obtain ⟨c, hc⟩ : ∃ c, c = bt s (i : Int) := ⟨_, rfl⟩
    have hcb : 0 ≤ c ∧ c ≤ 255 := by
      rw [hc, bt_nat s i hil]
      have := (s[i]'hil).toNat_lt
      omega
    rw [← hc]
    have g1 : (i : Int) < (s.size : Int) := by omega
    have g2 : (0 : Int) ≤ (i : Int) := by omega
    have e3 : wrap64 ((i : Int) + 1) = ((i + 1 : Nat) : Int) := by rw [w64 (by omega) (by omega)]; rfl
    simp only [runT]
    by_cases h45 : (i == 0) = true ∧ c = 45
    · rw [if_pos h45]
      obtain ⟨R, hR, hA, hB⟩ := ih (i + 1) b l z (by omega) (by omega) hN h0 (by have := pow10_le (show i ≤ i + 1 by omega); omega)
      rw [show ((i + 1 : Nat) == 0) = false from rfl] at hA hB
      refine ⟨R, Ev.step (f := fun k => parquetref01_Parse.j1 k s (i : Int) true b l) (fun k => ?_) (Ev.step (f := fun k => parquetref01_Parse.l0 k s ((i + 1 : Nat) : Int) b l) (fun k => ?_) hR), hA, hB⟩
      · simp only [parquetref01_Parse.l0]
        have hi0 : i = 0 := by simpa using h45.1
        rw [if_pos g1, if_pos g2, ← hc, if_pos h45.2, hi0]
        rfl
      · simp only [parquetref01_Parse.j1, if_true, e3]
    · rw [if_neg h45]
      have hj1 : ∀ R, Ev (fun k => parquetref01_Parse.j1 k s (i : Int) false b l) R → Ev (fun k => parquetref01_Parse.l0 k s (i : Int) b l) R := by
        intro R hR
        refine Ev.step (f := fun k => parquetref01_Parse.j1 k s (i : Int) false b l) (fun k => ?_) hR
        simp only [parquetref01_Parse.l0]
        rw [if_pos g1, if_pos g2, ← hc]
        by_cases h : c = 45
        · rw [if_pos h, show ((i : Int) == 0) = false from by
            have : ¬ i = 0 := fun hi0 => h45 ⟨by simp [hi0], h⟩
            simpa using this]
        · rw [if_neg h]
      by_cases hd : 48 ≤ c ∧ c ≤ 57
      · rw [if_pos hd]
        obtain ⟨q, hq, hQ⟩ := small_ev 10 (by decide) (by decide)
        obtain ⟨t, ht, hT⟩ := times_ev hN hQ (by decide) (by decide)
        obtain ⟨d, hdd, hDg⟩ := small_ev (c - 48) (by omega) (by omega)
        obtain ⟨p, hpp, hP⟩ := plus_ev hT hDg (by decide) (by decide)
        have hz' : 10 * z + (c - 48) < 10 ^ (i + 1) := by rw [Int.pow_succ]; omega
        have hle := pow10_le (show i + 1 ≤ 300 by omega)
        have h3 := pow300
        have hPs : NumP 63 p.1 p.2 (10 * z + (c - 48)) := by
          rw [show z * 10 + (c - 48) = 10 * z + (c - 48) by omega] at hP
          exact hP.short (by omega) (by omega)
        obtain ⟨R, hR, hA, hB⟩ := ih (i + 1) p.1 p.2 _ (by omega) (by omega) hPs (by omega) hz'
        rw [show ((i + 1 : Nat) == 0) = false from rfl] at hA hB
        refine ⟨R, hj1 R (Ev.step (f := fun k => parquetref01_Parse.j2 k s (i : Int) false b l) (fun k => ?_) (Ev.step (f := fun k => (parquetref01_Small.f k 10).bind fun q => ((parquetref01_Num_Times.f k b l q.1 q.2).bind fun t => ((parquetref01_Small.f k (c - 48)).bind fun d => ((parquetref01_Num_Plus.f k t.1 t.2 d.1 d.2).bind fun p => (parquetref01_Parse.l0 k s ((i + 1 : Nat) : Int) p.1 p.2))))) (fun k => ?_) (Ev.bind hq (Ev.bind ht (Ev.bind hdd (Ev.bind hpp hR)))))), hA, hB⟩
        · simp only [parquetref01_Parse.j1]
          rw [if_neg (by decide), if_pos g2, if_pos g1, ← hc, if_neg (by omega), decide_eq_false (by omega)]
        · have e1 : wrap64 c = c := w64 (by omega) (by omega)
          have e2 : wrap64 (c - 48) = c - 48 := w64 (by omega) (by omega)
          simp only [parquetref01_Parse.j2, Bool.false_eq_true, if_false, if_pos g1, if_pos g2, ← hc, e1, e2, e3]
      · rw [if_neg hd]
        refine ⟨_, hj1 _ (Ev.step (f := fun k => parquetref01_Parse.j2 k s (i : Int) true b l) (fun k => ?_) (herr i b l)), fun _ => rfl, fun y h => (by cases h)⟩
        simp only [parquetref01_Parse.j1]
        rw [if_neg (by decide), if_pos g2, if_pos g1, ← hc]
        by_cases h : c < 48
        · rw [if_pos h]
        · rw [if_neg h, decide_eq_true (by omega)]
/-- The document's Parse. -/
theorem rparse_ev (s : ByteArray) (hs : s.size ≤ 300) : Ev (fun k => parquetref01_Parse.f k s) (wparseS (bytesOf s)) := by
  obtain ⟨R, hR, hA, hB⟩ := rp_loop s hs s.size 0 false [] 0 (by omega) (by omega) ⟨Dig.nil, fun i h => (by simp at h), fun h => (by cases h), rfl, by simp⟩ (by decide) (by decide)
  rw [List.drop_zero, show ((0 : Nat) == 0) = true from rfl, run_true] at hA hB
  suffices h : R = wparseS (bytesOf s) by rw [← h]; exact hR
  have hlen := bytesOf_length s
  have hneg : negT s = true ↔ (bytesOf s).head? = some 45 := by
    unfold negT
    by_cases h0 : 0 < s.size
    · rw [bytesOf_head s h0, ← bt_nat s 0 h0]
      simp [h0]
    · have : bytesOf s = [] := List.eq_nil_of_length_eq_zero (by omega)
      rw [this]
      simp [h0]
  by_cases hD : isD (digsOf (bytesOf s)) = true
  · rw [if_pos hD] at hA hB
    obtain ⟨D, hC, hRe⟩ := hB _ rfl
    have hv0 := valD_nonneg hD
    obtain ⟨v, hv⟩ : ∃ v, v = valD (digsOf (bytesOf s)) := ⟨_, rfl⟩
    rw [← hv] at hC hRe hv0
    have habs : ((sgT s v).natAbs : Int) = v := by unfold sgT; split <;> omega
    rw [habs] at hRe
    have hC' : CanD D v := by rw [← habs]; exact hC
    by_cases hbad : digsOf (bytesOf s) = [] ∨ ((digsOf (bytesOf s)).head? = some 48 ∧ bytesOf s ≠ [48])
    · rw [wparse_bad (hbad.elim .inl fun h => .inr (.inl h)), hRe, if_neg]
      intro he
      obtain ⟨t1, t2⟩ := txt_digs (z := sgT s v) hC.1
      rw [he] at t1 t2
      rw [t1] at hbad
      rcases hbad with h | ⟨h, h'⟩
      · exact hC.2.2.1 h
      · have h48 := hC.2.2.2 h
        have hvz : v = 0 := by rw [hv, t1, h48]; rfl
        have hnn : ¬ sgT s v < 0 := by unfold sgT; split <;> omega
        apply h'
        rw [← he]
        unfold txt
        rw [if_neg hnn, h48]
    · have hno : ¬ (digsOf (bytesOf s) = [] ∨ ((digsOf (bytesOf s)).head? = some 48 ∧ bytesOf s ≠ [48]) ∨ isD (digsOf (bytesOf s)) = false) := by
        rintro (h | h | h)
        · exact hbad (.inl h)
        · exact hbad (.inr h)
        · rw [hD] at h; cases h
      have hcan : CanD (digsOf (bytesOf s)) v := by
        refine ⟨hD, hv.symm, fun h => hbad (.inl h), fun h => ?_⟩
        have h5 : bytesOf s = [48] := Classical.byContradiction fun h' => hbad (.inr ⟨h, h'⟩)
        rw [h5]
        rfl
      have hDD := can_uniq hC' hcan
      have hsgn : decide (sgT s v < 0) = (decide ((bytesOf s).head? = some 45) && !decide (v = 0)) := by
        unfold sgT
        by_cases h45 : (bytesOf s).head? = some 45
        · rw [if_pos (hneg.2 h45), decide_eq_true h45]
          by_cases h0 : v = 0
          · rw [h0]; rfl
          · rw [decide_eq_true (by omega), decide_eq_false h0]; rfl
        · rw [if_neg (mt hneg.1 h45), decide_eq_false h45, decide_eq_false (by omega)]; rfl
      have htx : txt (sgT s v) D = bytesOf s := by
        rw [hDD]
        unfold txt
        by_cases h45 : (bytesOf s).head? = some 45
        · have hs0 : bytesOf s = 45 :: digsOf (bytesOf s) := by
            unfold digsOf
            rw [if_pos h45]
            cases hb : bytesOf s with
            | nil => rw [hb] at h45; simp at h45
            | cons a t => rw [hb] at h45; simp at h45; rw [h45]; rfl
          have hne0 : v ≠ 0 := by
            intro h0
            have h1 := can_zero (by rw [← h0]; exact hcan)
            apply hbad
            right
            rw [h1]
            refine ⟨rfl, fun h2 => ?_⟩
            rw [h2] at h45
            simp at h45
          have hlt : sgT s v < 0 := by unfold sgT; rw [if_pos (hneg.2 h45)]; omega
          rw [if_pos hlt]
          exact hs0.symm
        · have hs0 : digsOf (bytesOf s) = bytesOf s := by unfold digsOf; rw [if_neg h45]
          have hlt : ¬ sgT s v < 0 := by unfold sgT; rw [if_neg (mt hneg.1 h45)]; omega
          rw [if_neg hlt]
          exact hs0
      rw [hRe, if_pos htx]
      by_cases hf : v < top4
      · rw [if_pos hf, wparse_ok hno (by rw [← hv]; exact hf), ← hv, hsgn]
      · rw [if_neg hf, wparse_far hno (by rw [← hv]; omega)]
  · rw [if_neg hD] at hA
    rw [hA rfl, wparse_bad (.inr (.inr (by simpa using hD)))]
end Go.Proofs.Ytmpbbodafenonaa

/- Plain words on the document's Of, (Num).Wide and told. -/
import Derived.Test.YtmpbbodafenonaaWP1
import Derived.Test.YtmpbbodafenonaaMT0
import Derived.Test.YtmpbbodafenonaaMT11
import Derived.Test.YtmpbbodafenonaaMT27
set_option linter.unusedVariables false
set_option linter.unusedSimpArgs false
namespace Go.Proofs.Ytmpbbodafenonaa
open Go Go.RowKit Go.Proofs.Ytmpbbodafenonaa.MT Go.Proofs.YtmpbbodafenonaaW.PrintWords Go.Proofs.YtmpbbodafenonaaW.PrintLast

theorem u64_id {x : Int} (h0 : 0 ≤ x) (h1 : x < 18446744073709551616) : IntKind.u64.wrap x = x := by
 have h : IntKind.u64.wrap x = x % 18446744073709551616 := rfl
 rw [h]; omega
theorem of_step (k : Nat) (o : List Int) (x4 L : Int) (i : Nat) (m : Bool) (a b c d : Int) (hi : i < 4) (h0 : 0 ≤ L) (h1 : L < 18446744073709551616) (hl : o.length ≤ 1000) :
  parquetref01_Of.l1 (k + 1) o x4 L (i : Int) m a b c d = parquetref01_Of.l1 k (o ++ [L % 65536]) x4 (L / 65536) ((i + 1 : Nat) : Int) m a b c d := by
 simp only [parquetref01_Of.l1]
 rw [if_pos (by omega), if_pos (by omega), Int.tmod_eq_emod_of_nonneg h0, Int.tdiv_eq_ediv_of_nonneg h0, w64 (x := L % 65536) (by omega) (by omega), u64_id (by omega) (by omega), w64 (x := (i : Int) + 1) (by omega) (by omega)]
 rfl
def d4 (L : Int) : List Int := [L % 65536, L / 65536 % 65536, L / 65536 / 65536 % 65536, L / 65536 / 65536 / 65536 % 65536]
theorem of_four {o : List Int} {x4 L : Int} {m : Bool} {a b c d : Int} {r : Bool × List Int} (h0 : 0 ≤ L) (h1 : L < 18446744073709551616) (hl : o.length ≤ 900) (hx0 : 0 ≤ x4) (hx1 : x4 ≤ 10)
  (hr : Ev (fun k => parquetref01_Of.l0 k (o ++ d4 L) (x4 + 1) m a b c d) r) : Ev (fun k => parquetref01_Of.l1 k o x4 L 0 m a b c d) r := by
 refine Ev.step (f := fun k => parquetref01_Of.l1 k (o ++ [L % 65536]) x4 (L / 65536) 1 m a b c d) (fun k => of_step k o x4 L 0 m a b c d (by decide) h0 h1 (by omega)) ?_
 refine Ev.step (f := fun k => parquetref01_Of.l1 k (o ++ [L % 65536] ++ [L / 65536 % 65536]) x4 (L / 65536 / 65536) 2 m a b c d) (fun k => of_step k _ x4 _ 1 m a b c d (by decide) (by omega) (by omega) (by simp; omega)) ?_
 refine Ev.step (f := fun k => parquetref01_Of.l1 k (o ++ [L % 65536] ++ [L / 65536 % 65536] ++ [L / 65536 / 65536 % 65536]) x4 (L / 65536 / 65536 / 65536) 3 m a b c d) (fun k => of_step k _ x4 _ 2 m a b c d (by decide) (by omega) (by omega) (by simp; omega)) ?_
 refine Ev.step (f := fun k => parquetref01_Of.l1 k (o ++ [L % 65536] ++ [L / 65536 % 65536] ++ [L / 65536 / 65536 % 65536] ++ [L / 65536 / 65536 / 65536 % 65536]) x4 (L / 65536 / 65536 / 65536 / 65536) 4 m a b c d) (fun k => of_step k _ x4 _ 3 m a b c d (by decide) (by omega) (by omega) (by simp; omega)) ?_
 refine Ev.step (f := fun k => parquetref01_Of.l0 k (o ++ d4 L) (x4 + 1) m a b c d) (fun k => ?_) hr
 simp only [parquetref01_Of.l1]
 rw [if_neg (by decide), w64 (by omega) (by omega)]
 simp [d4]
theorem d4_val {L : Int} (h0 : 0 ≤ L) (h1 : L < 18446744073709551616) : val (d4 L) = L := by
 simp only [d4, val]; omega
theorem d4_dig {L : Int} : Dig (d4 L) := fun d h => by
 simp only [d4, List.mem_cons, List.not_mem_nil, or_false] at h
 omega
theorem of_ev (m : Bool) (v : Int) (h0 : 0 ≤ v) (h1 : v < top4) : ∃ r : Bool × List Int, Ev (fun k => parquetref01_Of.f k m (spl0 v) (spl1 v) (spl2 v) (spl3 v)) r ∧ NumP 16 r.1 r.2 (sv m v) := by
 have a := spl0_U v
 have b := spl1_U v
 have c := spl2_U v
 have d := spl3_U v
 have hv := val4_spl h0 h1
 obtain ⟨x0, hx0⟩ : ∃ x, x = spl0 v := ⟨_, rfl⟩
 obtain ⟨x1, hx1⟩ : ∃ x, x = spl1 v := ⟨_, rfl⟩
 obtain ⟨x2, hx2⟩ : ∃ x, x = spl2 v := ⟨_, rfl⟩
 obtain ⟨x3, hx3⟩ : ∃ x, x = spl3 v := ⟨_, rfl⟩
 rw [← hx0, ← hx1, ← hx2, ← hx3] at hv ⊢
 rw [← hx0] at a
 rw [← hx1] at b
 rw [← hx2] at c
 rw [← hx3] at d
 unfold U at a b c d
 have hD : Dig ([] ++ d4 x0 ++ d4 x1 ++ d4 x2 ++ d4 x3) := ((((Dig.nil).append d4_dig).append d4_dig).append d4_dig).append d4_dig
 obtain ⟨r, hr, hN⟩ := trim_ev m ([] ++ d4 x0 ++ d4 x1 ++ d4 x2 ++ d4 x3) hD (by simp [d4])
 refine ⟨r, ?_, ?_⟩
 ·have e : Ev (fun k => parquetref01_Of.l0 k ([] : List Int) 0 m x0 x1 x2 x3) r := by
   refine Ev.step (f := fun k => parquetref01_Of.l1 k [] 0 x0 0 m x0 x1 x2 x3) (fun k => rfl) (of_four a.1 a.2 (by simp) (by decide) (by decide) ?_)
   refine Ev.step (f := fun k => parquetref01_Of.l1 k ([] ++ d4 x0) (0 + 1) x1 0 m x0 x1 x2 x3) (fun k => rfl) (of_four b.1 b.2 (by simp [d4]) (by decide) (by decide) ?_)
   refine Ev.step (f := fun k => parquetref01_Of.l1 k ([] ++ d4 x0 ++ d4 x1) (0 + 1 + 1) x2 0 m x0 x1 x2 x3) (fun k => rfl) (of_four c.1 c.2 (by simp [d4]) (by decide) (by decide) ?_)
   refine Ev.step (f := fun k => parquetref01_Of.l1 k ([] ++ d4 x0 ++ d4 x1 ++ d4 x2) (0 + 1 + 1 + 1) x3 0 m x0 x1 x2 x3) (fun k => rfl) (of_four d.1 d.2 (by simp [d4]) (by decide) (by decide) ?_)
   exact Ev.step (f := fun k => (parquetref01_trim.f k m ([] ++ d4 x0 ++ d4 x1 ++ d4 x2 ++ d4 x3)).bind fun bt => some (bt.1, bt.2)) (fun k => rfl) (Ev.bind hr (Ev.now r))
  exact e
 ·have hval : val ([] ++ d4 x0 ++ d4 x1 ++ d4 x2 ++ d4 x3) = v := by
   rw [val_append, val_append, val_append, val_append, d4_val a.1 a.2, d4_val b.1 b.2, d4_val c.1 c.2, d4_val d.1 d.2]
   simp only [d4, val, List.length_append, List.length_cons, List.length_nil]
   rw [show (65536 : Int) ^ 0 = 1 from rfl, show (65536 : Int) ^ (0 + (0 + 1 + 1 + 1 + 1)) = 18446744073709551616 by decide, show (65536 : Int) ^ (0 + (0 + 1 + 1 + 1 + 1) + (0 + 1 + 1 + 1 + 1)) = 340282366920938463463374607431768211456 by decide, show (65536 : Int) ^ (0 + (0 + 1 + 1 + 1 + 1) + (0 + 1 + 1 + 1 + 1) + (0 + 1 + 1 + 1 + 1)) = 6277101735386680763835789423207666416102355444464034512896 by decide]
   rw [← hv]
   unfold val4
   omega
  rw [hval] at hN
  exact hN.mono (by simp [d4])
theorem val_sixteen {l : List Int} (h : l.length ≤ 16) : val l = 1 * l.getD 0 0 + 65536 * l.getD 1 0 + 4294967296 * l.getD 2 0 + 281474976710656 * l.getD 3 0 + 18446744073709551616 * l.getD 4 0 + 1208925819614629174706176 * l.getD 5 0 + 79228162514264337593543950336 * l.getD 6 0 + 5192296858534827628530496329220096 * l.getD 7 0 + 340282366920938463463374607431768211456 * l.getD 8 0 + 22300745198530623141535718272648361505980416 * l.getD 9 0 + 1461501637330902918203684832716283019655932542976 * l.getD 10 0 + 95780971304118053647396689196894323976171195136475136 * l.getD 11 0 + 6277101735386680763835789423207666416102355444464034512896 * l.getD 12 0 + 411376139330301510538742295639337626245683966408394965837152256 * l.getD 13 0 + 26959946667150639794667015087019630673637144422540572481103610249216 * l.getD 14 0 + 1766847064778384329583297500742918515827483896875618958121606201292619776 * l.getD 15 0 := by
 have e := take_all (l := l) (i := 16) h
 have s : ∀ i, val (l.take (i + 1)) = val (l.take i) + 65536 ^ i * l.getD i 0 := val_take_succ l
 have s0 := s 0
 rw [show (65536 : Int) ^ 0 = 1 by decide] at s0
 have s1 := s 1
 rw [show (65536 : Int) ^ 1 = 65536 by decide] at s1
 have s2 := s 2
 rw [show (65536 : Int) ^ 2 = 4294967296 by decide] at s2
 have s3 := s 3
 rw [show (65536 : Int) ^ 3 = 281474976710656 by decide] at s3
 have s4 := s 4
 rw [show (65536 : Int) ^ 4 = 18446744073709551616 by decide] at s4
 have s5 := s 5
 rw [show (65536 : Int) ^ 5 = 1208925819614629174706176 by decide] at s5
 have s6 := s 6
 rw [show (65536 : Int) ^ 6 = 79228162514264337593543950336 by decide] at s6
 have s7 := s 7
 rw [show (65536 : Int) ^ 7 = 5192296858534827628530496329220096 by decide] at s7
 have s8 := s 8
 rw [show (65536 : Int) ^ 8 = 340282366920938463463374607431768211456 by decide] at s8
 have s9 := s 9
 rw [show (65536 : Int) ^ 9 = 22300745198530623141535718272648361505980416 by decide] at s9
 have s10 := s 10
 rw [show (65536 : Int) ^ 10 = 1461501637330902918203684832716283019655932542976 by decide] at s10
 have s11 := s 11
 rw [show (65536 : Int) ^ 11 = 95780971304118053647396689196894323976171195136475136 by decide] at s11
 have s12 := s 12
 rw [show (65536 : Int) ^ 12 = 6277101735386680763835789423207666416102355444464034512896 by decide] at s12
 have s13 := s 13
 rw [show (65536 : Int) ^ 13 = 411376139330301510538742295639337626245683966408394965837152256 by decide] at s13
 have s14 := s 14
 rw [show (65536 : Int) ^ 14 = 26959946667150639794667015087019630673637144422540572481103610249216 by decide] at s14
 have s15 := s 15
 rw [show (65536 : Int) ^ 15 = 1766847064778384329583297500742918515827483896875618958121606201292619776 by decide] at s15
 have s00 : val (l.take 0) = 0 := rfl
 rw [e] at s15
 simp only [Nat.zero_add, Nat.reduceAdd] at s0 s1 s2 s3 s4 s5 s6 s7 s8 s9 s10 s11 s12 s13 s14 s15
 clear s
 omega
theorem lm_val {l : List Int} (hD : Dig l) (k : Nat) : ((lmN l 0 k : Nat) : Int) = l.getD (4 * k) 0 + 65536 * (l.getD (4 * k + 1) 0 + 65536 * (l.getD (4 * k + 2) 0 + 65536 * l.getD (4 * k + 3) 0)) := by
 unfold lmN dgt
 rw [if_pos (by omega)]
 have a := hD.at_ (4 * k)
 have b := hD.at_ (4 * k + 1)
 have c := hD.at_ (4 * k + 2)
 have d := hD.at_ (4 * k + 3)
 omega
theorem lm_U {l : List Int} (hD : Dig l) (k : Nat) : U (lmN l 0 k : Nat) := by
 rw [lm_val hD]
 have a := hD.at_ (4 * k)
 have b := hD.at_ (4 * k + 1)
 have c := hD.at_ (4 * k + 2)
 have d := hD.at_ (4 * k + 3)
 unfold U
 omega
theorem lm_spl {l : List Int} (hD : Dig l) (h : l.length ≤ 16) : ((lmN l 0 0 : Nat) : Int) = spl0 (val l) ∧ ((lmN l 0 1 : Nat) : Int) = spl1 (val l) ∧ ((lmN l 0 2 : Nat) : Int) = spl2 (val l) ∧ ((lmN l 0 3 : Nat) : Int) = spl3 (val l) := by
 refine spl_eq (lm_U hD 0) (lm_U hD 1) (lm_U hD 2) (lm_U hD 3) ?_
 rw [lm_val hD, lm_val hD, lm_val hD, lm_val hD, val_sixteen h]
 unfold val4
 simp only [Nat.mul_zero, Nat.mul_one, Nat.zero_add, Nat.reduceMul, Nat.reduceAdd]
 omega
theorem dgOk_dig {l : List Int} (hD : Dig l) : dgOk l = true := dgOk_iff.2 fun d h => by have := hD d h; omega
theorem top4_pow : top4 = (65536 : Int) ^ 16 := by decide
/-- A number as the program's: its sign, its four limbs; or none, if it lies beyond. -/
theorem wide_num {L : Nat} {b : Bool} {l : List Int} {z : Int} (h : NumP L b l z) (hL : L ≤ 1000000) (hz : (z.natAbs : Int) < top4) :
  parquetref01_Num_Wide.f b l = some (decide (z < 0), spl0 z.natAbs, spl1 z.natAbs, spl2 z.natAbs, spl3 z.natAbs, true) := by
 obtain ⟨hD, hN, hb, e, hl⟩ := h
 have hv := val_nonneg hD
 have hlen : l.length ≤ 16 := by
  rcases Nat.lt_or_ge 16 l.length with h | h
  ·have h1 := val_ge hD hN (by intro h0; rw [h0] at h; simp at h)
   have h2 := pow_le (a := 16) (b := l.length - 1) (by omega)
   rw [← top4_pow] at h2
   have : val l = z.natAbs := by cases b <;> simp at e <;> omega
   omega
  ·exact h
 have hn : val l = z.natAbs := by cases b <;> simp at e <;> omega
 have hs : b = decide (z < 0) := by
  cases b
  ·simp at e; exact (decide_eq_false (by omega)).symm
  ·have hne := hb rfl
   have h1 := val_ge hD hN hne
   have h2 : (0 : Int) < 65536 ^ (l.length - 1) := Int.pow_pos (by decide)
   simp at e
   exact (decide_eq_true (by omega)).symm
 obtain ⟨e0, e1, e2, e3⟩ := lm_spl hD hlen
 show parquetref01_Num_Wide_f b l = _
 unfold parquetref01_Num_Wide_f
 rw [if_pos (dgOk_dig hD), if_pos hlen, e0, e1, e2, e3, hn, hs]
theorem wide_far {L : Nat} {b : Bool} {l : List Int} {z : Int} (h : NumP L b l z) (hL : L ≤ 1000000) (hz : top4 ≤ (z.natAbs : Int)) :
  parquetref01_Num_Wide.f b l = some (false, 0, 0, 0, 0, false) := by
 obtain ⟨hD, hN, hb, e, hl⟩ := h
 have hv := val_nonneg hD
 have hn : val l = z.natAbs := by cases b <;> simp at e <;> omega
 have hlen : ¬ l.length ≤ 16 := by
  intro h
  have h1 := val_lt hD
  have h2 := pow_le h
  rw [← top4_pow] at h2
  omega
 show parquetref01_Num_Wide_f b l = _
 unfold parquetref01_Num_Wide_f
 rw [if_pos (dgOk_dig hD), if_neg hlen, if_pos (by omega)]
theorem told_num {L : Nat} {b : Bool} {l : List Int} {z : Int} (h : NumP L b l z) (hL : L ≤ 1000000) (hz : (z.natAbs : Int) < top4) :
  parquetref01_told.f b l = some (decide (z < 0), spl0 z.natAbs, spl1 z.natAbs, spl2 z.natAbs, spl3 z.natAbs, 0) := by
 unfold parquetref01_told.f
 rw [wide_num h hL hz]
 rfl
theorem told_far {L : Nat} {b : Bool} {l : List Int} {z : Int} (h : NumP L b l z) (hL : L ≤ 1000000) (hz : top4 ≤ (z.natAbs : Int)) :
  parquetref01_told.f b l = some (false, 0, 0, 0, 0, 10) := by
 unfold parquetref01_told.f
 rw [wide_far h hL hz]
 rfl
end Go.Proofs.Ytmpbbodafenonaa

/- The law WideOnes of the given program, as a plain statement on numbers of 256 bits, is proved at every input; no condition. -/
import Derived.Test.YtmpbbodafenonaaWOnes
import Derived.Test.YtmpbbodafenonaaWText3
import Derived.Test.YtmpbbodafenonaaMT36
set_option linter.unusedVariables false
set_option linter.unusedSimpArgs false
namespace Go.Proofs.Ytmpbbodafenonaa
open Go Go.RowKit Go.Proofs.Ytmpbbodafenonaa.MT Go.Proofs.YtmpbbodafenonaaW.PrintWords Go.Proofs.YtmpbbodafenonaaW.PrintLast
theorem limbs_ {a b c d : Int} (h : U a ∧ U b ∧ U c ∧ U d) : ∃ v, 0 ≤ v ∧ v < top4 ∧ a = spl0 v ∧ b = spl1 v ∧ c = spl2 v ∧ d = spl3 v :=
 ⟨val4 a b c d, (val4_bound h.1 h.2.1 h.2.2.1 h.2.2.2).1, (val4_bound h.1 h.2.1 h.2.2.1 h.2.2.2).2, spl_val4 h.1 h.2.1 h.2.2.1 h.2.2.2⟩
theorem Ev.yes_ {α : Type} {c : Prop} [Decidable c] {f g : Nat → Option α} {r : α} (h : c) (k : Ev f r) : Ev (fun n => if c then f n else g n) r := by simpa only [if_pos h] using k
theorem Ev.no_ {α : Type} {c : Prop} [Decidable c] {f g : Nat → Option α} {r : α} (h : ¬ c) (k : Ev g r) : Ev (fun n => if c then f n else g n) r := by simpa only [if_neg h] using k
theorem Ev.got_ {α β : Type} {x : Option α} {a : α} {F : Nat → α → Option β} {r : β} (h : x = some a) (k : Ev (fun n => F n a) r) : Ev (fun n => x.bind (F n)) r := by subst h; exact k
theorem known_true_ : Ev (fun _ : Nat => (parquetlaw01_known.f).bind fun t => some t) true := Ev.now true
theorem bytes_inj_ {a b : ByteArray} (h : bytesOf a = bytesOf b) : a.toList = b.toList := by
 rw [ByteArray.toList_eq, ByteArray.toList_eq]
 unfold bytesOf at h
 exact (List.map_inj_right (fun x y e => UInt8.toNat_inj.1 (by omega))).1 h
theorem sv_neg_ (m : Bool) {v : Int} (h0 : 0 ≤ v) : decide (-sv m v < 0) = (!m && !decide (v = 0)) := by
 unfold sv
 by_cases h : v = 0
 ·subst h; cases m <;> rfl
 ·cases m <;> simp [h] <;> omega
theorem sv_lt_ (m : Bool) {v : Int} (h0 : 0 ≤ v) : decide (sv m v < 0) = (m && !decide (v = 0)) := by
 unfold sv
 by_cases h : v = 0
 ·subst h; cases m <;> rfl
 ·cases m <;> simp [h] <;> omega
namespace Pure
theorem WideOnes (m : Bool) (a b c d : Int) (n : Int) (hu : U a ∧ U b ∧ U c ∧ U d) (hn : (Lit.int .i64 n).wf = true) : ∃ k, parquetlaw01_WideOnes.f k m a b c d n = some true := by
 have hnb : -9223372036854775808 ≤ n ∧ n ≤ 9223372036854775807 := by simpa [Lit.wf, IntKind.min, IntKind.max, IntKind.signed, IntKind.bits] using hn
 obtain ⟨v, v0, v1, rfl, rfl, rfl, rfl⟩ := limbs_ hu
 obtain ⟨z, hz⟩ : ∃ z, z = sv m v := ⟨_, rfl⟩
 have habs : (z.natAbs : Int) = v := by rw [hz]; unfold sv; split <;> omega
 obtain ⟨x, hx, hX⟩ := of_ev m v v0 v1
 rw [← hz] at hX
 obtain ⟨q, hq, hQ⟩ := neg_eq hX
 have hwq := wide_num hQ (by decide) (by rw [Int.natAbs_neg, habs]; exact v1)
 have hwx := wide_num hX (by decide) (by rw [habs]; exact v1)
 rw [Int.natAbs_neg, habs] at hwq
 rw [habs] at hwx
 obtain ⟨s, hs, hS⟩ := small_ev n hnb.1 hnb.2
 have htop : (9223372036854775808 : Int) < top4 := by decide
 have hws := wide_num hS (by decide) (by omega)
 have hi := int_ev m v0 v1
 rw [← hz] at hi
 have hOf := Of_int hnb.1 hnb.2
 have hj := int_ev (decide (n < 0)) (v := (n.natAbs : Int)) (by omega) (by omega)
 have hnn : sv (decide (n < 0)) n.natAbs = n := by unfold sv; by_cases h : n < 0 <;> simp [h] <;> omega
 rw [hnn, if_pos hnb] at hj
 have hsg := sign_eq hX
 obtain ⟨D, t, ht, htb, hC, htz⟩ := wtext_ev m v0 v1
 rw [← hz] at htb
 have p78 := top4_pow10
 obtain ⟨E, u, hu2, hub, hE, hEv, hEne, hE48⟩ := text_ev hX (by decide) 78 (by omega) (by omega) (by decide)
 have hEC : CanD E v := ⟨hE, by rw [hEv, habs], hEne, hE48⟩
 have htu : t.toList = u.toList := bytes_inj_ (by rw [htb, hub, can_uniq hC hEC]; rfl)
 have hneg1 := neg_spl m v0 v1
 have hneg2 := neg_spl (!m && !decide (v = 0)) v0 v1
 have hsign := sign_spl m v0 v1
 rw [← hz] at hsign
 have e1 : decide (-z < 0) = (!m && !decide (v = 0)) := by rw [hz]; exact sv_neg_ m v0
 have e2 : decide (z < 0) = (!(!m && !decide (v = 0)) && !decide (v = 0)) := by
  rw [hz, sv_lt_ m v0]
  cases m <;> cases decide (v = 0) <;> rfl
 obtain ⟨lo, hlo, hLO⟩ := small_ev (-9223372036854775808) (by decide) (by decide)
 obtain ⟨hi', hhi, hHI⟩ := small_ev 9223372036854775807 (by decide) (by decide)
 have c1 := cmp_ev hX hHI (by decide) (by decide)
 have c2 := cmp_ev hX hLO (by decide) (by decide)
 obtain ⟨i, e, hie⟩ : ∃ i e : Int, (i, e) = (if -9223372036854775808 ≤ z ∧ z ≤ 9223372036854775807 then (z, (0 : Int)) else (0, 10)) := ⟨_, _, rfl⟩
 rw [← hie] at hi
 have hj2 : ∀ fl : Bool, (e == 0) = fl → Ev (fun k => parquetlaw01_WideOnes.j2 k n true e n 0 fl m (spl0 v) (spl1 v) (spl2 v) (spl3 v) x.1 x.2 (decide (-z < 0)) (spl0 v) (spl1 v) (spl2 v) (spl3 v) (decide (z < 0)) (spl0 v) (spl1 v) (spl2 v) (spl3 v) (decide (n < 0)) (spl0 n.natAbs) (spl1 n.natAbs) (spl2 n.natAbs) (spl3 n.natAbs)) true := by
  intro fl hfl
  refine Ev.step (fun k => by simp only [parquetlaw01_WideOnes.j2]; rfl) ?_
  refine Ev.got_ hneg1 ?_
  refine Ev.got_ hneg2 ?_
  refine Ev.got_ hneg1 ?_
  refine Ev.yes_ (by rw [e1]; simp) ?_
  refine Ev.yes_ (by rw [e2]; simp) ?_
  refine Ev.got_ hsign ?_
  refine Ev.got_ hsg ?_
  refine Ev.yes_ (by first | trivial | rfl) ?_
  refine Ev.bind ht ?_
  refine Ev.bind hu2 ?_
  refine Ev.yes_ htu ?_
  refine Ev.yes_ (by first | trivial | rfl) ?_
  refine Ev.got_ hOf ?_
  refine Ev.yes_ (by simp) ?_
  refine Ev.yes_ (by first | trivial | rfl) ?_
  refine Ev.yes_ (by first | trivial | rfl) ?_
  exact Ev.yes_ (by rw [hfl]; simp) known_true_
 have hj1 : Ev (fun k => parquetlaw01_WideOnes.j1 k n true e n 0 false m (spl0 v) (spl1 v) (spl2 v) (spl3 v) x.1 x.2 (decide (-z < 0)) (spl0 v) (spl1 v) (spl2 v) (spl3 v) (decide (z < 0)) (spl0 v) (spl1 v) (spl2 v) (spl3 v) (decide (n < 0)) (spl0 n.natAbs) (spl1 n.natAbs) (spl2 n.natAbs) (spl3 n.natAbs)) true := by
  refine Ev.step (fun k => by simp only [parquetlaw01_WideOnes.j1]; rfl) ?_
  refine Ev.no_ (by decide) ?_
  refine Ev.bind hhi ?_
  refine Ev.bind c1 ?_
  have s1 := sgn_cases (z - 9223372036854775807)
  have s2 := sgn_cases (z - -9223372036854775808)
  by_cases hle : z ≤ 9223372036854775807
  ·refine Ev.yes_ (by omega) ?_
   refine Ev.bind hlo ?_
   refine Ev.bind c2 ?_
   refine hj2 _ ?_
   by_cases hge : -9223372036854775808 ≤ z
   ·rw [if_pos ⟨hge, hle⟩] at hie
    have : e = 0 := congrArg Prod.snd hie
    rw [this, decide_eq_true (by omega)]; rfl
   ·rw [if_neg (fun h => hge h.1)] at hie
    have : e = 10 := congrArg Prod.snd hie
    rw [this, decide_eq_false (by omega)]; rfl
  ·refine Ev.no_ (by omega) ?_
   refine hj2 _ ?_
   rw [if_neg (fun h => hle h.2)] at hie
   have : e = 10 := congrArg Prod.snd hie
   rw [this]; rfl
 have hj0 : ∀ fl : Bool, (fl = true ∨ (i = 0 ∧ fl = (sgn z == 0))) → Ev (fun k => parquetlaw01_WideOnes.j0 k n true i e n 0 fl m (spl0 v) (spl1 v) (spl2 v) (spl3 v) x.1 x.2 (decide (-z < 0)) (spl0 v) (spl1 v) (spl2 v) (spl3 v) (decide (z < 0)) (spl0 v) (spl1 v) (spl2 v) (spl3 v) (decide (n < 0)) (spl0 n.natAbs) (spl1 n.natAbs) (spl2 n.natAbs) (spl3 n.natAbs)) true := by
  intro fl hfl
  refine Ev.step (fun k => by simp only [parquetlaw01_WideOnes.j0]; rfl) ?_
  by_cases hin : -9223372036854775808 ≤ z ∧ z ≤ 9223372036854775807
  ·rw [if_pos hin] at hie
   obtain rfl : i = z := congrArg Prod.fst hie
   obtain rfl : e = 0 := congrArg Prod.snd hie
   have hflt : fl = true := by
    rcases hfl with h | ⟨h, h2⟩
    ·exact h
    ·rw [h2, h]; rfl
   refine Ev.yes_ (by first | trivial | rfl) ?_
   refine Ev.yes_ hflt ?_
   obtain ⟨w, hw, hW⟩ := small_ev i hin.1 hin.2
   refine Ev.bind hw ?_
   refine Ev.bind (cmp_ev hW hX (by decide) (by decide)) ?_
   refine Ev.yes_ (by rw [Int.sub_self]; rfl) ?_
   exact hj1
  ·rw [if_neg hin] at hie
   obtain rfl : i = 0 := congrArg Prod.fst hie
   obtain rfl : e = 10 := congrArg Prod.snd hie
   refine Ev.no_ (by decide) ?_
   refine Ev.yes_ (by first | trivial | rfl) ?_
   exact hj1
 have hev : Ev (fun k => parquetlaw01_WideOnes.f k m (spl0 v) (spl1 v) (spl2 v) (spl3 v) n) true := by
  unfold parquetlaw01_WideOnes.f
  refine Ev.bind hx ?_
  refine Ev.got_ hq ?_
  refine Ev.got_ hwq ?_
  refine Ev.got_ hwx ?_
  refine Ev.bind hs ?_
  refine Ev.got_ hws ?_
  refine Ev.bind hi ?_
  refine Ev.got_ hOf ?_
  refine Ev.bind hj ?_
  by_cases h0 : i = 0
  ·refine Ev.yes_ h0 ?_
   refine Ev.bind hx ?_
   refine Ev.got_ hsg ?_
   exact hj0 _ (.inr ⟨h0, rfl⟩)
  ·refine Ev.no_ h0 ?_
   exact hj0 _ (.inl rfl)
 exact hev.rounds
end Pure
end Go.Proofs.Ytmpbbodafenonaa

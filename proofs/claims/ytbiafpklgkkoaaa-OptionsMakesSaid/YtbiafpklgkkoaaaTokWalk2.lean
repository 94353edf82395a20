/- The walk of the closure that token.Words hands back: it gives the words of the bytes, one by one. -/
import Derived.Test.YtbiafpklgkkoaaaTokWalk1
import Derived.Lib.Hide
import Derived.Outline
set_option linter.unusedVariables false
set_option linter.unusedSimpArgs false
namespace Go.Proofs.Ytbiafpklgkkoaaa
open Go Go.Proofs Go.RowKit Go.Shelf Go.Proofs.YtbiafpklgkkoaaaW.PrintWords
attribute [local go_sem] Oper.semAt_some

/-- What a round must keep: the blocks below n₀, and the box Bs. -/
def Kp2 (n₀ Bs : Nat) (W W' : World) : Prop := ∀ k, (k < n₀ ∨ k = Bs) → W'.heap[k]? = W.heap[k]?
theorem Kp2.refl (n₀ Bs : Nat) (W : World) : Kp2 n₀ Bs W W := fun _ _ => rfl
theorem Kp2.trans {n₀ Bs : Nat} {A B C : World} (h : Kp2 n₀ Bs A B) (k : Kp2 n₀ Bs B C) : Kp2 n₀ Bs A C := fun i hi => (k i hi).trans (h i hi)
theorem Kp2.cell {n₀ Bs : Nat} {A B : World} (h : Kp2 n₀ Bs A B) {p : Addr} (hp : p.block < n₀ ∨ p.block = Bs) : B.cell? p = A.cell? p := by
  unfold World.cell?
  rw [h _ hp]
theorem Kp2.reads {n₀ Bs : Nat} {W W' : World} (h : Kp2 n₀ Bs W W') {k : IntKind} {A : Option Addr} {n : Nat} {xs : List Int} (hb : 0 < n → ∀ ad, A = some ad → ad.block < n₀) (hr : ReadsInt W k A n xs) : ReadsInt W' k A n xs := by
  refine ⟨hr.1, hr.2.1, fun hn => ?_⟩
  obtain ⟨ad, e, hc⟩ := hr.2.2 hn
  refine ⟨ad, e, fun j hj => ?_⟩
  rw [← hc j hj]
  exact h.cell (.inl (by unfold Addr.add; split <;> exact hb hn ad e))

theorem info5' : (Try.prog.info? 5).map (fun i => (i.zero, i.size, i.bytes)) = some (some (.int .u8 0), 1, 1) := by kernel_rfl
theorem info5_ : ∃ i, Try.prog.info? 5 = some i ∧ i.size = 1 := by
  obtain ⟨i, hi, h⟩ := Option.map_eq_some_iff.1 info5'
  simp only [Prod.mk.injEq] at h
  exact ⟨i, hi, h.2.1⟩

set_option maxRecDepth 100000 in
set_option maxHeartbeats 4000000 in
theorem words1_in (F : Fence) (n : Nat) (h38 : F.fn 41) (h39 : F.fn 42) (hro : F.round = none) (hn : 1 ≤ n) (l Bs n₀ : Nat) (A : Option Addr) (cap : Nat) (xs : List Int) (J Jx : List (Nat × List Int) → World → Prop)
    (hlen : xs.length ≤ 1048576) (hcap : xs.length ≤ cap) (hA : 0 < xs.length → ∀ ad, A = some ad → ad.block < n₀)
    (hY : ∀ pre x W, J pre W → pre.length < xs.length → YieldAt F (n - 1) Try.prog l #[.int .i64 (x.1 : Int), .string (strOfNums x.2)] W fun e W' =>
      (e = .returned (.bool true) ∧ J (pre ++ [x]) W' ∧ Kp2 n₀ Bs W W') ∨ (e = .returned (.bool false) ∧ Jx (pre ++ [x]) W'))
    (W : World) (hBs : W.cell? ⟨Bs, 0, none⟩ = some (.slice A xs.length cap)) (hR : ReadsInt W .u8 A xs.length xs) (h0 : J [] W) :
    CallsIn F n Try.prog 41 #[.func (.yield l) #[] #[], .pointer (some ⟨Bs, 0, none⟩)] W fun e W' => (∃ v, e = .returned v) ∧
      ((∃ ys, ys = toks xs ∧ J ys W') ∨ (∃ pre, (pre <+: toks xs ∧ pre ≠ []) ∧ Jx pre W')) := by
  refine callsIn_of_wp Try.func41 rfl h38 ?_ hro
  simp only [Try.ntmps41, List.size_toArray, List.length_cons, List.length_nil, Nat.reduceAdd, Nat.reduceSub, Array.replicate_succ, Array.replicate_zero, List.push_toArray, List.append_toArray, List.nil_append, List.cons_append]
  have hl0 : decide ((xs.length : Int) > 1048576) = false := by simp; omega
  gi_wp2
  gi_loopw [3] (fun i wr => ∃ (k : Nat) (pre : List (Nat × List Int)), k ≤ xs.length ∧ i = .int .i64 k ∧ J pre wr ∧ Kp2 n₀ Bs W wr ∧ Aside0 (pre ++ scan k .out (xs.drop k) = toks xs))
    (fun i _ => xs.length - (intOf i).toNat)
  case atStart => exact ⟨0, [], Nat.zero_le _, rfl, h0, Kp2.refl _ _ _, ⟨by simp [toks]⟩⟩
  case round =>
    obtain ⟨k, pre, hk, rfl, hJs, hkp, hT⟩ := hrel
    have hbox : wr.cell? ⟨Bs, 0, none⟩ = some (.slice A xs.length cap) := (hkp.cell (.inr rfl)).trans hBs
    by_cases hlt : k < xs.length
    · have hrd := hkp.reads hA hR
      obtain ⟨ad, hAd, hcell⟩ := hrd.at_ (k : Int) (by omega) (by omega)
      rw [Int.toNat_natCast] at hcell
      have hx := hT.out
      rw [drop_cons hlt] at hx
      obtain ⟨c, hc⟩ : ∃ c, c = xs.getD k 0 := ⟨_, rfl⟩
      rw [show rd xs (k : Int) = c from by rw [hc]; simp [rd]] at hcell
      rw [← hc] at hx
      have HC := Lib.hid hc
      clear hT hc
      have HX := Lib.hid hx
      clear hx
      have HA := Lib.hid hAd
      cases hb : blk c with
      | true =>
        subst hAd
        gi_wp2_with (gi_at_call 42; refine (blank_in F (n - 1) h39 hro c wr).mono ?_; rintro e w' ⟨rfl, rfl⟩)
        go_roundw
        case rel => exact ⟨k + 1, pre, by omega, by go_num, hJs, hkp, ⟨by rw [← HX.out, scan_out_blk hb]⟩⟩
        case measure => simp [intOf]; omega
      | false =>
        by_cases h35 : c = 35
        · subst h35
          subst hAd
          gi_wp2_with (gi_at_call 42; refine (blank_in F (n - 1) h39 hro 35 wr).mono ?_; rintro e w' ⟨rfl, rfl⟩)
          obtain ⟨wo, rfl⟩ : ∃ wo : World, wo = wr := ⟨_, rfl⟩
          gi_loopw [3] (fun i w2 => ∃ (m : Nat), k ≤ m ∧ m ≤ xs.length ∧ i = .int .i64 m ∧ w2 = wo ∧ Aside0 (scan m .com (xs.drop m) = scan k .com (xs.drop k)))
            (fun i _ => xs.length - (intOf i).toNat)
          case atStart => exact ⟨k, Nat.le_refl _, by omega, rfl, rfl, ⟨rfl⟩⟩
          case round =>
            obtain ⟨m, hkm, hm, rfl, rfl, hS⟩ := hrel
            by_cases hml : m < xs.length
            · obtain ⟨ad', hAd', hcell'⟩ := hrd.at_ (m : Int) (by omega) (by omega)
              cases hAd'
              rw [Int.toNat_natCast] at hcell'
              have hs := hS.out
              rw [drop_cons hml] at hs
              obtain ⟨d, hd⟩ : ∃ d, d = xs.getD m 0 := ⟨_, rfl⟩
              rw [show rd xs (m : Int) = d from by rw [hd]; simp [rd]] at hcell'
              rw [← hd] at hs
              have HS := Lib.hid hs
              have HD := Lib.hid hd
              clear hS hs hd
              by_cases h10 : d = 10
              · subst h10
                have hmk : k ≠ m := by
                  rintro rfl
                  have h1 := HC.out
                  have h2 := HD.out
                  omega
                gi_wp2
                go_roundw
                case rel => exact ⟨m, pre, by omega, rfl, hJs, hkp, ⟨by rw [← HX.out, scan_out_sharp, show (35 :: xs.drop (k + 1)) = xs.drop k from by rw [drop_cons hlt, ← HC.out], ← HS.out, scan_com_end, drop_cons hml, ← HD.out]⟩⟩
                case measure => simp [intOf]; omega
              · have h10b : (d == 10) = false := by simpa using h10
                have h10c : (d != 10) = true := by simpa using h10
                gi_wp2
                go_roundw
                case rel => exact ⟨m + 1, by omega, by omega, by go_num, trivial, ⟨by rw [← HS.out, scan_com_step h10]⟩⟩
                case measure => simp [intOf]; omega
            · obtain rfl : m = xs.length := by omega
              gi_wp2
              go_roundw
              case rel => exact ⟨xs.length, pre, by omega, rfl, hJs, hkp, ⟨by rw [← HX.out, scan_out_sharp, show (35 :: xs.drop (k + 1)) = xs.drop k from by rw [drop_cons hlt, ← HC.out], ← hS.out]; simp [scan]⟩⟩
              case measure => simp [intOf]; omega
        · have h35b : (c == 35) = false := by simpa using h35
          subst hAd
          gi_wp2_with (gi_at_call 42; refine (blank_in F (n - 1) h39 hro c wr).mono ?_; rintro e w' ⟨rfl, rfl⟩)
          obtain ⟨wo, rfl⟩ : ∃ wo : World, wo = wr := ⟨_, rfl⟩
          gi_loopw [4] (fun i w2 => ∃ (m : Nat), k ≤ m ∧ m ≤ xs.length ∧ i = .int .i64 m ∧ w2 = wo ∧ Aside0 (scan m (.word k ((xs.take m).drop k)) (xs.drop m) = scan k .out (xs.drop k)))
            (fun i _ => xs.length - (intOf i).toNat)
          case atStart => exact ⟨k, Nat.le_refl _, by omega, rfl, rfl, ⟨by rw [drop_cons hlt, ← HC.out, scan_word_begin hb h35]; simp⟩⟩
          case round =>
            obtain ⟨m, hkm, hm, rfl, rfl, hS⟩ := hrel
            have fin : (∀ c t, xs.drop m = c :: t → blk c = true) → k < m →
                Aside0 (pre ++ (k, (xs.take m).drop k) :: scan m .out (xs.drop m) = toks xs) ∧ pre.length < xs.length := by
              intro hb1 hkm1
              have h1 : pre ++ (k, (xs.take m).drop k) :: scan m .out (xs.drop m) = toks xs := by
                rw [← scan_word_end hb1, hS.out, drop_cons hlt, ← HC.out]
                exact HX.out
              refine ⟨⟨h1⟩, ?_⟩
              have h2 := toks_length xs
              rw [← h1] at h2
              simp at h2
              omega
            by_cases hml : m < xs.length
            · obtain ⟨ad', hAd', hcell'⟩ := hrd.at_ (m : Int) (by omega) (by omega)
              cases hAd'
              rw [Int.toNat_natCast] at hcell'
              obtain ⟨d, hd⟩ : ∃ d, d = xs.getD m 0 := ⟨_, rfl⟩
              rw [show rd xs (m : Int) = d from by rw [hd]; simp [rd]] at hcell'
              have HD := Lib.hid hd
              clear hd
              cases hbd : blk d with
              | false =>
                have hs := hS.out
                rw [drop_cons hml, ← HD.out, scan_word_step hbd] at hs
                have HS := Lib.hid hs
                clear hs hS fin
                gi_wp2_with (gi_at_call 42; refine (blank_in F (n - 1) h39 hro d _).mono ?_; rintro e w' ⟨rfl, rfl⟩)
                go_roundw
                case rel => exact ⟨m + 1, by omega, by omega, by go_num, trivial, ⟨by rw [← HS.out, mid_snoc hkm hml, ← HD.out]⟩⟩
                case measure => simp [intOf]; omega
              | true =>
                have hkm1 : k < m := by
                  rcases Nat.lt_or_ge k m with h | h
                  · exact h
                  · obtain rfl : k = m := by omega
                    rw [← HD.out] at HC
                    rw [HC.out, hbd] at hb
                    cases hb
                obtain ⟨hfin, hpl⟩ := fin (fun c t e => by rw [drop_cons hml, ← HD.out] at e; injection e with e _; rw [← e]; exact hbd) hkm1
                clear fin hS
                obtain ⟨i0, hi0, hsz0⟩ := info5_
                obtain ⟨A', hsl, hrm, _⟩ := print_mid_int (k := .u8) 22 5 Try.underlying22 hi0 hsz0 (some ad) cap xs (k : Int) (m : Int) (by omega) (by omega) (by omega) hcap
                simp only [Int.toNat_natCast] at hsl hrm
                have hrm' := hrm _ hrd
                obtain ⟨mid, hmid⟩ : ∃ mid, mid = (xs.take m).drop k := ⟨_, rfl⟩
                rw [← hmid] at hfin hsl hrm'
                have hst := string_of_reads (P := Try.prog) (c := cap - k) (dst := 9) Try.underlying22 Try.underlying5 Try.underlying9 hrm'
                obtain ⟨fn, tmps, assign, body, hy, hR'⟩ := hY pre (k, mid) _ hJs hpl
                dsimp only at hy
                clear hrm hrm' hmid
                gi_wp2_with (gi_at_call 42; refine (blank_in F (n - 1) h39 hro d _).mono ?_; rintro e w' ⟨rfl, rfl⟩)
                refine hR'.mono ?_
                rintro e W3 (⟨rfl, hJ3, hk3⟩ | ⟨rfl, hJx3⟩)
                · gi_wp2
                  go_roundw
                  case rel => exact ⟨m, pre ++ [(k, mid)], by omega, rfl, hJ3, hkp.trans hk3, ⟨by have := hfin.out; simpa using this⟩⟩
                  case measure => simp [intOf]; omega
                · gi_wp2
                  refine bodyPost_ret (results_none rfl _ _ _) rfl ?_
                  exact ⟨⟨_, rfl⟩, .inr ⟨_, ⟨⟨_, by have := hfin.out; simpa using this⟩, by simp⟩, hJx3⟩⟩
            · obtain rfl : m = xs.length := by omega
              obtain ⟨hfin, hpl⟩ := fin (fun c t e => by rw [List.drop_length] at e; cases e) hlt
              clear fin hS
              obtain ⟨i0, hi0, hsz0⟩ := info5_
              obtain ⟨A', hsl, hrm, _⟩ := print_mid_int (k := .u8) 22 5 Try.underlying22 hi0 hsz0 (some ad) cap xs (k : Int) (xs.length : Int) (by omega) (by omega) (by omega) hcap
              simp only [Int.toNat_natCast] at hsl hrm
              have hrm' := hrm _ hrd
              obtain ⟨mid, hmid⟩ : ∃ mid, mid = (xs.take xs.length).drop k := ⟨_, rfl⟩
              rw [← hmid] at hfin hsl hrm'
              have hst := string_of_reads (P := Try.prog) (c := cap - k) (dst := 9) Try.underlying22 Try.underlying5 Try.underlying9 hrm'
              obtain ⟨fn, tmps, assign, body, hy, hR'⟩ := hY pre (k, mid) _ hJs hpl
              dsimp only at hy
              clear hrm hrm' hmid
              gi_wp2
              refine hR'.mono ?_
              rintro e W3 (⟨rfl, hJ3, hk3⟩ | ⟨rfl, hJx3⟩)
              · gi_wp2
                go_roundw
                case rel => exact ⟨xs.length, pre ++ [(k, mid)], by omega, rfl, hJ3, hkp.trans hk3, ⟨by have := hfin.out; simpa using this⟩⟩
                case measure => simp [intOf]; omega
              · gi_wp2
                refine bodyPost_ret (results_none rfl _ _ _) rfl ?_
                exact ⟨⟨_, rfl⟩, .inr ⟨_, ⟨⟨_, by have := hfin.out; simpa using this⟩, by simp⟩, hJx3⟩⟩
    · obtain rfl : k = xs.length := by omega
      gi_wp2
      go_end0
      exact ⟨⟨_, rfl⟩, .inl ⟨_, by have := hT.out; simpa [scan] using this, hJs⟩⟩
end Go.Proofs.Ytbiafpklgkkoaaa

/- The walks of parquetref02.Same and parquetref02.All. -/
import Derived.Test.YtajfaieiabnknaaTokWalk3
import Derived.Test.YtajfaieiabnknaaWEqStruct
set_option linter.unusedVariables false
set_option linter.unusedSimpArgs false
namespace Go.Proofs.Ytajfaieiabnknaa
open Go Go.Proofs Go.RowKit Go.Shelf Go.Proofs.YtajfaieiabnknaaW.PrintWords Go.Proofs.YtajfaieiabnknaaW.PrintLast Go.Proofs.YtajfaieiabnknaaW.PrintMore

theorem eqA37 (d : Nat) (w : World) (x0 y0 : Int) (x1 y1 : ByteArray) :
    (Op.equalIn (d + 2) 37 (.agg #[.int .i64 x0, .string x1]) (.agg #[.int .i64 y0, .string y1])).run Try.prog w = .ok (x0 == y0 && (x1.toList == y1.toList)) w := by
  refine eqA_of Try.underlying37 (by kernel_rfl) ?_
  refine eqf_cons (by rfl) (by go_simp; rfl) (by go_simp; rfl) (by go_simp) ?_
  exact eqf_last (by rfl) (by go_simp; rfl) (by go_simp; rfl) (by go_simp)
attribute [local go_sem high] eqA37

theorem S37.ext' {a b : S37} (h0 : a.f0 = b.f0) (h1 : a.f1 = b.f1) : a = b := by cases a; cases b; simp_all
theorem toList_inj {a b : ByteArray} (h : a.toList = b.toList) : a = b := by
  rw [Go.ByteArray.toList_eq, Go.ByteArray.toList_eq] at h
  cases a; cases b
  exact congrArg ByteArray.mk (Array.toList_inj.1 h)
instance : DecidableEq S37 := fun a b => decidable_of_iff (a.f0 = b.f0 ∧ a.f1 = b.f1) ⟨fun h => S37.ext' h.1 h.2, fun h => by subst h; exact ⟨rfl, rfl⟩⟩
/-- The same words? -/
def eqT (l m : List S37) : Bool := decide (l = m)

theorem take_rd (l : List S37) {k : Nat} (h : k < l.length) : l.take (k + 1) = l.take k ++ [rd_T37 l (k : Int)] := by
  rw [List.take_succ_eq_append_getElem h]
  simp [rd_T37, List.getD_eq_getElem?_getD, List.getElem?_eq_getElem h]

set_option maxHeartbeats 4000000 in
set_option maxRecDepth 100000 in
theorem same_any (A0 : Option Addr) (c0 : Nat) (l0 : List S37) (A1 : Option Addr) (c1 : Nat) (l1 : List S37) (w : World) (hr0 : Kd.C k37 w A0 l0.length l0) (hr1 : Kd.C k37 w A1 l1.length l1) :
    Calls Try.prog 19 #[.slice A0 l0.length c0, .slice A1 l1.length c1] w fun e w' => e = .returned (.bool (eqT l0 l1)) ∧ Drawn0 w w' := by
  have hu37 := Try.underlying37
  have HR0 := Aside0.mk hr0
  have HR1 := Aside0.mk hr1
  have hm := hr0.2.1
  clear hr0 hr1
  by_cases hl : l0.length = l1.length
  · have hl1 : ((l0.length : Int) != (l1.length : Int)) = false := by simp; omega
    have hl2 : (l0.length == l1.length) = true := by simpa using hl
    have HL := Lib.hid hl
    clear hl
    go_enter Try.func19, Try.ntmps19
    go_wp2
    go_loopw [5] (fun v5 w' => ∃ k : Nat, k ≤ l0.length ∧ v5 = .int .i64 k ∧ Aside0 (l0.take k = l1.take k) ∧ Drawn0 w w') (fun v5 _ => l0.length - (intOf v5).toNat)
    case atStart => exact ⟨0, Nat.zero_le _, rfl, ⟨rfl⟩, Drawn0.refl _⟩
    case round =>
      obtain ⟨k, hk, rfl, HT, ⟨m1, rfl⟩⟩ := hrel
      by_cases hlt : k < l0.length
      · obtain ⟨ad0, e0, hx0, hx0'⟩ := at_T37 HR0.out (k : Int) (by omega) (by omega)
        obtain ⟨ad1, e1, hx1, hx1'⟩ := at_T37 HR1.out (k : Int) (by omega) (by have := HL.out; omega)
        cases e0
        cases e1
        rw [Int.toNat_natCast] at hx0 hx0' hx1 hx1'
        have hk1 : decide ((k : Int) < (l1.length : Int)) = true := by have := HL.out; simp; omega
        have hk1' : (k : Int) < (l1.length : Int) := by have := HL.out; omega
        obtain ⟨p, hp⟩ : ∃ p, p = rd_T37 l0 (k : Int) := ⟨_, rfl⟩
        obtain ⟨q, hq⟩ : ∃ q, q = rd_T37 l1 (k : Int) := ⟨_, rfl⟩
        rw [← hp] at hx0 hx0'
        rw [← hq] at hx1 hx1'
        have HP := Lib.hid hp
        have HQ := Lib.hid hq
        clear hp hq
        by_cases he : p = q
        · have hb : (!(p.f0 == q.f0) || (!(p.f1.toList == q.f1.toList))) = false := by subst he; simp
          go_wp2
          repeat (go_quiet (fail); try go_wp2)
          go_roundw
          case rel => exact ⟨k + 1, by omega, by go_num, ⟨by rw [take_rd l0 hlt, take_rd l1 (by have := HL.out; omega), HT.out, ← HP.out, ← HQ.out, he]⟩, by repeat (first | exact Drawn0.refl _ | apply Drawn0.step)⟩
          case measure => simp [intOf]; omega
        · have hb : (!(p.f0 == q.f0) || (!(p.f1.toList == q.f1.toList))) = true := by
            rw [← Bool.not_and, Bool.not_eq_true']
            simp only [Bool.and_eq_false_iff, beq_eq_false_iff_ne]
            by_cases h0 : p.f0 = q.f0
            · exact .inr (fun h1 => he (S37.ext' h0 (toList_inj h1)))
            · exact .inl h0
          go_wp2
          repeat (go_quiet (fail); try go_wp2)
          go_ret
          exact ⟨by rw [show eqT l0 l1 = false from by simp only [eqT, decide_eq_false_iff_not]; intro e; exact he (by rw [HP.out, HQ.out, e])]; rfl, by repeat (first | exact Drawn0.refl _ | apply Drawn0.step)⟩
      · obtain rfl : k = l0.length := by omega
        have hfin : eqT l0 l1 = true := by
          have := HT.out
          rw [List.take_length, HL.out, List.take_length] at this
          simp [eqT, this]
        go_wp2
        go_ret
        exact ⟨by rw [hfin]; rfl, by repeat (first | exact Drawn0.refl _ | apply Drawn0.step)⟩
  · have hl1 : ((l0.length : Int) != (l1.length : Int)) = true := by simp; omega
    have hl2 : (l0.length == l1.length) = false := by simpa using hl
    go_enter Try.func19, Try.ntmps19
    go_wp2
    go_ret
    exact ⟨by rw [show eqT l0 l1 = false from by simp only [eqT, decide_eq_false_iff_not]; intro e; exact hl (by rw [e])]; rfl, Drawn0.refl _⟩
end Go.Proofs.Ytajfaieiabnknaa

/- The walk of options.digits: a number in digits. -/
import Derived.Test.YtbiafpklgkkoaaaOptB
import Derived.Laws.Cover4
set_option linter.unusedVariables false
set_option linter.unusedSimpArgs false
namespace Go.Proofs.Ytbiafpklgkkoaaa
open Go Go.Proofs Go.RowKit
/-- A number's digits, of at most k + 1. -/
def digF : Nat → Int → ByteArray
  | 0, n => Utf8.encode (48 + n % 10)
  | k + 1, n => if n > 9 then digF k (n / 10) ++ Utf8.encode (48 + n % 10) else Utf8.encode (48 + n % 10)
theorem digF_size : ∀ (k : Nat) (n : Int), (digF k n).size ≤ 4 * (k + 1)
  | 0, n => Go.encode_size_le _
  | k + 1, n => by
    unfold digF
    split
    · have h1 := digF_size k (n / 10)
      have h2 := Go.encode_size_le (48 + n % 10)
      rw [ByteArray.size_append]
      omega
    · have h2 := Go.encode_size_le (48 + n % 10)
      omega
set_option maxHeartbeats 2000000 in
set_option maxRecDepth 100000 in
theorem digits_any : ∀ (k : Nat) (n : Int) (w : World), k ≤ 2 → 0 ≤ n → n < 10 ^ (k + 1) → Calls Try.prog 30 #[.int .i64 n] w fun e w' => e = .returned (.string (digF k n)) ∧ Below w.heap.size w w' := by
  intro k
  induction k with
  | zero =>
    intro n w hk h0 h1
    have h9 : n ≤ 9 := by simp at h1; omega
    have g9 : (n > 9) = False := eq_false (by omega)
    clear h1
    go_enter Try.func30, Try.ntmps30
    go_wp2
    go_ret
    exact ⟨rfl, Below.refl _ _⟩
  | succ k ih =>
    intro n w hk h0 h1
    have hn : n ≤ 999 := by
      have h2 : (10 : Int) ^ (k + 1 + 1) ≤ 10 ^ 3 := by
        have : (10 : Nat) ^ (k + 1 + 1) ≤ 10 ^ 3 := Nat.pow_le_pow_right (by decide) (by omega)
        exact_mod_cast this
      have h3 : (10 : Int) ^ 3 = 1000 := by decide
      omega
    by_cases h9 : n > 9
    · have hd : n / 10 < 10 ^ (k + 1) := by rw [Int.pow_succ] at h1; omega
      have hr : digF (k + 1) n = digF k (n / 10) ++ Utf8.encode (48 + n % 10) := if_pos h9
      have g9 : (n > 9) = True := eq_true h9
      have ih2 := fun W => ih (n / 10) W (by omega) (by omega) hd
      have HR := Lib.hid hr
      clear ih h1 hd hr
      have hs1 := digF_size k (n / 10)
      have hs2 := Go.encode_size_le (48 + n % 10)
      go_enter Try.func30, Try.ntmps30
      go_wp2_with (go_at_call 30; refine (ih2 _).mono ?_; rintro e w2 ⟨rfl, hb2⟩)
      go_ret
      exact ⟨by rw [HR.out]; rfl, hb2⟩
    · have hr : digF (k + 1) n = Utf8.encode (48 + n % 10) := if_neg h9
      have g9 : (n > 9) = False := eq_false h9
      have HR := Lib.hid hr
      clear ih h1 hr
      go_enter Try.func30, Try.ntmps30
      go_wp2
      go_ret
      exact ⟨by rw [HR.out]; rfl, Below.refl _ _⟩
end Go.Proofs.Ytbiafpklgkkoaaa

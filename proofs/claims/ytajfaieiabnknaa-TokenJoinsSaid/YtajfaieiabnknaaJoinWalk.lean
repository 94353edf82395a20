/- The walk of token.Join. -/
import Derived.Test.YtajfaieiabnknaaTokKnown
import Derived.Test.YtajfaieiabnknaaTokSplit
set_option linter.unusedVariables false
set_option linter.unusedSimpArgs false
namespace Go.Proofs.Ytajfaieiabnknaa
open Go Go.Proofs Go.RowKit Go.Shelf Go.Proofs.YtajfaieiabnknaaW.PrintWords Go.Proofs.YtajfaieiabnknaaW.PrintLast Go.Proofs.YtajfaieiabnknaaW.PrintMore

/-- Words with a blank between. -/
def jpre : List (List Int) → List Int
  | [] => []
  | [w] => w
  | w :: v :: t => w ++ 32 :: jpre (v :: t)
theorem jpre_snoc (l : List (List Int)) (w : List Int) (h : l ≠ []) : jpre (l ++ [w]) = jpre l ++ 32 :: w := by
  induction l with
  | nil => exact absurd rfl h
  | cons a t ih =>
    cases t with
    | nil => rfl
    | cons b t =>
      have h1 := ih (by simp)
      simp only [List.cons_append] at h1 ⊢
      rw [jpre, h1, jpre]
      simp
theorem joined_jpre (l : List (List Int)) (h : l ≠ []) : joined l = jpre l ++ [10] := by
  induction l with
  | nil => exact absurd rfl h
  | cons a t ih =>
    cases t with
    | nil => rfl
    | cons b t =>
      rw [joined, jpre, ih (by simp)]
      simp
/-- The bytes of words, and one for each. -/
def tot (l : List (List Int)) : Nat := (l.map fun w => w.length + 1).sum
theorem tot_append (l m : List (List Int)) : tot (l ++ m) = tot l + tot m := by simp [tot]
theorem jpre_le (l : List (List Int)) : (jpre l).length ≤ tot l := by
  induction l with
  | nil => simp [jpre, tot]
  | cons a t ih =>
    cases t with
    | nil => simp [jpre, tot]
    | cons b t =>
      simp only [jpre, List.length_append, List.length_cons]
      simp [tot] at ih ⊢
      omega
theorem tot_take (l : List (List Int)) (j : Nat) : tot (l.take j) ≤ tot l := by
  have h := tot_append (l.take j) (l.drop j)
  rw [List.take_append_drop] at h
  omega
theorem bytesOf_append (a b : ByteArray) : bytesOf (a ++ b) = bytesOf a ++ bytesOf b := by
  simp [bytesOf]
theorem at_str {w : World} {A : Option Addr} {n : Nat} {xs : List ByteArray} (h : Kd.C Kd.string w A n xs) (i : Nat) (h1 : i < n) : ∃ ad, A = some ad ∧ w.cell? (ad.add i) = some (.string (xs.getD i ByteArray.empty)) := by
  obtain ⟨ad, c, e, hl, hK, hc⟩ := Kd.C_get h ByteArray.empty (i : Int) (by omega) (by omega)
  rw [Int.toNat_natCast] at hK hc
  have hK' : c = [.string (xs.getD i ByteArray.empty)] := hK
  subst hK'
  refine ⟨ad, e, ?_⟩
  have := hc 0 _ rfl
  simpa [Kd.string, Kd.scalar] using this

set_option maxHeartbeats 4000000 in
set_option maxRecDepth 100000 in
theorem join_ok (A : Option Addr) (cap : Nat) (ws : List ByteArray) (w : World) (hR : Kd.C Kd.string w A ws.length ws) (hB : tot (ws.map bytesOf) ≤ 1000000000) :
    Calls Try.prog 26 #[.slice A ws.length cap] w fun e w' => ∃ s : ByteArray, e = .returned (.string s) ∧ bytesOf s = joined (ws.map bytesOf) ∧ Drawn0 w w' := by
  have hm := hR.2.1
  go_enter Try.func26, Try.ntmps26
  go_wp2
  go_loopw [3, 8] (fun v3 v8 W => ∃ (j : Nat) (s : ByteArray), j ≤ ws.length ∧ v8 = .int .i64 j ∧ v3 = .string s ∧ Aside0 (bytesOf s = jpre ((ws.take j).map bytesOf)) ∧ W = w) (fun _ v8 _ => ws.length - (intOf v8).toNat)
  case atStart => exact ⟨0, _, Nat.zero_le _, rfl, rfl, ⟨rfl⟩, rfl⟩
  case round =>
    obtain ⟨j, s, hj, rfl, rfl, hs, rfl⟩ := hrel
    by_cases hjl : j < ws.length
    · obtain ⟨ad, e, hc⟩ := at_str hR j hjl
      cases e
      obtain ⟨t, ht⟩ : ∃ t, t = ws.getD j ByteArray.empty := ⟨_, rfl⟩
      rw [← ht] at hc
      have hst : Hid ((ws.take (j + 1)).map bytesOf = (ws.take j).map bytesOf ++ [bytesOf t]) := Lib.hid (by
        rw [List.take_succ_eq_append_getElem hjl, List.map_append, ht]
        simp [List.getD_eq_getElem?_getD, List.getElem?_eq_getElem hjl])
      clear ht
      have hss : s.size + t.size + 1 ≤ 1000000000 := by
        have h1 : s.size = (jpre ((ws.take j).map bytesOf)).length := by rw [← hs.out, bytesOf_length]
        have h2 := jpre_le ((ws.take j).map bytesOf)
        have h3 : tot ((ws.take (j + 1)).map bytesOf) ≤ tot (ws.map bytesOf) := by rw [List.map_take]; exact tot_take _ _
        rw [hst.out, tot_append, show tot [bytesOf t] = t.size + 1 from by simp [tot, bytesOf_length]] at h3
        omega
      by_cases h0 : 0 < j
      · go_wp2
        go_roundw
        case rel => exact ⟨j + 1, _, by omega, by go_num, rfl, ⟨by
          rw [hst.out, jpre_snoc _ _ (by
            intro h
            have := congrArg List.length h
            rw [List.length_map, List.length_take, List.length_nil] at this
            omega), ← hs.out]
          simp [bytesOf_append]
          rfl⟩, trivial⟩
        case measure => simp [intOf]; omega
      · go_wp2
        go_roundw
        case rel => exact ⟨j + 1, _, by omega, by go_num, rfl, ⟨by
          have hj0 : j = 0 := by omega
          have h1 := hs.out
          rw [hst.out]
          subst hj0
          simp only [List.take_zero, List.map_nil, List.nil_append] at h1 ⊢
          rw [bytesOf_append, h1]
          rfl⟩, trivial⟩
        case measure => simp [intOf]; omega
    · have hje : j = ws.length := by omega
      have hs' : Hid (bytesOf s = jpre (ws.map bytesOf)) := Lib.hid (by rw [hs.out, hje, List.take_length])
      subst hje
      clear hs
      have hss : s.size ≤ 1000000000 := by
        have h1 : s.size = (jpre (ws.map bytesOf)).length := by rw [← hs'.out, bytesOf_length]
        have h2 := jpre_le (ws.map bytesOf)
        omega
      by_cases h0 : 0 < ws.length
      · have hne : ws ≠ [] := by intro h; rw [h] at h0; cases h0
        go_wp2
        go_ret
        refine ⟨_, rfl, ?_, Drawn0.refl _⟩
        rw [joined_jpre _ (by simpa using hne), ← hs'.out, bytesOf_append]
        rfl
      · have hw0 : ws = [] := List.eq_nil_of_length_eq_zero (by omega)
        have HW := Lib.hid hw0
        clear hw0
        go_wp2
        go_ret
        refine ⟨_, rfl, ?_, Drawn0.refl _⟩
        rw [hs'.out, HW.out]
        rfl
end Go.Proofs.Ytajfaieiabnknaa

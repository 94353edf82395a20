/- RingsJoin: the loops of two rows of segments, side by side; walked. -/
import Derived.Test.YtcifcohkjifadaaRg5
import Derived.Test.YtcifcohkjifadaaKn
import Derived.Test.YtcifcohkjifadaaSgRow
import Derived.Test.YtcifcohkjifadaaLx
import Derived.Test.YtcifcohkjifadaaRt6
set_option linter.unusedVariables false
set_option linter.unusedSimpArgs false
namespace Go.Proofs.Ytcifcohkjifadaa
open Go Go.RowKit Go.Proofs.Ytcifcohkjifadaa.Fx Go.Proofs.YtcifcohkjifadaaW.PrintWords
theorem args_take {ok : Nat → Prop} {W : World} : ∀ {ps : List SP} {vs : List Value} (k : Nat), Args ok W ps vs → Args ok W (ps.take k) (vs.take k)
  | [], [], k, _ => by rw [List.take_nil, List.take_nil]; exact trivial
  | _ :: _, _ :: _, 0, _ => trivial
  | p :: ps, v :: vs, k + 1, h => ⟨h.1, args_take k h.2⟩
section
variable {P : Program} {w0 : World} {ok0 : Nat → Prop} {N : Nat} {R : Rg} {ops : Array Oper} {Q : Exit → Act → World → Prop} {i : Nat} {o : Oper}
/-- The first so many of a row of slices. -/
theorem slcHv {d : Tmp} {x y : Operand} {T E : TypeId} {k : Nat} {kk : Int} {ps ps' : List SP} (hh : Pl R ops i o (some d) (.slice T x none (some y) none) true) (hR : RowTy P T E 1) (hx : Vl R i x (.vecs ps)) (hy : Vl R i y (ii kk)) (hk : kk = k) (hl : k ≤ ps.length) (hp : ps.take k = ps') : Does P w0 ok0 N R ops Q i o (some (.s d (.vecs ps'))) :=
  does_s hh fun ok a W hf hk' K hK => by
    have hT := hR.u
    obtain ⟨vs, ⟨A, c, e, hc, hF⟩, h2⟩ := hx.H hf
    have hvl := args_len h2
    have e2 : a.eval y = .int .i64 k := by rw [← hk]; exact hy.H hf
    obtain ⟨ie, hie⟩ : ∃ ie, P.info? E = some ie := by
      have hs := hR.i
      cases h : P.info? E with
      | none => rw [h] at hs; cases hs
      | some ie => exact ⟨ie, rfl⟩
    rw [List.length_map] at hc e
    have h1 : (0 : Int) ≤ (k : Int) ∧ (k : Int) ≤ (c : Nat) := ⟨by omega, by omega⟩
    have er : (execOp a.eval o).run P W = .ok (.value (.slice A k c)) W := by
      unfold execOp
      simp only [hh.op, e, Option.map_none, Option.map_some, e2, Instr.sliceAt, Sem.run_bind, run_underlying hT W, Result.andThen_ok, Instr.slice, Instr.sliceBounds, Instr.sliceBound, asIntOf, Sem.run_pure, if_pos h1, sizeOf, typeInfo, program, Sem.run, hie]
      simp [add_zero']
    unfold Oper.wp
    rw [er]
    have htl : ((vs.take k).map fun v => [v]).length = k := by rw [List.length_map, List.length_take]; omega
    refine hK _ W (Below.refl _ _) ⟨vs.take k, ⟨A, c, by rw [htl], by rw [htl]; omega, hF.imp fun W' hW hn => ?_⟩, hp ▸ args_take k h2⟩
    rw [htl] at hn
    obtain ⟨ad, ea, hr⟩ := hW (by rw [List.length_map]; omega)
    refine ⟨ad, ea, fun j c hj => hr j c ?_⟩
    rw [List.map_take, List.getElem?_take] at hj
    split at hj
    · exact hj
    · cases hj
end
abbrev mvR (N : Nat) (B : List (List Int)) : List (List Int) := B.map (List.map (· + (N : Int)))
theorem jn_succ {N k : Nat} {a b : List (Int × Int)} {s : Int × Int} (h : b[k]? = some s) : jn N a (b.take k) ++ [shS N s] = jn N a (b.take (k + 1)) := by
  unfold jn
  rw [take_succ' h, List.map_append, List.append_assoc]
  rfl
theorem ends_bad {M : Nat} {b : List (Int × Int)} {s : Int × Int} (hs : s ∈ b) (h : s.1 < 0 ∨ s.2 < 0 ∨ s.1 ≥ (M : Int) ∨ s.2 ≥ (M : Int)) : argBad (M : Int) b = true := by
  have : b.any (segBad (M : Int)) = true := List.any_eq_true.2 ⟨s, hs, by simp [segBad]; omega⟩
  unfold argBad
  rw [this]
  simp
theorem self_of {M : Nat} (hM : M ≤ 1048576) {b : List (Int × Int)} (hA : argBad (M : Int) b = true) (h : ∀ s ∈ b, 0 ≤ s.1 ∧ 0 ≤ s.2 ∧ s.1 < (M : Int) ∧ s.2 < (M : Int)) : ∃ s ∈ b, s.1 = s.2 := by
  cases hb : b.any (segBad (M : Int)) with
  | false => rw [argBad_ok hM hb] at hA; cases hA
  | true =>
    obtain ⟨s, hs, e⟩ := List.any_eq_true.1 hb
    refine ⟨s, hs, ?_⟩
    have := h s hs
    simp [segBad] at e
    omega
theorem good_succ {M k : Nat} {b : List (Int × Int)} {s : Int × Int} (p1 : b[k]? = some s) (h : ∀ s ∈ b.take k, 0 ≤ s.1 ∧ 0 ≤ s.2 ∧ s.1 < (M : Int) ∧ s.2 < (M : Int)) (hs : 0 ≤ s.1 ∧ 0 ≤ s.2 ∧ s.1 < (M : Int) ∧ s.2 < (M : Int)) : ∀ s ∈ b.take (k + 1), 0 ≤ s.1 ∧ 0 ≤ s.2 ∧ s.1 < (M : Int) ∧ s.2 < (M : Int) := fun u hu => by
  rw [take_succ' p1] at hu
  rcases List.mem_append.1 hu with hu | hu
  · exact h u hu
  · rw [List.mem_singleton.1 hu]; exact hs
set_option maxRecDepth 100000 in
set_option maxHeartbeats 8000000 in
theorem law_RingsJoin (n : Int) (a : List (Int × Int)) (m : Int) (b : List (Int × Int)) : FnC Try.prog 7 [iv n, svec a, iv m, svec b] (bv true) := by
 refine FnC.of (N := 260) Try.func7 rfl rfl (Nat.le_of_ble_eq_true rfl) (fun w0 ok0 => ?_)
 refine Tr.rs [] (.k (asg .k .c) .n) [0, 1, 2, 3] [] rfl rfl ?_
 rcases (show (n < 0) ∨ (¬ n < 0 ∧ m < 0) ∨ (¬ n < 0 ∧ ¬ m < 0 ∧ n > 100) ∨ (¬ n < 0 ∧ ¬ m < 0 ∧ ¬ n > 100 ∧ m > 100) ∨ (¬ n < 0 ∧ ¬ m < 0 ∧ ¬ n > 100 ∧ ¬ m > 100 ∧ (a.length : Int) > 100) ∨ (¬ n < 0 ∧ ¬ m < 0 ∧ ¬ n > 100 ∧ ¬ m > 100 ∧ ¬ (a.length : Int) > 100 ∧ (b.length : Int) > 100) ∨ (¬ n < 0 ∧ ¬ m < 0 ∧ ¬ n > 100 ∧ ¬ m > 100 ∧ ¬ (a.length : Int) > 100 ∧ ¬ (b.length : Int) > 100) by omega) with h1 | ⟨h1, h2⟩ | ⟨h1, h2, h3⟩ | ⟨h1, h2, h3, h4⟩ | ⟨h1, h2, h3, h4, h5⟩ | ⟨h1, h2, h3, h4, h5, h6⟩ | ⟨h1, h2, h3, h4, h5, h6⟩
 ·
  refine Tr.seq (Tr.rs [] (.k (mv .k (.b 0 rfl)) (.k (lt_ .k (.g 0 rfl) .c (decide_eq_true h1)) (.k (mv .k (.g 1 rfl)) (.k (skp (.on (.g 2 rfl) rfl rfl)) (.k (skp (.on (.g 2 rfl) rfl rfl)) (.k (pickT .k (.g 2 rfl) .c) (.k (mv .k (.g 5 rfl)) (.k (skp (.on (.g 6 rfl) rfl rfl)) (.k (skp (.on (.g 6 rfl) rfl rfl)) (.k (pickT .k (.g 6 rfl) .c) (.k (mv .k (.g 9 rfl)) (.k (skp (.on (.g 10 rfl) rfl rfl)) (.k (skp (.on (.g 10 rfl) rfl rfl)) (.k (pickT .k (.g 10 rfl) .c) (.k (mv .k (.g 13 rfl)) (.k (skp (.on (.g 14 rfl) rfl rfl)) (.k (skp (.on (.g 14 rfl) rfl rfl)) (.k (skp (.on (.g 14 rfl) rfl rfl)) (.k (pickT .k (.g 14 rfl) .c) (.k (mv .k (.g 18 rfl)) (.k (skp (.on (.g 19 rfl) rfl rfl)) (.k (skp (.on (.g 19 rfl) rfl rfl)) (.k (skp (.on (.g 19 rfl) rfl rfl)) (.k (pickT .k (.g 19 rfl) .c) .n)))))))))))))))))))))))) [0, 1, 2, 3] [23] rfl rfl ?_)
  refine Tr.cond 4 rfl (fun _ => ?_) nofun
  refine Tr.rs [] (.k (cal .k Try.func10 rfl fn_known .n) (.k (asg .k (.g 0 rfl)) .n)) [] [1] rfl rfl ?_
  refine Tr.ret (end_tmp 0 rfl rfl)
 ·
  refine Tr.seq (Tr.rs [] (.k (mv .k (.b 0 rfl)) (.k (lt_ .k (.g 0 rfl) .c (decide_eq_false h1)) (.k (mv .k (.g 1 rfl)) (.k (mv (.on (.g 2 rfl) rfl rfl) (.b 2 rfl)) (.k (lt_ (.on (.g 2 rfl) rfl rfl) (.g 3 rfl) .c (decide_eq_true h2)) (.k (pickF .k (.g 2 rfl) (.g 4 rfl)) (.k (mv .k (.g 5 rfl)) (.k (skp (.on (.g 6 rfl) rfl rfl)) (.k (skp (.on (.g 6 rfl) rfl rfl)) (.k (pickT .k (.g 6 rfl) .c) (.k (mv .k (.g 9 rfl)) (.k (skp (.on (.g 10 rfl) rfl rfl)) (.k (skp (.on (.g 10 rfl) rfl rfl)) (.k (pickT .k (.g 10 rfl) .c) (.k (mv .k (.g 13 rfl)) (.k (skp (.on (.g 14 rfl) rfl rfl)) (.k (skp (.on (.g 14 rfl) rfl rfl)) (.k (skp (.on (.g 14 rfl) rfl rfl)) (.k (pickT .k (.g 14 rfl) .c) (.k (mv .k (.g 18 rfl)) (.k (skp (.on (.g 19 rfl) rfl rfl)) (.k (skp (.on (.g 19 rfl) rfl rfl)) (.k (skp (.on (.g 19 rfl) rfl rfl)) (.k (pickT .k (.g 19 rfl) .c) .n)))))))))))))))))))))))) [0, 1, 2, 3] [23] rfl rfl ?_)
  refine Tr.cond 4 rfl (fun _ => ?_) nofun
  refine Tr.rs [] (.k (cal .k Try.func10 rfl fn_known .n) (.k (asg .k (.g 0 rfl)) .n)) [] [1] rfl rfl ?_
  refine Tr.ret (end_tmp 0 rfl rfl)
 ·
  refine Tr.seq (Tr.rs [] (.k (mv .k (.b 0 rfl)) (.k (lt_ .k (.g 0 rfl) .c (decide_eq_false h1)) (.k (mv .k (.g 1 rfl)) (.k (mv (.on (.g 2 rfl) rfl rfl) (.b 2 rfl)) (.k (lt_ (.on (.g 2 rfl) rfl rfl) (.g 3 rfl) .c (decide_eq_false h2)) (.k (pickF .k (.g 2 rfl) (.g 4 rfl)) (.k (mv .k (.g 5 rfl)) (.k (mv (.on (.g 6 rfl) rfl rfl) (.b 0 rfl)) (.k (gt_ (.on (.g 6 rfl) rfl rfl) (.g 7 rfl) .c (decide_eq_true h3)) (.k (pickF .k (.g 6 rfl) (.g 8 rfl)) (.k (mv .k (.g 9 rfl)) (.k (skp (.on (.g 10 rfl) rfl rfl)) (.k (skp (.on (.g 10 rfl) rfl rfl)) (.k (pickT .k (.g 10 rfl) .c) (.k (mv .k (.g 13 rfl)) (.k (skp (.on (.g 14 rfl) rfl rfl)) (.k (skp (.on (.g 14 rfl) rfl rfl)) (.k (skp (.on (.g 14 rfl) rfl rfl)) (.k (pickT .k (.g 14 rfl) .c) (.k (mv .k (.g 18 rfl)) (.k (skp (.on (.g 19 rfl) rfl rfl)) (.k (skp (.on (.g 19 rfl) rfl rfl)) (.k (skp (.on (.g 19 rfl) rfl rfl)) (.k (pickT .k (.g 19 rfl) .c) .n)))))))))))))))))))))))) [0, 1, 2, 3] [23] rfl rfl ?_)
  refine Tr.cond 4 rfl (fun _ => ?_) nofun
  refine Tr.rs [] (.k (cal .k Try.func10 rfl fn_known .n) (.k (asg .k (.g 0 rfl)) .n)) [] [1] rfl rfl ?_
  refine Tr.ret (end_tmp 0 rfl rfl)
 ·
  refine Tr.seq (Tr.rs [] (.k (mv .k (.b 0 rfl)) (.k (lt_ .k (.g 0 rfl) .c (decide_eq_false h1)) (.k (mv .k (.g 1 rfl)) (.k (mv (.on (.g 2 rfl) rfl rfl) (.b 2 rfl)) (.k (lt_ (.on (.g 2 rfl) rfl rfl) (.g 3 rfl) .c (decide_eq_false h2)) (.k (pickF .k (.g 2 rfl) (.g 4 rfl)) (.k (mv .k (.g 5 rfl)) (.k (mv (.on (.g 6 rfl) rfl rfl) (.b 0 rfl)) (.k (gt_ (.on (.g 6 rfl) rfl rfl) (.g 7 rfl) .c (decide_eq_false h3)) (.k (pickF .k (.g 6 rfl) (.g 8 rfl)) (.k (mv .k (.g 9 rfl)) (.k (mv (.on (.g 10 rfl) rfl rfl) (.b 2 rfl)) (.k (gt_ (.on (.g 10 rfl) rfl rfl) (.g 11 rfl) .c (decide_eq_true h4)) (.k (pickF .k (.g 10 rfl) (.g 12 rfl)) (.k (mv .k (.g 13 rfl)) (.k (skp (.on (.g 14 rfl) rfl rfl)) (.k (skp (.on (.g 14 rfl) rfl rfl)) (.k (skp (.on (.g 14 rfl) rfl rfl)) (.k (pickT .k (.g 14 rfl) .c) (.k (mv .k (.g 18 rfl)) (.k (skp (.on (.g 19 rfl) rfl rfl)) (.k (skp (.on (.g 19 rfl) rfl rfl)) (.k (skp (.on (.g 19 rfl) rfl rfl)) (.k (pickT .k (.g 19 rfl) .c) .n)))))))))))))))))))))))) [0, 1, 2, 3] [23] rfl rfl ?_)
  refine Tr.cond 4 rfl (fun _ => ?_) nofun
  refine Tr.rs [] (.k (cal .k Try.func10 rfl fn_known .n) (.k (asg .k (.g 0 rfl)) .n)) [] [1] rfl rfl ?_
  refine Tr.ret (end_tmp 0 rfl rfl)
 ·
  refine Tr.seq (Tr.rs [] (.k (mv .k (.b 0 rfl)) (.k (lt_ .k (.g 0 rfl) .c (decide_eq_false h1)) (.k (mv .k (.g 1 rfl)) (.k (mv (.on (.g 2 rfl) rfl rfl) (.b 2 rfl)) (.k (lt_ (.on (.g 2 rfl) rfl rfl) (.g 3 rfl) .c (decide_eq_false h2)) (.k (pickF .k (.g 2 rfl) (.g 4 rfl)) (.k (mv .k (.g 5 rfl)) (.k (mv (.on (.g 6 rfl) rfl rfl) (.b 0 rfl)) (.k (gt_ (.on (.g 6 rfl) rfl rfl) (.g 7 rfl) .c (decide_eq_false h3)) (.k (pickF .k (.g 6 rfl) (.g 8 rfl)) (.k (mv .k (.g 9 rfl)) (.k (mv (.on (.g 10 rfl) rfl rfl) (.b 2 rfl)) (.k (gt_ (.on (.g 10 rfl) rfl rfl) (.g 11 rfl) .c (decide_eq_false h4)) (.k (pickF .k (.g 10 rfl) (.g 12 rfl)) (.k (mv .k (.g 13 rfl)) (.k (mv (.on (.g 14 rfl) rfl rfl) (.b 1 rfl)) (.k (len_ (.on (.g 14 rfl) rfl rfl) rwS (.g 15 rfl) (by rw [List.length_map])) (.k (gt_ (.on (.g 14 rfl) rfl rfl) (.g 16 rfl) .c (decide_eq_true h5)) (.k (pickF .k (.g 14 rfl) (.g 17 rfl)) (.k (mv .k (.g 18 rfl)) (.k (skp (.on (.g 19 rfl) rfl rfl)) (.k (skp (.on (.g 19 rfl) rfl rfl)) (.k (skp (.on (.g 19 rfl) rfl rfl)) (.k (pickT .k (.g 19 rfl) .c) .n)))))))))))))))))))))))) [0, 1, 2, 3] [23] rfl rfl ?_)
  refine Tr.cond 4 rfl (fun _ => ?_) nofun
  refine Tr.rs [] (.k (cal .k Try.func10 rfl fn_known .n) (.k (asg .k (.g 0 rfl)) .n)) [] [1] rfl rfl ?_
  refine Tr.ret (end_tmp 0 rfl rfl)
 ·
  refine Tr.seq (Tr.rs [] (.k (mv .k (.b 0 rfl)) (.k (lt_ .k (.g 0 rfl) .c (decide_eq_false h1)) (.k (mv .k (.g 1 rfl)) (.k (mv (.on (.g 2 rfl) rfl rfl) (.b 2 rfl)) (.k (lt_ (.on (.g 2 rfl) rfl rfl) (.g 3 rfl) .c (decide_eq_false h2)) (.k (pickF .k (.g 2 rfl) (.g 4 rfl)) (.k (mv .k (.g 5 rfl)) (.k (mv (.on (.g 6 rfl) rfl rfl) (.b 0 rfl)) (.k (gt_ (.on (.g 6 rfl) rfl rfl) (.g 7 rfl) .c (decide_eq_false h3)) (.k (pickF .k (.g 6 rfl) (.g 8 rfl)) (.k (mv .k (.g 9 rfl)) (.k (mv (.on (.g 10 rfl) rfl rfl) (.b 2 rfl)) (.k (gt_ (.on (.g 10 rfl) rfl rfl) (.g 11 rfl) .c (decide_eq_false h4)) (.k (pickF .k (.g 10 rfl) (.g 12 rfl)) (.k (mv .k (.g 13 rfl)) (.k (mv (.on (.g 14 rfl) rfl rfl) (.b 1 rfl)) (.k (len_ (.on (.g 14 rfl) rfl rfl) rwS (.g 15 rfl) (by rw [List.length_map])) (.k (gt_ (.on (.g 14 rfl) rfl rfl) (.g 16 rfl) .c (decide_eq_false h5)) (.k (pickF .k (.g 14 rfl) (.g 17 rfl)) (.k (mv .k (.g 18 rfl)) (.k (mv (.on (.g 19 rfl) rfl rfl) (.b 3 rfl)) (.k (len_ (.on (.g 19 rfl) rfl rfl) rwS (.g 20 rfl) (by rw [List.length_map])) (.k (gt_ (.on (.g 19 rfl) rfl rfl) (.g 21 rfl) .c (decide_eq_true h6)) (.k (pickF .k (.g 19 rfl) (.g 22 rfl)) .n)))))))))))))))))))))))) [0, 1, 2, 3] [23] rfl rfl ?_)
  refine Tr.cond 4 rfl (fun _ => ?_) nofun
  refine Tr.rs [] (.k (cal .k Try.func10 rfl fn_known .n) (.k (asg .k (.g 0 rfl)) .n)) [] [1] rfl rfl ?_
  refine Tr.ret (end_tmp 0 rfl rfl)
 ·
  refine Tr.seq (Tr.rs [] (.k (mv .k (.b 0 rfl)) (.k (lt_ .k (.g 0 rfl) .c (decide_eq_false h1)) (.k (mv .k (.g 1 rfl)) (.k (mv (.on (.g 2 rfl) rfl rfl) (.b 2 rfl)) (.k (lt_ (.on (.g 2 rfl) rfl rfl) (.g 3 rfl) .c (decide_eq_false h2)) (.k (pickF .k (.g 2 rfl) (.g 4 rfl)) (.k (mv .k (.g 5 rfl)) (.k (mv (.on (.g 6 rfl) rfl rfl) (.b 0 rfl)) (.k (gt_ (.on (.g 6 rfl) rfl rfl) (.g 7 rfl) .c (decide_eq_false h3)) (.k (pickF .k (.g 6 rfl) (.g 8 rfl)) (.k (mv .k (.g 9 rfl)) (.k (mv (.on (.g 10 rfl) rfl rfl) (.b 2 rfl)) (.k (gt_ (.on (.g 10 rfl) rfl rfl) (.g 11 rfl) .c (decide_eq_false h4)) (.k (pickF .k (.g 10 rfl) (.g 12 rfl)) (.k (mv .k (.g 13 rfl)) (.k (mv (.on (.g 14 rfl) rfl rfl) (.b 1 rfl)) (.k (len_ (.on (.g 14 rfl) rfl rfl) rwS (.g 15 rfl) (by rw [List.length_map])) (.k (gt_ (.on (.g 14 rfl) rfl rfl) (.g 16 rfl) .c (decide_eq_false h5)) (.k (pickF .k (.g 14 rfl) (.g 17 rfl)) (.k (mv .k (.g 18 rfl)) (.k (mv (.on (.g 19 rfl) rfl rfl) (.b 3 rfl)) (.k (len_ (.on (.g 19 rfl) rfl rfl) rwS (.g 20 rfl) (by rw [List.length_map])) (.k (gt_ (.on (.g 19 rfl) rfl rfl) (.g 21 rfl) .c (decide_eq_false h6)) (.k (pickF .k (.g 19 rfl) (.g 22 rfl)) .n)))))))))))))))))))))))) [0, 1, 2, 3] [23] rfl rfl ?_)
  refine Tr.cond 4 rfl nofun (fun _ => ?_)
  refine Tr.skip (Nx.go (?_))
  rcases ring_ways n a with hA | ⟨N, rfl, hN, hok, hT | ⟨hT, hI | hI⟩⟩
  ·
   refine Tr.rs [] (.k (mv .k (.b 0 rfl)) (.k (mv .k (.b 1 rfl)) (.k (cal .k Try.func13 rfl (fn_Rings_of (ringsR_bad hA) (by omega)) (.k (.g 0 rfl) (.k (.g 1 rfl) .n))) (.k (mv .k (.g 2 rfl)) (.k (exx .k (.g 3 rfl) rfl) (.k (exx .k (.g 3 rfl) rfl) (.k (exx .k (.g 3 rfl) rfl) (.k (asg .k (.g 4 rfl)) (.k (asg .k (.g 5 rfl)) (.k (asg .k (.g 6 rfl)) .n)))))))))) [0, 1, 2, 3] [7, 9] rfl rfl ?_
   refine Tr.rs [] (.k (mv .k (.b 2 rfl)) (.k (mv .k (.b 3 rfl)) (.k (cal .k Try.func13 rfl (fn_Rings m b (by omega)) (.k (.g 0 rfl) (.k (.g 1 rfl) .n))) (.k (mv .k (.g 2 rfl)) (.k (exx .k (.g 3 rfl) rfl) (.k (exx .k (.g 3 rfl) rfl) (.k (exx .k (.g 3 rfl) rfl) (.k (asg .k (.g 4 rfl)) (.k (asg .k (.g 5 rfl)) (.k (asg .k (.g 6 rfl)) .n)))))))))) [0, 1, 2, 3, 4, 5] [7, 8, 9] rfl rfl ?_
   refine Tr.seq (Tr.rs [] (.k (mv .k (.b 5 rfl)) (.k (ne_ .k (.g 0 rfl) .c rfl) .n)) [0, 1, 2, 3, 4, 5, 6, 7, 8] [1] rfl rfl ?_)
   refine Tr.cond 9 rfl (fun _ => ?_) nofun
   refine Tr.rs [] (.k (mv .k (.b 4 rfl)) (.k (lenv .k rwL (.g 0 rfl) rfl) (.k (eq_ .k (.g 1 rfl) .c (show (_ == _) = true from rfl)) (.k (mv .k (.g 2 rfl)) (.k (cal (.on (.g 3 rfl) rfl rfl) Try.func10 rfl fn_known .n) (.k (pickT .k (.g 3 rfl) (.g 4 rfl)) (.k (asg .k (.g 5 rfl)) .n))))))) [] [6] rfl rfl ?_
   refine Tr.ret (end_tmp 0 rfl rfl)
  ·
   have hA := argBad_ok hN hok
   refine Tr.rs [] (.k (mv .k (.b 0 rfl)) (.k (mv .k (.b 1 rfl)) (.k (cal .k Try.func13 rfl (fn_Rings_of (ringsR_tw hA hT) (by omega)) (.k (.g 0 rfl) (.k (.g 1 rfl) .n))) (.k (mv .k (.g 2 rfl)) (.k (exx .k (.g 3 rfl) rfl) (.k (exx .k (.g 3 rfl) rfl) (.k (exx .k (.g 3 rfl) rfl) (.k (asg .k (.g 4 rfl)) (.k (asg .k (.g 5 rfl)) (.k (asg .k (.g 6 rfl)) .n)))))))))) [0, 1, 2, 3] [7, 9] rfl rfl ?_
   refine Tr.rs [] (.k (mv .k (.b 2 rfl)) (.k (mv .k (.b 3 rfl)) (.k (cal .k Try.func13 rfl (fn_Rings m b (by omega)) (.k (.g 0 rfl) (.k (.g 1 rfl) .n))) (.k (mv .k (.g 2 rfl)) (.k (exx .k (.g 3 rfl) rfl) (.k (exx .k (.g 3 rfl) rfl) (.k (exx .k (.g 3 rfl) rfl) (.k (asg .k (.g 4 rfl)) (.k (asg .k (.g 5 rfl)) (.k (asg .k (.g 6 rfl)) .n)))))))))) [0, 1, 2, 3, 4, 5] [7, 8, 9] rfl rfl ?_
   refine Tr.seq (Tr.rs [] (.k (mv .k (.b 5 rfl)) (.k (ne_ .k (.g 0 rfl) .c rfl) .n)) [0, 1, 2, 3, 4, 5, 6, 7, 8] [1] rfl rfl ?_)
   refine Tr.cond 9 rfl (fun _ => ?_) nofun
   refine Tr.rs [] (.k (mv .k (.b 4 rfl)) (.k (lenv .k rwL (.g 0 rfl) rfl) (.k (eq_ .k (.g 1 rfl) .c (show (_ == _) = true from rfl)) (.k (mv .k (.g 2 rfl)) (.k (cal (.on (.g 3 rfl) rfl rfl) Try.func10 rfl fn_known .n) (.k (pickT .k (.g 3 rfl) (.g 4 rfl)) (.k (asg .k (.g 5 rfl)) .n))))))) [] [6] rfl rfl ?_
   refine Tr.ret (end_tmp 0 rfl rfl)
  ·
   have hA := argBad_ok hN hok
   refine Tr.rs [] (.k (mv .k (.b 0 rfl)) (.k (mv .k (.b 1 rfl)) (.k (cal .k Try.func13 rfl (fn_Rings_of (ringsR_ix hA hT hI) (by omega)) (.k (.g 0 rfl) (.k (.g 1 rfl) .n))) (.k (mv .k (.g 2 rfl)) (.k (exx .k (.g 3 rfl) rfl) (.k (exx .k (.g 3 rfl) rfl) (.k (exx .k (.g 3 rfl) rfl) (.k (asg .k (.g 4 rfl)) (.k (asg .k (.g 5 rfl)) (.k (asg .k (.g 6 rfl)) .n)))))))))) [0, 1, 2, 3] [7, 9] rfl rfl ?_
   refine Tr.rs [] (.k (mv .k (.b 2 rfl)) (.k (mv .k (.b 3 rfl)) (.k (cal .k Try.func13 rfl (fn_Rings m b (by omega)) (.k (.g 0 rfl) (.k (.g 1 rfl) .n))) (.k (mv .k (.g 2 rfl)) (.k (exx .k (.g 3 rfl) rfl) (.k (exx .k (.g 3 rfl) rfl) (.k (exx .k (.g 3 rfl) rfl) (.k (asg .k (.g 4 rfl)) (.k (asg .k (.g 5 rfl)) (.k (asg .k (.g 6 rfl)) .n)))))))))) [0, 1, 2, 3, 4, 5] [7, 8, 9] rfl rfl ?_
   refine Tr.seq (Tr.rs [] (.k (mv .k (.b 5 rfl)) (.k (ne_ .k (.g 0 rfl) .c rfl) .n)) [0, 1, 2, 3, 4, 5, 6, 7, 8] [1] rfl rfl ?_)
   refine Tr.cond 9 rfl (fun _ => ?_) nofun
   refine Tr.rs [] (.k (mv .k (.b 4 rfl)) (.k (lenv .k rwL (.g 0 rfl) rfl) (.k (eq_ .k (.g 1 rfl) .c (show (_ == _) = true from rfl)) (.k (mv .k (.g 2 rfl)) (.k (cal (.on (.g 3 rfl) rfl rfl) Try.func10 rfl fn_known .n) (.k (pickT .k (.g 3 rfl) (.g 4 rfl)) (.k (asg .k (.g 5 rfl)) .n))))))) [] [6] rfl rfl ?_
   refine Tr.ret (end_tmp 0 rfl rfl)
  ·
   have hA0 := argBad_ok hN hok
   obtain ⟨A, hA1⟩ : ∃ A, ringsR N a = (A, 0, 0) := ⟨_, ringsR_ok hA0 hT hI⟩
   obtain ⟨M, rfl⟩ : ∃ M : Nat, m = M := ⟨m.toNat, by omega⟩
   obtain ⟨B, q, e, hB⟩ : ∃ B q e, ringsR M b = (B, q, e) := ⟨_, _, _, rfl⟩
   refine Tr.rs [] (.k (mv .k (.b 0 rfl)) (.k (mv .k (.b 1 rfl)) (.k (cal .k Try.func13 rfl (fn_Rings_of hA1 (by omega)) (.k (.g 0 rfl) (.k (.g 1 rfl) .n))) (.k (mv .k (.g 2 rfl)) (.k (exx .k (.g 3 rfl) rfl) (.k (exx .k (.g 3 rfl) rfl) (.k (exx .k (.g 3 rfl) rfl) (.k (asg .k (.g 4 rfl)) (.k (asg .k (.g 5 rfl)) (.k (asg .k (.g 6 rfl)) .n)))))))))) [0, 1, 2, 3] [7, 9] rfl rfl ?_
   refine Tr.rs [] (.k (mv .k (.b 2 rfl)) (.k (mv .k (.b 3 rfl)) (.k (cal .k Try.func13 rfl (fn_Rings_of hB (by omega)) (.k (.g 0 rfl) (.k (.g 1 rfl) .n))) (.k (mv .k (.g 2 rfl)) (.k (exx .k (.g 3 rfl) rfl) (.k (exx .k (.g 3 rfl) rfl) (.k (exx .k (.g 3 rfl) rfl) (.k (asg .k (.g 4 rfl)) (.k (asg .k (.g 5 rfl)) (.k (asg .k (.g 6 rfl)) .n)))))))))) [0, 1, 2, 3, 4, 5] [7, 8, 9] rfl rfl ?_
   refine Tr.seq (Tr.rs [] (.k (mv .k (.b 5 rfl)) (.k (ne_ .k (.g 0 rfl) .c rfl) .n)) [0, 1, 2, 3, 4, 5, 6, 7, 8] [1] rfl rfl ?_)
   refine Tr.cond 9 rfl nofun (fun _ => ?_)
   refine Tr.skip (Nx.go (Tr.rs [] (.k (oini (sz := 2) (E := 36) .k (.inl rfl)) .n) [0, 1, 2, 3, 4, 5, 6, 7, 8] [0] rfl rfl ?_))
   refine Tr.gos (Go.k (omv .k (.inr rfl) (.b 9 rfl)) [0, 1, 2, 3, 4, 5, 6, 7, 8] rfl rfl (Go.k (mv .k (.b 2 rfl)) [0, 1, 2, 3, 4, 5, 6, 7, 8, 9] rfl rfl (Go.k (oapa .k apS (.b 1 rfl) (.b 0 rfl) (by decide) ⟨(show _ = (jn N a (b.take 0)).map sgc by unfold jn; rw [List.take_zero, List.map_nil, List.append_nil]; exact List.nil_append _), seg_all a, by rw [List.length_map]; simp; omega⟩) [2, 3, 4, 5, 6, 7, 8, 9, 10] rfl rfl (Go.k (omv .k (.inl rfl) (.b 0 rfl)) [1, 2, 3, 4, 5, 6, 7, 8, 9] rfl rfl (Go.end_ (Nx.go (?_)))))))
   refine Tr.seq (Tr.rs [] (.k (asg .k .c) .n) [0, 1, 2, 3, 4, 5, 6, 7, 8, 9] [0] rfl rfl ?_)
   refine Tr.block (?_)
   refine Tr.loop (fun n_ F_ => ∃ k : Nat, (k ≤ b.length ∧ ∀ s ∈ b.take k, 0 ≤ s.1 ∧ 0 ≤ s.2 ∧ s.1 < (M : Int) ∧ s.2 < (M : Int)) ∧ n_ = b.length - k ∧ F_ = [.s 0 (iv ((N : Nat) : Int)), .s 1 (svec a), .s 2 (iv ((M : Nat) : Int)), .s 3 (svec b), .s 9 (lvec A), .s 11 (iv 0), .s 12 (lvec B), .s 13 (iv q), .s 14 (iv e), .o 15 2 36 ((jn N a (b.take k)).map sgc), .s 16 (iv ((k : Nat) : Int))]) (b.length - 0) (F0 := [.s 0 (iv ((N : Nat) : Int)), .s 1 (svec a), .s 2 (iv ((M : Nat) : Int)), .s 3 (svec b), .s 9 (lvec A), .s 11 (iv 0), .s 12 (lvec B), .s 13 (iv q), .s 14 (iv e), .o 15 2 36 ((jn N a (b.take 0)).map sgc), .s 16 (iv ((0 : Nat) : Int))]) ⟨0, ⟨Nat.zero_le _, fun s hs => by cases hs⟩, rfl, rfl⟩ (Sub.all (.cons 1 rfl (.cons 2 rfl (.cons 3 rfl (.cons 4 rfl (.cons 5 rfl (.cons 6 rfl (.cons 7 rfl (.cons 8 rfl (.cons 9 rfl (.cons 0 rfl (.cons 10 rfl .nil)))))))))))) (fun n_ F_ hI => ?_)
   obtain ⟨k, hinv, rfl, rfl⟩ := hI
   refine Tr.seq (Tr.rs [] (.k (mv .k (.b 10 rfl)) (.k (mv .k (.b 3 rfl)) (.k (len_ .k rwS (.g 1 rfl) (by rw [List.length_map])) (.k (lt_ .k (.g 0 rfl) (.g 2 rfl) rfl) .n)))) [0, 1, 2, 3, 4, 5, 6, 7, 8, 9, 10] [3] rfl rfl ?_)
   refine Tr.cond 11 rfl (fun e75 => ?_) (fun e75 => ?_)
   ·
    have hk2 : k < b.length := by have := of_decide_eq_true e75; omega
    refine Tr.skip (Nx.go (Tr.seq (Tr.block (?_))))
    obtain ⟨s, p1⟩ : ∃ s, b[k]? = some s := ⟨_, List.getElem?_eq_getElem hk2⟩; rcases (show s.1 < 0 ∨ (¬ s.1 < 0 ∧ s.2 < 0) ∨ (¬ s.1 < 0 ∧ ¬ s.2 < 0 ∧ s.1 ≥ (M : Int)) ∨ (¬ s.1 < 0 ∧ ¬ s.2 < 0 ∧ ¬ s.1 ≥ (M : Int) ∧ s.2 ≥ (M : Int)) ∨ (¬ s.1 < 0 ∧ ¬ s.2 < 0 ∧ ¬ s.1 ≥ (M : Int) ∧ ¬ s.2 ≥ (M : Int)) by omega) with g1 | ⟨g1, g2⟩ | ⟨g1, g2, g3⟩ | ⟨g1, g2, g3, g4⟩ | ⟨g1, g2, g3, g4⟩
    ·
     have he : e = 2 := by have := ringsR_bad (ends_bad (M := M) (List.mem_of_getElem? p1) (by omega)); rw [hB] at this; simp only [Prod.mk.injEq] at this; exact this.2.2
     refine Tr.seq (Tr.rs [] (.k (mv .k (.b 3 rfl)) (.k (mv .k (.b 10 rfl)) (.k (idx_ .k rwS (.g 0 rfl) (.g 1 rfl) rfl (by rw [List.getElem?_map, p1]; rfl)) (.k (fat .k (.g 2 rfl) aSA rfl) (.k (ldc_at .k (.g 3 rfl) tyI) (.k (lt_ .k (.g 4 rfl) .c (decide_eq_true g1)) (.k (mv .k (.g 5 rfl)) (.k (skp (.on (.g 6 rfl) rfl rfl)) (.k (skp (.on (.g 6 rfl) rfl rfl)) (.k (skp (.on (.g 6 rfl) rfl rfl)) (.k (skp (.on (.g 6 rfl) rfl rfl)) (.k (skp (.on (.g 6 rfl) rfl rfl)) (.k (skp (.on (.g 6 rfl) rfl rfl)) (.k (pickT .k (.g 6 rfl) .c) (.k (mv .k (.g 13 rfl)) (.k (skp (.on (.g 14 rfl) rfl rfl)) (.k (skp (.on (.g 14 rfl) rfl rfl)) (.k (skp (.on (.g 14 rfl) rfl rfl)) (.k (skp (.on (.g 14 rfl) rfl rfl)) (.k (skp (.on (.g 14 rfl) rfl rfl)) (.k (skp (.on (.g 14 rfl) rfl rfl)) (.k (skp (.on (.g 14 rfl) rfl rfl)) (.k (pickT .k (.g 14 rfl) .c) (.k (mv .k (.g 22 rfl)) (.k (skp (.on (.g 23 rfl) rfl rfl)) (.k (skp (.on (.g 23 rfl) rfl rfl)) (.k (skp (.on (.g 23 rfl) rfl rfl)) (.k (skp (.on (.g 23 rfl) rfl rfl)) (.k (skp (.on (.g 23 rfl) rfl rfl)) (.k (skp (.on (.g 23 rfl) rfl rfl)) (.k (skp (.on (.g 23 rfl) rfl rfl)) (.k (pickT .k (.g 23 rfl) .c) .n)))))))))))))))))))))))))))))))) [0, 1, 2, 3, 4, 5, 6, 7, 8, 9, 10] [31] rfl rfl ?_)
     refine Tr.cond 11 rfl (fun _ => ?_) nofun
     refine Tr.rs [] (.k (mv .k (.b 8 rfl)) (.k (eq_ .k (.g 0 rfl) .c (beq_iff_eq.2 he)) (.k (mv .k (.g 1 rfl)) (.k (cal (.on (.g 2 rfl) rfl rfl) Try.func10 rfl fn_known .n) (.k (pickT .k (.g 2 rfl) (.g 3 rfl)) (.k (asg .k (.g 4 rfl)) .n)))))) [] [5] rfl rfl ?_
     refine Tr.ret (end_tmp 0 rfl rfl)
    ·
     have he : e = 2 := by have := ringsR_bad (ends_bad (M := M) (List.mem_of_getElem? p1) (by omega)); rw [hB] at this; simp only [Prod.mk.injEq] at this; exact this.2.2
     refine Tr.seq (Tr.rs [] (.k (mv .k (.b 3 rfl)) (.k (mv .k (.b 10 rfl)) (.k (idx_ .k rwS (.g 0 rfl) (.g 1 rfl) rfl (by rw [List.getElem?_map, p1]; rfl)) (.k (fat .k (.g 2 rfl) aSA rfl) (.k (ldc_at .k (.g 3 rfl) tyI) (.k (lt_ .k (.g 4 rfl) .c (decide_eq_false g1)) (.k (mv .k (.g 5 rfl)) (.k (mv (.on (.g 6 rfl) rfl rfl) (.b 3 rfl)) (.k (mv (.on (.g 6 rfl) rfl rfl) (.b 10 rfl)) (.k (idx_ (.on (.g 6 rfl) rfl rfl) rwS (.g 7 rfl) (.g 8 rfl) rfl (by rw [List.getElem?_map, p1]; rfl)) (.k (fat (.on (.g 6 rfl) rfl rfl) (.g 9 rfl) aSB rfl) (.k (ldc_at (.on (.g 6 rfl) rfl rfl) (.g 10 rfl) tyI) (.k (lt_ (.on (.g 6 rfl) rfl rfl) (.g 11 rfl) .c (decide_eq_true g2)) (.k (pickF .k (.g 6 rfl) (.g 12 rfl)) (.k (mv .k (.g 13 rfl)) (.k (skp (.on (.g 14 rfl) rfl rfl)) (.k (skp (.on (.g 14 rfl) rfl rfl)) (.k (skp (.on (.g 14 rfl) rfl rfl)) (.k (skp (.on (.g 14 rfl) rfl rfl)) (.k (skp (.on (.g 14 rfl) rfl rfl)) (.k (skp (.on (.g 14 rfl) rfl rfl)) (.k (skp (.on (.g 14 rfl) rfl rfl)) (.k (pickT .k (.g 14 rfl) .c) (.k (mv .k (.g 22 rfl)) (.k (skp (.on (.g 23 rfl) rfl rfl)) (.k (skp (.on (.g 23 rfl) rfl rfl)) (.k (skp (.on (.g 23 rfl) rfl rfl)) (.k (skp (.on (.g 23 rfl) rfl rfl)) (.k (skp (.on (.g 23 rfl) rfl rfl)) (.k (skp (.on (.g 23 rfl) rfl rfl)) (.k (skp (.on (.g 23 rfl) rfl rfl)) (.k (pickT .k (.g 23 rfl) .c) .n)))))))))))))))))))))))))))))))) [0, 1, 2, 3, 4, 5, 6, 7, 8, 9, 10] [31] rfl rfl ?_)
     refine Tr.cond 11 rfl (fun _ => ?_) nofun
     refine Tr.rs [] (.k (mv .k (.b 8 rfl)) (.k (eq_ .k (.g 0 rfl) .c (beq_iff_eq.2 he)) (.k (mv .k (.g 1 rfl)) (.k (cal (.on (.g 2 rfl) rfl rfl) Try.func10 rfl fn_known .n) (.k (pickT .k (.g 2 rfl) (.g 3 rfl)) (.k (asg .k (.g 4 rfl)) .n)))))) [] [5] rfl rfl ?_
     refine Tr.ret (end_tmp 0 rfl rfl)
    ·
     have he : e = 2 := by have := ringsR_bad (ends_bad (M := M) (List.mem_of_getElem? p1) (by omega)); rw [hB] at this; simp only [Prod.mk.injEq] at this; exact this.2.2
     refine Tr.seq (Tr.rs [] (.k (mv .k (.b 3 rfl)) (.k (mv .k (.b 10 rfl)) (.k (idx_ .k rwS (.g 0 rfl) (.g 1 rfl) rfl (by rw [List.getElem?_map, p1]; rfl)) (.k (fat .k (.g 2 rfl) aSA rfl) (.k (ldc_at .k (.g 3 rfl) tyI) (.k (lt_ .k (.g 4 rfl) .c (decide_eq_false g1)) (.k (mv .k (.g 5 rfl)) (.k (mv (.on (.g 6 rfl) rfl rfl) (.b 3 rfl)) (.k (mv (.on (.g 6 rfl) rfl rfl) (.b 10 rfl)) (.k (idx_ (.on (.g 6 rfl) rfl rfl) rwS (.g 7 rfl) (.g 8 rfl) rfl (by rw [List.getElem?_map, p1]; rfl)) (.k (fat (.on (.g 6 rfl) rfl rfl) (.g 9 rfl) aSB rfl) (.k (ldc_at (.on (.g 6 rfl) rfl rfl) (.g 10 rfl) tyI) (.k (lt_ (.on (.g 6 rfl) rfl rfl) (.g 11 rfl) .c (decide_eq_false g2)) (.k (pickF .k (.g 6 rfl) (.g 12 rfl)) (.k (mv .k (.g 13 rfl)) (.k (mv (.on (.g 14 rfl) rfl rfl) (.b 3 rfl)) (.k (mv (.on (.g 14 rfl) rfl rfl) (.b 10 rfl)) (.k (idx_ (.on (.g 14 rfl) rfl rfl) rwS (.g 15 rfl) (.g 16 rfl) rfl (by rw [List.getElem?_map, p1]; rfl)) (.k (fat (.on (.g 14 rfl) rfl rfl) (.g 17 rfl) aSA rfl) (.k (ldc_at (.on (.g 14 rfl) rfl rfl) (.g 18 rfl) tyI) (.k (mv (.on (.g 14 rfl) rfl rfl) (.b 2 rfl)) (.k (ge_ (.on (.g 14 rfl) rfl rfl) (.g 19 rfl) (.g 20 rfl) (decide_eq_true g3)) (.k (pickF .k (.g 14 rfl) (.g 21 rfl)) (.k (mv .k (.g 22 rfl)) (.k (skp (.on (.g 23 rfl) rfl rfl)) (.k (skp (.on (.g 23 rfl) rfl rfl)) (.k (skp (.on (.g 23 rfl) rfl rfl)) (.k (skp (.on (.g 23 rfl) rfl rfl)) (.k (skp (.on (.g 23 rfl) rfl rfl)) (.k (skp (.on (.g 23 rfl) rfl rfl)) (.k (skp (.on (.g 23 rfl) rfl rfl)) (.k (pickT .k (.g 23 rfl) .c) .n)))))))))))))))))))))))))))))))) [0, 1, 2, 3, 4, 5, 6, 7, 8, 9, 10] [31] rfl rfl ?_)
     refine Tr.cond 11 rfl (fun _ => ?_) nofun
     refine Tr.rs [] (.k (mv .k (.b 8 rfl)) (.k (eq_ .k (.g 0 rfl) .c (beq_iff_eq.2 he)) (.k (mv .k (.g 1 rfl)) (.k (cal (.on (.g 2 rfl) rfl rfl) Try.func10 rfl fn_known .n) (.k (pickT .k (.g 2 rfl) (.g 3 rfl)) (.k (asg .k (.g 4 rfl)) .n)))))) [] [5] rfl rfl ?_
     refine Tr.ret (end_tmp 0 rfl rfl)
    ·
     have he : e = 2 := by have := ringsR_bad (ends_bad (M := M) (List.mem_of_getElem? p1) (by omega)); rw [hB] at this; simp only [Prod.mk.injEq] at this; exact this.2.2
     refine Tr.seq (Tr.rs [] (.k (mv .k (.b 3 rfl)) (.k (mv .k (.b 10 rfl)) (.k (idx_ .k rwS (.g 0 rfl) (.g 1 rfl) rfl (by rw [List.getElem?_map, p1]; rfl)) (.k (fat .k (.g 2 rfl) aSA rfl) (.k (ldc_at .k (.g 3 rfl) tyI) (.k (lt_ .k (.g 4 rfl) .c (decide_eq_false g1)) (.k (mv .k (.g 5 rfl)) (.k (mv (.on (.g 6 rfl) rfl rfl) (.b 3 rfl)) (.k (mv (.on (.g 6 rfl) rfl rfl) (.b 10 rfl)) (.k (idx_ (.on (.g 6 rfl) rfl rfl) rwS (.g 7 rfl) (.g 8 rfl) rfl (by rw [List.getElem?_map, p1]; rfl)) (.k (fat (.on (.g 6 rfl) rfl rfl) (.g 9 rfl) aSB rfl) (.k (ldc_at (.on (.g 6 rfl) rfl rfl) (.g 10 rfl) tyI) (.k (lt_ (.on (.g 6 rfl) rfl rfl) (.g 11 rfl) .c (decide_eq_false g2)) (.k (pickF .k (.g 6 rfl) (.g 12 rfl)) (.k (mv .k (.g 13 rfl)) (.k (mv (.on (.g 14 rfl) rfl rfl) (.b 3 rfl)) (.k (mv (.on (.g 14 rfl) rfl rfl) (.b 10 rfl)) (.k (idx_ (.on (.g 14 rfl) rfl rfl) rwS (.g 15 rfl) (.g 16 rfl) rfl (by rw [List.getElem?_map, p1]; rfl)) (.k (fat (.on (.g 14 rfl) rfl rfl) (.g 17 rfl) aSA rfl) (.k (ldc_at (.on (.g 14 rfl) rfl rfl) (.g 18 rfl) tyI) (.k (mv (.on (.g 14 rfl) rfl rfl) (.b 2 rfl)) (.k (ge_ (.on (.g 14 rfl) rfl rfl) (.g 19 rfl) (.g 20 rfl) (decide_eq_false g3)) (.k (pickF .k (.g 14 rfl) (.g 21 rfl)) (.k (mv .k (.g 22 rfl)) (.k (mv (.on (.g 23 rfl) rfl rfl) (.b 3 rfl)) (.k (mv (.on (.g 23 rfl) rfl rfl) (.b 10 rfl)) (.k (idx_ (.on (.g 23 rfl) rfl rfl) rwS (.g 24 rfl) (.g 25 rfl) rfl (by rw [List.getElem?_map, p1]; rfl)) (.k (fat (.on (.g 23 rfl) rfl rfl) (.g 26 rfl) aSB rfl) (.k (ldc_at (.on (.g 23 rfl) rfl rfl) (.g 27 rfl) tyI) (.k (mv (.on (.g 23 rfl) rfl rfl) (.b 2 rfl)) (.k (ge_ (.on (.g 23 rfl) rfl rfl) (.g 28 rfl) (.g 29 rfl) (decide_eq_true g4)) (.k (pickF .k (.g 23 rfl) (.g 30 rfl)) .n)))))))))))))))))))))))))))))))) [0, 1, 2, 3, 4, 5, 6, 7, 8, 9, 10] [31] rfl rfl ?_)
     refine Tr.cond 11 rfl (fun _ => ?_) nofun
     refine Tr.rs [] (.k (mv .k (.b 8 rfl)) (.k (eq_ .k (.g 0 rfl) .c (beq_iff_eq.2 he)) (.k (mv .k (.g 1 rfl)) (.k (cal (.on (.g 2 rfl) rfl rfl) Try.func10 rfl fn_known .n) (.k (pickT .k (.g 2 rfl) (.g 3 rfl)) (.k (asg .k (.g 4 rfl)) .n)))))) [] [5] rfl rfl ?_
     refine Tr.ret (end_tmp 0 rfl rfl)
    ·
     refine Tr.seq (Tr.rs [] (.k (mv .k (.b 3 rfl)) (.k (mv .k (.b 10 rfl)) (.k (idx_ .k rwS (.g 0 rfl) (.g 1 rfl) rfl (by rw [List.getElem?_map, p1]; rfl)) (.k (fat .k (.g 2 rfl) aSA rfl) (.k (ldc_at .k (.g 3 rfl) tyI) (.k (lt_ .k (.g 4 rfl) .c (decide_eq_false g1)) (.k (mv .k (.g 5 rfl)) (.k (mv (.on (.g 6 rfl) rfl rfl) (.b 3 rfl)) (.k (mv (.on (.g 6 rfl) rfl rfl) (.b 10 rfl)) (.k (idx_ (.on (.g 6 rfl) rfl rfl) rwS (.g 7 rfl) (.g 8 rfl) rfl (by rw [List.getElem?_map, p1]; rfl)) (.k (fat (.on (.g 6 rfl) rfl rfl) (.g 9 rfl) aSB rfl) (.k (ldc_at (.on (.g 6 rfl) rfl rfl) (.g 10 rfl) tyI) (.k (lt_ (.on (.g 6 rfl) rfl rfl) (.g 11 rfl) .c (decide_eq_false g2)) (.k (pickF .k (.g 6 rfl) (.g 12 rfl)) (.k (mv .k (.g 13 rfl)) (.k (mv (.on (.g 14 rfl) rfl rfl) (.b 3 rfl)) (.k (mv (.on (.g 14 rfl) rfl rfl) (.b 10 rfl)) (.k (idx_ (.on (.g 14 rfl) rfl rfl) rwS (.g 15 rfl) (.g 16 rfl) rfl (by rw [List.getElem?_map, p1]; rfl)) (.k (fat (.on (.g 14 rfl) rfl rfl) (.g 17 rfl) aSA rfl) (.k (ldc_at (.on (.g 14 rfl) rfl rfl) (.g 18 rfl) tyI) (.k (mv (.on (.g 14 rfl) rfl rfl) (.b 2 rfl)) (.k (ge_ (.on (.g 14 rfl) rfl rfl) (.g 19 rfl) (.g 20 rfl) (decide_eq_false g3)) (.k (pickF .k (.g 14 rfl) (.g 21 rfl)) (.k (mv .k (.g 22 rfl)) (.k (mv (.on (.g 23 rfl) rfl rfl) (.b 3 rfl)) (.k (mv (.on (.g 23 rfl) rfl rfl) (.b 10 rfl)) (.k (idx_ (.on (.g 23 rfl) rfl rfl) rwS (.g 24 rfl) (.g 25 rfl) rfl (by rw [List.getElem?_map, p1]; rfl)) (.k (fat (.on (.g 23 rfl) rfl rfl) (.g 26 rfl) aSB rfl) (.k (ldc_at (.on (.g 23 rfl) rfl rfl) (.g 27 rfl) tyI) (.k (mv (.on (.g 23 rfl) rfl rfl) (.b 2 rfl)) (.k (ge_ (.on (.g 23 rfl) rfl rfl) (.g 28 rfl) (.g 29 rfl) (decide_eq_false g4)) (.k (pickF .k (.g 23 rfl) (.g 30 rfl)) .n)))))))))))))))))))))))))))))))) [0, 1, 2, 3, 4, 5, 6, 7, 8, 9, 10] [31] rfl rfl ?_)
     refine Tr.cond 11 rfl nofun (fun _ => ?_)
     refine Tr.skip (Nx.go (Tr.draw hmx [(9, 0), (1000, 17), (1017, 18)] (.k (omv .k (.inr rfl) (.b 9 rfl)) (.k (mv .k (.b 3 rfl)) (.k (mv .k (.b 10 rfl)) (.k (idx_ .k rwS (.g 1 rfl) (.g 2 rfl) rfl (by rw [List.getElem?_map, p1]; rfl)) (.k (fat .k (.g 3 rfl) aSA rfl) (.k (ldc_at .k (.g 4 rfl) tyI) (.k (mv .k (.b 0 rfl)) (.k (add_ .k (.g 5 rfl) (.g 6 rfl) (show IntKind.i64.wrap (s.1 + (N : Int)) = s.1 + (N : Int) from IntWalk.i64_in _ (by omega))) (.k (mv .k (.b 3 rfl)) (.k (mv .k (.b 10 rfl)) (.k (idx_ .k rwS (.g 8 rfl) (.g 9 rfl) rfl (by rw [List.getElem?_map, p1]; rfl)) (.k (fat .k (.g 10 rfl) aSB rfl) (.k (ldc_at .k (.g 11 rfl) tyI) (.k (mv .k (.b 0 rfl)) (.k (add_ .k (.g 12 rfl) (.g 13 rfl) (show IntKind.i64.wrap (s.2 + (N : Int)) = s.2 + (N : Int) from IntWalk.i64_in _ (by omega))) (.k (bld .k (.k (.g 7 rfl) (.k (.g 14 rfl) .n)) (bS _ _) (aS _ _)) (.k (mkrow .k rwS (.k (.g 15 rfl) .n) rfl rfl (by kernel_rfl)) (.k (oapp_ .k apS (.g 0 rfl) (.g 16 rfl) (by decide) ⟨(show _ = (jn N a (b.take (k + 1))).map sgc by rw [← jn_succ p1, List.map_append (l₁ := jn N a (b.take k))]; rfl), ⟨rfl, rfl⟩, by rw [List.length_map, jn_len, List.length_take]; omega⟩) (.k (omv .k (.inl rfl) (.g 17 rfl)) .n))))))))))))))))))) [0, 1, 2, 3, 4, 5, 6, 7, 8, 10] [18] rfl rfl (Nx.bkN (Nx.go (Tr.reg [(9, 2)] (.k (mv .k (.b 9 rfl)) (.k (add_ .k (.g 0 rfl) .c (show IntKind.i64.wrap ((k : Int) + 1) = ((k + 1 : Nat) : Int) by rw [IntWalk.i64_in _ (by omega)]; omega)) (.k (asg .k (.g 1 rfl)) .n))) [0, 1, 2, 3, 4, 5, 6, 7, 8, 10] [2] rfl rfl (Nx.again (b.length - (k + 1)) (by omega) [.s 0 (iv ((N : Nat) : Int)), .s 1 (svec a), .s 2 (iv ((M : Nat) : Int)), .s 3 (svec b), .s 9 (lvec A), .s 11 (iv 0), .s 12 (lvec B), .s 13 (iv q), .s 14 (iv e), .o 15 2 36 ((jn N a (b.take (k + 1))).map sgc), .s 16 (iv (((k + 1) : Nat) : Int))] ⟨(k + 1), ⟨by omega, good_succ p1 hinv.2 (by omega)⟩, rfl, rfl⟩ (Sub.all (.cons 0 rfl (.cons 1 rfl (.cons 2 rfl (.cons 3 rfl (.cons 4 rfl (.cons 5 rfl (.cons 6 rfl (.cons 7 rfl (.cons 8 rfl (.cons 9 rfl (.cons 10 rfl .nil))))))))))))))))))
   ·
    obtain rfl : k = b.length := by have := of_decide_eq_false e75; omega
    refine Tr.exit (Nx.thX (Nx.thX (Nx.bkX (Nx.go (?_)))))
    have hgood := hinv.2
    rw [List.take_length] at hgood ⊢
    refine Tr.frzo 9 [0, 1, 2, 3, 4, 5, 6, 7, 8, 10, 11] rfl rfl ?_
    rcases ring_ways (M : Int) b with hAb | ⟨M2, hMe, hM2, hokb, hTb | ⟨hTb, hIb | hIb⟩⟩
    ·
     have e1 := ringsR_bad hAb
     rw [hB] at e1
     simp only [Prod.mk.injEq] at e1
     obtain ⟨e1, e2, e3⟩ := e1
     subst e1 e2 e3
     obtain ⟨s, hs, hse⟩ := self_of (by omega) hAb hgood
     refine Tr.rs [] (.k (mv .k (.b 1 rfl)) (.k (mv .k (.b 3 rfl)) (.k (add_ .k (.g 0 rfl) (.g 1 rfl) (show IntKind.i64.wrap ((N : Int) + (M : Int)) = ((N + M : Nat) : Int) by rw [IntWalk.i64_in _ (by omega)]; omega)) (.k (mv .k (.b 0 rfl)) (.k (cal .k Try.func13 rfl (fn_Rings_of (jn_err_arg hs hse _) (by rw [jn_len]; omega)) (.k (.g 2 rfl) (.k (.g 3 rfl) .n))) (.k (mv .k (.g 4 rfl)) (.k (exx .k (.g 5 rfl) rfl) (.k (exx .k (.g 5 rfl) rfl) (.k (exx .k (.g 5 rfl) rfl) (.k (asg .k (.g 6 rfl)) (.k (asg .k (.g 7 rfl)) (.k (asg .k (.g 8 rfl)) .n)))))))))))) [1, 2, 5, 6, 7, 8, 9] [9, 10, 11] rfl rfl ?_
     refine Tr.seq (Tr.rs [] (.k (mv .k (.b 6 rfl)) .n) [0, 1, 2, 3, 4, 5, 6, 7, 8, 9] [0] rfl rfl ?_)
     refine Tr.block (Tr.rs [] (.k (eq_ .k (.b 10 rfl) .c (beq_eq_false_iff_ne.2 (by decide))) (.k (asg .k (.g 0 rfl)) .n)) [0, 1, 2, 3, 4, 5, 6, 7, 8, 9, 10] [1] rfl rfl ?_)
     refine Tr.cond 11 rfl nofun (fun _ => ?_)
     refine Tr.rs [] (.k (eq_ .k (.b 10 rfl) .c (beq_eq_false_iff_ne.2 (by decide))) (.k (asg .k (.g 0 rfl)) .n)) [0, 2, 3, 4, 5, 6, 7, 8, 9, 10] [1] rfl rfl ?_
     refine Tr.cond 10 rfl nofun (fun _ => ?_)
     refine Tr.rs [] (.k (eq_ .k (.b 9 rfl) .c (beq_iff_eq.2 rfl)) (.k (asg .k (.g 0 rfl)) .n)) [0, 1, 2, 3, 5, 6, 7, 8] [1] rfl rfl ?_
     refine Tr.cond 8 rfl (fun _ => ?_) nofun
     refine Tr.rs [] (.k (mv .k (.b 7 rfl)) (.k (mv .k (.b 4 rfl)) (.k (eq_ .k (.g 0 rfl) (.g 1 rfl) (beq_iff_eq.2 rfl)) (.k (mv .k (.g 2 rfl)) (.k (mv (.on (.g 3 rfl) rfl rfl) (.b 6 rfl)) (.k (eq_ (.on (.g 3 rfl) rfl rfl) (.g 4 rfl) .c (beq_iff_eq.2 rfl)) (.k (pickT .k (.g 3 rfl) (.g 5 rfl)) (.k (mv .k (.g 6 rfl)) (.k (cal (.on (.g 7 rfl) rfl rfl) Try.func10 rfl fn_known .n) (.k (pickT .k (.g 7 rfl) (.g 8 rfl)) (.k (asg .k (.g 9 rfl)) .n))))))))))) [] [10] rfl rfl ?_
     refine Tr.ret (end_tmp 0 rfl rfl)
    ·
     obtain rfl : M = M2 := by omega
     have e1 := ringsR_tw (argBad_ok hM2 hokb) hTb
     rw [hB] at e1
     simp only [Prod.mk.injEq] at e1
     obtain ⟨e1, e2, e3⟩ := e1
     subst e1 e2 e3
     have hq : twF b < (b.length : Int) := by have := first_le (isTw b) b.length 0; unfold twF; omega
     refine Tr.rs [] (.k (mv .k (.b 1 rfl)) (.k (mv .k (.b 3 rfl)) (.k (add_ .k (.g 0 rfl) (.g 1 rfl) (show IntKind.i64.wrap ((N : Int) + (M : Int)) = ((N + M : Nat) : Int) by rw [IntWalk.i64_in _ (by omega)]; omega)) (.k (mv .k (.b 0 rfl)) (.k (cal .k Try.func13 rfl (fn_Rings_of (jn_err_tw (by omega) hok hT hokb hTb) (by rw [jn_len]; omega)) (.k (.g 2 rfl) (.k (.g 3 rfl) .n))) (.k (mv .k (.g 4 rfl)) (.k (exx .k (.g 5 rfl) rfl) (.k (exx .k (.g 5 rfl) rfl) (.k (exx .k (.g 5 rfl) rfl) (.k (asg .k (.g 6 rfl)) (.k (asg .k (.g 7 rfl)) (.k (asg .k (.g 8 rfl)) .n)))))))))))) [1, 2, 5, 6, 7, 8, 9] [9, 10, 11] rfl rfl ?_
     refine Tr.seq (Tr.rs [] (.k (mv .k (.b 6 rfl)) .n) [0, 1, 2, 3, 4, 5, 6, 7, 8, 9] [0] rfl rfl ?_)
     refine Tr.block (Tr.rs [] (.k (eq_ .k (.b 10 rfl) .c (beq_iff_eq.2 rfl)) (.k (asg .k (.g 0 rfl)) .n)) [0, 1, 2, 3, 4, 5, 6, 7, 8, 9, 10] [1] rfl rfl ?_)
     refine Tr.cond 11 rfl (fun _ => ?_) nofun
     refine Tr.rs [] (.k (mv .k (.b 9 rfl)) (.k (mv .k (.b 6 rfl)) (.k (eq_ .k (.g 0 rfl) (.g 1 rfl) (beq_iff_eq.2 rfl)) (.k (mv .k (.g 2 rfl)) (.k (mv (.on (.g 3 rfl) rfl rfl) (.b 8 rfl)) (.k (mv (.on (.g 3 rfl) rfl rfl) (.b 5 rfl)) (.k (mv (.on (.g 3 rfl) rfl rfl) (.b 1 rfl)) (.k (len_ (.on (.g 3 rfl) rfl rfl) rwS (.g 6 rfl) (by rw [List.length_map])) (.k (add_ (.on (.g 3 rfl) rfl rfl) (.g 5 rfl) (.g 7 rfl) (show IntKind.i64.wrap (twF b + (a.length : Int)) = twF b + (a.length : Int) from IntWalk.i64_in _ (by omega))) (.k (eq_ (.on (.g 3 rfl) rfl rfl) (.g 4 rfl) (.g 8 rfl) (beq_iff_eq.2 rfl)) (.k (pickT .k (.g 3 rfl) (.g 9 rfl)) (.k (mv .k (.g 10 rfl)) (.k (cal (.on (.g 11 rfl) rfl rfl) Try.func10 rfl fn_known .n) (.k (pickT .k (.g 11 rfl) (.g 12 rfl)) (.k (asg .k (.g 13 rfl)) .n))))))))))))))) [] [14] rfl rfl ?_
     refine Tr.ret (end_tmp 0 rfl rfl)
    ·
     obtain rfl : M = M2 := by omega
     have e1 := ringsR_ix (argBad_ok hM2 hokb) hTb hIb
     rw [hB] at e1
     simp only [Prod.mk.injEq] at e1
     obtain ⟨e1, e2, e3⟩ := e1
     subst e1 e2 e3
     have hq : idxF (degs M b) < (M : Int) := by have := first_le (badAt (degs M b)) (degs M b).length 0; rw [degs_len] at this; unfold idxF; rw [degs_len]; omega
     refine Tr.rs [] (.k (mv .k (.b 1 rfl)) (.k (mv .k (.b 3 rfl)) (.k (add_ .k (.g 0 rfl) (.g 1 rfl) (show IntKind.i64.wrap ((N : Int) + (M : Int)) = ((N + M : Nat) : Int) by rw [IntWalk.i64_in _ (by omega)]; omega)) (.k (mv .k (.b 0 rfl)) (.k (cal .k Try.func13 rfl (fn_Rings_of (jn_err_ix (by omega) hok hT hI hokb hTb hIb) (by rw [jn_len]; omega)) (.k (.g 2 rfl) (.k (.g 3 rfl) .n))) (.k (mv .k (.g 4 rfl)) (.k (exx .k (.g 5 rfl) rfl) (.k (exx .k (.g 5 rfl) rfl) (.k (exx .k (.g 5 rfl) rfl) (.k (asg .k (.g 6 rfl)) (.k (asg .k (.g 7 rfl)) (.k (asg .k (.g 8 rfl)) .n)))))))))))) [1, 2, 5, 6, 7, 8, 9] [9, 10, 11] rfl rfl ?_
     refine Tr.seq (Tr.rs [] (.k (mv .k (.b 6 rfl)) .n) [0, 1, 2, 3, 4, 5, 6, 7, 8, 9] [0] rfl rfl ?_)
     refine Tr.block (Tr.rs [] (.k (eq_ .k (.b 10 rfl) .c (beq_eq_false_iff_ne.2 (by decide))) (.k (asg .k (.g 0 rfl)) .n)) [0, 1, 2, 3, 4, 5, 6, 7, 8, 9, 10] [1] rfl rfl ?_)
     refine Tr.cond 11 rfl nofun (fun _ => ?_)
     refine Tr.rs [] (.k (eq_ .k (.b 10 rfl) .c (beq_iff_eq.2 rfl)) (.k (asg .k (.g 0 rfl)) .n)) [0, 2, 3, 4, 5, 6, 7, 8, 9, 10] [1] rfl rfl ?_
     refine Tr.cond 10 rfl (fun _ => ?_) nofun
     refine Tr.rs [] (.k (mv .k (.b 8 rfl)) (.k (mv .k (.b 5 rfl)) (.k (eq_ .k (.g 0 rfl) (.g 1 rfl) (beq_iff_eq.2 rfl)) (.k (mv .k (.g 2 rfl)) (.k (mv (.on (.g 3 rfl) rfl rfl) (.b 7 rfl)) (.k (mv (.on (.g 3 rfl) rfl rfl) (.b 4 rfl)) (.k (mv (.on (.g 3 rfl) rfl rfl) (.b 0 rfl)) (.k (add_ (.on (.g 3 rfl) rfl rfl) (.g 5 rfl) (.g 6 rfl) (show IntKind.i64.wrap (idxF (degs M b) + (N : Int)) = idxF (degs M b) + (N : Int) from IntWalk.i64_in _ (by omega))) (.k (eq_ (.on (.g 3 rfl) rfl rfl) (.g 4 rfl) (.g 7 rfl) (beq_iff_eq.2 rfl)) (.k (pickT .k (.g 3 rfl) (.g 8 rfl)) (.k (mv .k (.g 9 rfl)) (.k (cal (.on (.g 10 rfl) rfl rfl) Try.func10 rfl fn_known .n) (.k (pickT .k (.g 10 rfl) (.g 11 rfl)) (.k (asg .k (.g 12 rfl)) .n)))))))))))))) [] [13] rfl rfl ?_
     refine Tr.ret (end_tmp 0 rfl rfl)
    ·
     obtain rfl : M = M2 := by omega
     have e1 := ringsR_ok (argBad_ok hM2 hokb) hTb hIb
     rw [hB] at e1
     simp only [Prod.mk.injEq] at e1
     obtain ⟨e1, e2, e3⟩ := e1
     subst e2 e3
     have hJ : ringsR ((N + M : Nat) : Int) (jn N a b) = (A ++ mvR N B, 0, 0) := by rw [jn_rings (by omega) hok hT hI hokb hTb hIb, hA1, hB]
     have hBx : ∀ r ∈ B, ∀ x ∈ r, 0 ≤ x ∧ x < (M : Int) := fun r hr x hx => by obtain ⟨c, rfl, hc, _⟩ := ((two_ok hokb hTb hIb).parts M (Nat.le_refl _)).mem x (e1 ▸ List.mem_flatten.2 ⟨r, hr, hx⟩); omega
     have hAl := (ringsR_bd N a).1
     have hAr := (ringsR_bd N a).2
     have hBl := (ringsR_bd M b).1
     rw [hA1] at hAl hAr
     rw [hB] at hBl
     simp only at hAl hAr hBl
     refine Tr.rs [] (.k (mv .k (.b 1 rfl)) (.k (mv .k (.b 3 rfl)) (.k (add_ .k (.g 0 rfl) (.g 1 rfl) (show IntKind.i64.wrap ((N : Int) + (M : Int)) = ((N + M : Nat) : Int) by rw [IntWalk.i64_in _ (by omega)]; omega)) (.k (mv .k (.b 0 rfl)) (.k (cal .k Try.func13 rfl (fn_Rings_of hJ (by rw [jn_len]; omega)) (.k (.g 2 rfl) (.k (.g 3 rfl) .n))) (.k (mv .k (.g 4 rfl)) (.k (exx .k (.g 5 rfl) rfl) (.k (exx .k (.g 5 rfl) rfl) (.k (exx .k (.g 5 rfl) rfl) (.k (asg .k (.g 6 rfl)) (.k (asg .k (.g 7 rfl)) (.k (asg .k (.g 8 rfl)) .n)))))))))))) [1, 2, 5, 6, 7, 8, 9] [9, 10, 11] rfl rfl ?_
     refine Tr.seq (Tr.rs [] (.k (mv .k (.b 6 rfl)) .n) [0, 1, 2, 3, 4, 5, 6, 7, 8, 9] [0] rfl rfl ?_)
     refine Tr.block (Tr.rs [] (.k (eq_ .k (.b 10 rfl) .c (beq_eq_false_iff_ne.2 (by decide))) (.k (asg .k (.g 0 rfl)) .n)) [0, 1, 2, 3, 4, 5, 6, 7, 8, 9, 10] [1] rfl rfl ?_)
     refine Tr.cond 11 rfl nofun (fun _ => ?_)
     refine Tr.rs [] (.k (eq_ .k (.b 10 rfl) .c (beq_eq_false_iff_ne.2 (by decide))) (.k (asg .k (.g 0 rfl)) .n)) [0, 2, 3, 4, 5, 6, 7, 8, 9, 10] [1] rfl rfl ?_
     refine Tr.cond 10 rfl nofun (fun _ => ?_)
     refine Tr.rs [] (.k (eq_ .k (.b 9 rfl) .c (beq_eq_false_iff_ne.2 (by decide))) (.k (asg .k (.g 0 rfl)) .n)) [0, 1, 2, 3, 5, 6, 7, 8] [1] rfl rfl ?_
     refine Tr.cond 8 rfl nofun (fun _ => ?_)
     refine Tr.skip (Nx.bkN (Nx.go (Tr.seq (Tr.rs [] (.k (mv .k (.b 7 rfl)) (.k (ne_ .k (.g 0 rfl) .c rfl) (.k (mv .k (.g 1 rfl)) (.k (mv (.on (.g 2 rfl) rfl rfl) (.b 5 rfl)) (.k (lenv (.on (.g 2 rfl) rfl rfl) rwL (.g 3 rfl) (by rw [List.length_map])) (.k (mv (.on (.g 2 rfl) rfl rfl) (.b 1 rfl)) (.k (lenv (.on (.g 2 rfl) rfl rfl) rwL (.g 5 rfl) (by rw [List.length_map])) (.k (mv (.on (.g 2 rfl) rfl rfl) (.b 3 rfl)) (.k (lenv (.on (.g 2 rfl) rfl rfl) rwL (.g 7 rfl) (by rw [List.length_map])) (.k (add_ (.on (.g 2 rfl) rfl rfl) (.g 6 rfl) (.g 8 rfl) (show IntKind.i64.wrap ((A.length : Int) + (B.length : Int)) = ((A.length + B.length : Nat) : Int) by rw [IntWalk.i64_in _ (by omega)]; omega)) (.k (ne_ (.on (.g 2 rfl) rfl rfl) (.g 4 rfl) (.g 9 rfl) (bne_eq_false_iff_eq.2 (by rw [List.length_append, List.length_map]))) (.k (pickF .k (.g 2 rfl) (.g 10 rfl)) .n)))))))))))) [0, 1, 2, 3, 5] [11] rfl rfl ?_))))
     refine Tr.cond 5 rfl nofun (fun _ => ?_)
     refine Tr.skip (Nx.go (Tr.seq (Tr.rs [] (.k (asg .k .c) .n) [0, 1, 2, 3, 4] [0] rfl rfl ?_)))
     refine Tr.block (?_)
     refine Tr.loop (fun n_ F_ => ∃ k : Nat, (k ≤ B.length) ∧ n_ = B.length - k ∧ F_ = [.s 0 (iv ((N : Nat) : Int)), .s 9 (lvec A), .s 11 (iv 0), .s 12 (lvec B), .s 17 (lvec (A ++ mvR N B)), .s 20 (iv ((k : Nat) : Int))]) (B.length - 0) (F0 := [.s 0 (iv ((N : Nat) : Int)), .s 9 (lvec A), .s 11 (iv 0), .s 12 (lvec B), .s 17 (lvec (A ++ mvR N B)), .s 20 (iv ((0 : Nat) : Int))]) ⟨0, Nat.zero_le _, rfl, rfl⟩ (Sub.all (.cons 0 rfl (.cons 1 rfl (.cons 2 rfl (.cons 3 rfl (.cons 4 rfl (.cons 5 rfl .nil))))))) (fun n_ F_ hI => ?_)
     obtain ⟨k, hinv, rfl, rfl⟩ := hI
     refine Tr.seq (Tr.rs [] (.k (mv .k (.b 5 rfl)) (.k (mv .k (.b 3 rfl)) (.k (lenv .k rwL (.g 1 rfl) (by rw [List.length_map])) (.k (lt_ .k (.g 0 rfl) (.g 2 rfl) rfl) .n)))) [0, 1, 2, 3, 4, 5] [3] rfl rfl ?_)
     refine Tr.cond 6 rfl (fun e201 => ?_) (fun e201 => ?_)
     ·
      have hk2 : k < B.length := by have := of_decide_eq_true e201; omega
      refine Tr.skip (Nx.go (Tr.seq (Tr.block (?_))))
      obtain ⟨r, p1⟩ : ∃ r, B[k]? = some r := ⟨_, List.getElem?_eq_getElem hk2⟩
      have hrl := (ringsR_bd M b).2 r (by rw [hB]; exact List.mem_of_getElem? p1)
      refine Tr.seq (Tr.ds hmx [] (.k (mv .k (.b 4 rfl)) (.k (mv .k (.b 1 rfl)) (.k (lenv .k rwL (.g 1 rfl) (by rw [List.length_map])) (.k (mv .k (.b 5 rfl)) (.k (add_ .k (.g 2 rfl) (.g 3 rfl) (show IntKind.i64.wrap ((A.length : Int) + (k : Int)) = ((A.length + k : Nat) : Int) by rw [IntWalk.i64_in _ (by omega)]; omega)) (.k (idxv .k rwL (.g 0 rfl) (.g 4 rfl) rfl (by rw [List.getElem?_map, List.getElem?_append_right (by omega), Nat.add_sub_cancel_left, List.getElem?_map, p1]; rfl)) (.k (ldv .k (.g 5 rfl) tyL) (.k (len_ .k rwI (.g 6 rfl) (by rw [List.length_map])) (.k (mv .k (.b 3 rfl)) (.k (mv .k (.b 5 rfl)) (.k (idxv .k rwL (.g 8 rfl) (.g 9 rfl) rfl (by rw [List.getElem?_map, p1]; rfl)) (.k (ldv .k (.g 10 rfl) tyL) (.k (len_ .k rwI (.g 11 rfl) (by rw [List.length_map])) (.k (ne_ .k (.g 7 rfl) (.g 12 rfl) (bne_eq_false_iff_eq.2 (by rw [List.length_map]))) .n)))))))))))))) [0, 1, 2, 3, 4, 5] [13] rfl rfl ?_)
      refine Tr.cond 6 rfl nofun (fun _ => ?_)
      refine Tr.skip (Nx.go (Tr.rs [] (.k (asg .k .c) .n) [0, 1, 2, 3, 4, 5] [0] rfl rfl ?_))
      refine Tr.block (?_)
      refine Tr.loop (fun n_ F_ => ∃ j : Nat, (j ≤ r.length) ∧ n_ = r.length - j ∧ F_ = [.s 0 (iv ((N : Nat) : Int)), .s 9 (lvec A), .s 11 (iv 0), .s 12 (lvec B), .s 17 (lvec (A ++ mvR N B)), .s 20 (iv ((k : Nat) : Int)), .s 21 (iv ((j : Nat) : Int))]) (r.length - 0) (F0 := [.s 0 (iv ((N : Nat) : Int)), .s 9 (lvec A), .s 11 (iv 0), .s 12 (lvec B), .s 17 (lvec (A ++ mvR N B)), .s 20 (iv ((k : Nat) : Int)), .s 21 (iv ((0 : Nat) : Int))]) ⟨0, Nat.zero_le _, rfl, rfl⟩ (Sub.all (.cons 0 rfl (.cons 1 rfl (.cons 2 rfl (.cons 3 rfl (.cons 4 rfl (.cons 5 rfl (.cons 6 rfl .nil)))))))) (fun n_ F_ hI => ?_)
      obtain ⟨j, hjv, rfl, rfl⟩ := hI
      refine Tr.seq (Tr.rs [] (.k (mv .k (.b 6 rfl)) (.k (mv .k (.b 3 rfl)) (.k (mv .k (.b 5 rfl)) (.k (idxv .k rwL (.g 1 rfl) (.g 2 rfl) rfl (by rw [List.getElem?_map, p1]; rfl)) (.k (ldv .k (.g 3 rfl) tyL) (.k (len_ .k rwI (.g 4 rfl) (by rw [List.length_map])) (.k (lt_ .k (.g 0 rfl) (.g 5 rfl) rfl) .n))))))) [0, 1, 2, 3, 4, 5, 6] [6] rfl rfl ?_)
      refine Tr.cond 7 rfl (fun e224 => ?_) (fun e224 => ?_)
      ·
       have hj2 : j < r.length := by have := of_decide_eq_true e224; omega
       refine Tr.skip (Nx.go (Tr.seq (Tr.block (?_))))
       obtain ⟨x, p2⟩ : ∃ x, r[j]? = some x := ⟨_, List.getElem?_eq_getElem hj2⟩
       have hx := hBx r (List.mem_of_getElem? p1) x (List.mem_of_getElem? p2)
       refine Tr.ds hmx [] (.k (mv .k (.b 4 rfl)) (.k (mv .k (.b 1 rfl)) (.k (lenv .k rwL (.g 1 rfl) (by rw [List.length_map])) (.k (mv .k (.b 5 rfl)) (.k (add_ .k (.g 2 rfl) (.g 3 rfl) (show IntKind.i64.wrap ((A.length : Int) + (k : Int)) = ((A.length + k : Nat) : Int) by rw [IntWalk.i64_in _ (by omega)]; omega)) (.k (idxv .k rwL (.g 0 rfl) (.g 4 rfl) rfl (by rw [List.getElem?_map, List.getElem?_append_right (by omega), Nat.add_sub_cancel_left, List.getElem?_map, p1]; rfl)) (.k (ldv .k (.g 5 rfl) tyL) (.k (mv .k (.b 6 rfl)) (.k (idx_ .k rwI (.g 6 rfl) (.g 7 rfl) rfl (by rw [List.getElem?_map, List.getElem?_map, p2]; rfl)) (.k (ldc_at .k (.g 8 rfl) tyI) (.k (mv .k (.b 3 rfl)) (.k (mv .k (.b 5 rfl)) (.k (idxv .k rwL (.g 10 rfl) (.g 11 rfl) rfl (by rw [List.getElem?_map, p1]; rfl)) (.k (ldv .k (.g 12 rfl) tyL) (.k (mv .k (.b 6 rfl)) (.k (idx_ .k rwI (.g 13 rfl) (.g 14 rfl) rfl (by rw [List.getElem?_map, p2]; rfl)) (.k (ldc_at .k (.g 15 rfl) tyI) (.k (mv .k (.b 0 rfl)) (.k (add_ .k (.g 16 rfl) (.g 17 rfl) (show IntKind.i64.wrap (x + (N : Int)) = x + (N : Int) from IntWalk.i64_in _ (by omega))) (.k (ne_ .k (.g 9 rfl) (.g 18 rfl) (bne_eq_false_iff_eq.2 rfl)) .n)))))))))))))))))))) [0, 1, 2, 3, 4, 5, 6] [19] rfl rfl ?_
       refine Tr.cond 7 rfl nofun (fun _ => ?_)
       refine Tr.skip (Nx.bkN (Nx.go (Tr.reg [(6, 2)] (.k (mv .k (.b 6 rfl)) (.k (add_ .k (.g 0 rfl) .c (show IntKind.i64.wrap ((j : Int) + 1) = ((j + 1 : Nat) : Int) by rw [IntWalk.i64_in _ (by omega)]; omega)) (.k (asg .k (.g 1 rfl)) .n))) [0, 1, 2, 3, 4, 5] [2] rfl rfl (Nx.again (r.length - (j + 1)) (by omega) [.s 0 (iv ((N : Nat) : Int)), .s 9 (lvec A), .s 11 (iv 0), .s 12 (lvec B), .s 17 (lvec (A ++ mvR N B)), .s 20 (iv ((k : Nat) : Int)), .s 21 (iv (((j + 1) : Nat) : Int))] ⟨(j + 1), (by omega), rfl, rfl⟩ (Sub.all (.cons 0 rfl (.cons 1 rfl (.cons 2 rfl (.cons 3 rfl (.cons 4 rfl (.cons 5 rfl (.cons 6 rfl .nil))))))))))))
      ·
       obtain rfl : j = r.length := by have := of_decide_eq_false e224; omega
       refine Tr.exit (Nx.thX (Nx.thX (Nx.bkX (Nx.bkN (Nx.go (Tr.reg [(5, 2)] (.k (mv .k (.b 5 rfl)) (.k (add_ .k (.g 0 rfl) .c (show IntKind.i64.wrap ((k : Int) + 1) = ((k + 1 : Nat) : Int) by rw [IntWalk.i64_in _ (by omega)]; omega)) (.k (asg .k (.g 1 rfl)) .n))) [0, 1, 2, 3, 4] [2] rfl rfl (Nx.again (B.length - (k + 1)) (by omega) [.s 0 (iv ((N : Nat) : Int)), .s 9 (lvec A), .s 11 (iv 0), .s 12 (lvec B), .s 17 (lvec (A ++ mvR N B)), .s 20 (iv (((k + 1) : Nat) : Int))] ⟨(k + 1), (by omega), rfl, rfl⟩ (Sub.all (.cons 0 rfl (.cons 1 rfl (.cons 2 rfl (.cons 3 rfl (.cons 4 rfl (.cons 5 rfl .nil))))))))))))))
     ·
      obtain rfl : k = B.length := by have := of_decide_eq_false e201; omega
      refine Tr.exit (Nx.thX (Nx.thX (Nx.bkX (Nx.go (Tr.rs [] (.k (mv .k (.b 4 rfl)) (.k (mv .k (.b 1 rfl)) (.k (lenv .k rwL (.g 1 rfl) (by rw [List.length_map])) (.k (slcHv .k rwL (.g 0 rfl) (.g 2 rfl) rfl (by rw [List.length_map, List.length_append]; omega) (show _ = A.map ivec by rw [List.map_append]; exact List.take_left' (List.length_map ..))) (.k (mv .k (.b 1 rfl)) (.k (cal .k Try.func16 rfl (decide_eq_true (Eq.refl A) ▸ fn_same A A (by omega) (fun r hr => by have := hAr r hr; omega)) (.k (.g 3 rfl) (.k (.g 4 rfl) .n))) (.k (mv .k (.g 5 rfl)) (.k (mv (.on (.g 6 rfl) rfl rfl) (.b 2 rfl)) (.k (eq_ (.on (.g 6 rfl) rfl rfl) .c (.g 7 rfl) (beq_iff_eq.2 rfl)) (.k (pickT .k (.g 6 rfl) (.g 8 rfl)) (.k (mv .k (.g 9 rfl)) (.k (cal (.on (.g 10 rfl) rfl rfl) Try.func10 rfl fn_known .n) (.k (pickT .k (.g 10 rfl) (.g 11 rfl)) (.k (asg .k (.g 12 rfl)) .n)))))))))))))) [] [13] rfl rfl ?_)))))
      refine Tr.ret (end_tmp 0 rfl rfl)
theorem ringsJoin_any (n : Int) (a : List (Int × Int)) (v : Value) (m : Int) (b : List (Int × Int)) (u : Value) (W : World) (w0 : (Lit.int .i64 n).wf = true) (h : (svec a).H (fun _ => True) v W) (w : ∀ x ∈ a, I64 x.1 ∧ I64 x.2) (w2 : (Lit.int .i64 m).wf = true) (h3 : (svec b).H (fun _ => True) u W) (w3 : ∀ x ∈ b, I64 x.1 ∧ I64 x.2) : Calls Try.prog 7 #[.int .i64 n, v, .int .i64 m, u] W fun e w' => e = .returned (.bool true) ∧ Below W.heap.size W w' :=
  FnC.go (vs := [.int .i64 n, v, .int .i64 m, u]) (law_RingsJoin n a m b) W ⟨rfl, h, rfl, h3, trivial⟩
end Go.Proofs.Ytcifcohkjifadaa

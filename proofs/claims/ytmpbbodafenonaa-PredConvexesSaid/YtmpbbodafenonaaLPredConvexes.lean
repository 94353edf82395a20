/- PredConvexes: each three of a row turn left, from whichever place on; plain words and the walk. -/
import Derived.Test.YtmpbbodafenonaaLPredOrients
set_option linter.unusedVariables false
set_option linter.unusedSimpArgs false
namespace Go.Proofs.Ytmpbbodafenonaa
open Go Go.RowKit Go.Proofs.Ytmpbbodafenonaa.Fx Go.Proofs.YtmpbbodafenonaaW.PrintWords
theorem apP_chk : (match Try.prog.info? 65 with | some i => (match i.zero with | some z => i.size == 2 && (i.bytes == 16 && z.cells.size == 2) | none => false) | none => false) = true := by kernel_rfl
theorem apP : AppTy Try.prog 70 65 2 16 := ⟨Try.underlying70, by
  have h := apP_chk
  obtain ⟨p, hp⟩ : ∃ p, p = Try.prog.info? 65 := ⟨_, rfl⟩
  rw [← hp] at h ⊢
  cases p with
  | none => cases h
  | some i =>
    simp only at h
    cases hz : i.zero with
    | none => rw [hz] at h; cases h
    | some z =>
      rw [hz] at h
      simp only [Bool.and_eq_true, beq_iff_eq] at h
      exact ⟨i, z, rfl, hz, h.1, h.2.1, h.2.2⟩, by decide⟩
section
variable {P : Program} {w0 : World} {ok0 : Nat → Prop} {N : Nat} {R : Rg} {ops : Array Oper} {Q : Exit → Act → World → Prop} {i : Nat} {o : Oper}
/-- One more behind a row of points of at most twenty. -/
theorem oapp_ {d t : Tmp} {y : Operand} {S E : TypeId} {rows rs rows' : List (List Value)} (hh : Pl R ops i o (some d) (.call { callee := .builtin .append, args := #[.tmp t, y], argTypes := #[S, S] }) true) (hT : AppTy P S E 2 16)
    (hx : R.Nd i (.o t 2 E rows)) (hy : Vl R i y (.vec 2 rs)) (he : rows ++ rs = rows' ∧ ((rs.all fun r => r.length == 2 && r.all (·.oneCell')) = true ∧ rs.length = 1) ∧ rows.length ≤ 20) : Does P w0 ok0 N R ops Q i o (some (.o d 2 E rows')) := by
  obtain ⟨rfl, ⟨h1, h2⟩, h3⟩ := he
  exact oapp hh hT hx hy h1 (by omega) (by rw [h2]; unfold maxLen; omega) (by omega)
end
/-- A row from a place on, round, so many of it; and from its end. -/
def rotL (ps : List (Int × Int)) (kk i : Nat) : List (Int × Int) := (List.range i).map fun j => ps.getD ((j + kk) % ps.length) (0, 0)
def revL (ps : List (Int × Int)) (i : Nat) : List (Int × Int) := (List.range i).map fun j => ps.getD (ps.length - 1 - j) (0, 0)
theorem rot_len (ps : List (Int × Int)) (kk i : Nat) : (rotL ps kk i).length = i := by simp [rotL]
theorem rev_len (ps : List (Int × Int)) (i : Nat) : (revL ps i).length = i := by simp [revL]
theorem rot_succ {ps : List (Int × Int)} {kk i : Nat} {x y : Int} (h : ps[(i + kk) % ps.length]? = some (x, y)) (hi : i ≤ 20) : (rotL ps kk i).map pc ++ [pc (x, y)] = (rotL ps kk (i + 1)).map pc ∧ (([pc (x, y)].all fun r => r.length == 2 && r.all (·.oneCell')) = true ∧ [pc (x, y)].length = 1) ∧ ((rotL ps kk i).map pc).length ≤ 20 := by
  refine ⟨?_, ⟨rfl, rfl⟩, by rw [List.length_map, rot_len]; exact hi⟩
  unfold rotL
  rw [List.range_succ, List.map_append, List.map_append, List.map_cons, List.map_nil, List.getD_eq_getElem?_getD, h]
  rfl
theorem rev_succ {ps : List (Int × Int)} {i : Nat} {x y : Int} (h : ps[ps.length - 1 - i]? = some (x, y)) (hi : i ≤ 20) : (revL ps i).map pc ++ [pc (x, y)] = (revL ps (i + 1)).map pc ∧ (([pc (x, y)].all fun r => r.length == 2 && r.all (·.oneCell')) = true ∧ [pc (x, y)].length = 1) ∧ ((revL ps i).map pc).length ≤ 20 := by
  refine ⟨?_, ⟨rfl, rfl⟩, by rw [List.length_map, rev_len]; exact hi⟩
  unfold revL
  rw [List.range_succ, List.map_append, List.map_append, List.map_cons, List.map_nil, List.getD_eq_getElem?_getD, h]
  rfl
theorem rot_at {ps : List (Int × Int)} {kk n j : Nat} (h : j < n) : (rotL ps kk n)[j]? = some (ps.getD ((j + kk) % ps.length) (0, 0)) := by
  unfold rotL
  rw [List.getElem?_map, List.getElem?_range h]
  rfl
theorem rot_get {ps : List (Int × Int)} {kk j : Nat} (h : j < ps.length) : (rotL ps kk ps.length).getD j (0, 0) = ps.getD ((j + kk) % ps.length) (0, 0) := by
  unfold rotL
  rw [List.getD_eq_getElem?_getD, List.getElem?_map, List.getElem?_range h]
  rfl
theorem rev_get {ps : List (Int × Int)} {j : Nat} (h : j < ps.length) : (revL ps ps.length).getD j (0, 0) = ps.getD (ps.length - 1 - j) (0, 0) := by
  unfold revL
  rw [List.getD_eq_getElem?_getD, List.getElem?_map, List.getElem?_range h]
  rfl
theorem oriL_cyc (ps : List (Int × Int)) (a b c : Nat) : oriL ps b c a = oriL ps a b c := ori_cyc ..
theorem oriL_rot {ps : List (Int × Int)} {kk j k i : Nat} (hj : j < ps.length) (hk : k < ps.length) (hi : i < ps.length) : oriL (rotL ps kk ps.length) j k i = oriL ps ((j + kk) % ps.length) ((k + kk) % ps.length) ((i + kk) % ps.length) := by
  unfold oriL
  rw [rot_get hj, rot_get hk, rot_get hi]
theorem conv_all {ps : List (Int × Int)} (h : convB ps = true) : (∀ i, i < ps.length → ∀ k, k < i → ∀ j, j < k → oriL ps j k i = 1) ∧ 2 < ps.length := by
  unfold convB at h
  simp only [Bool.and_eq_true, List.all_eq_true, List.mem_range, decide_eq_true_eq] at h
  exact h
theorem mod_kk {n kk j : Nat} (hk : kk < n) (hj : j < n) : (j + kk) % n = if j + kk < n then j + kk else j + kk - n := by
  split
  · exact Nat.mod_eq_of_lt (by assumption)
  · rw [Nat.mod_eq_sub_mod (by omega), Nat.mod_eq_of_lt (by omega)]
theorem rot_conv {ps : List (Int × Int)} {kk : Nat} (hk : kk < ps.length) (h : convB ps = true) : convB (rotL ps kk ps.length) = true := by
  obtain ⟨h1, h2⟩ := conv_all h
  rw [conv_so (ps := rotL ps kk ps.length) (fun i hi k hk' j hj => ?_), rot_len]
  · exact decide_eq_true (by omega)
  · rw [rot_len] at hi
    rw [oriL_rot (by omega) (by omega) hi, mod_kk hk (by omega), mod_kk hk (by omega), mod_kk hk hi]
    split <;> split <;> split
    · exact h1 _ (by omega) _ (by omega) _ (by omega)
    · rw [oriL_cyc]; exact h1 _ (by omega) _ (by omega) _ (by omega)
    · omega
    · rw [← oriL_cyc, ← oriL_cyc, oriL_cyc, ← oriL_cyc] ; first | exact h1 _ (by omega) _ (by omega) _ (by omega) | (rw [oriL_cyc]; exact h1 _ (by omega) _ (by omega) _ (by omega)) | (rw [← oriL_cyc]; exact h1 _ (by omega) _ (by omega) _ (by omega))
    · omega
    · omega
    · omega
    · exact h1 _ (by omega) _ (by omega) _ (by omega)
theorem rot_back {ps : List (Int × Int)} {kk : Nat} (hk : kk < ps.length) : rotL (rotL ps kk ps.length) (ps.length - kk) ps.length = ps := by
  apply List.ext_getElem?
  intro j
  by_cases hj : j < ps.length
  · rw [rot_at hj, rot_len]
    have hm : (j + (ps.length - kk)) % ps.length < ps.length := Nat.mod_lt _ (by omega)
    rw [rot_get hm]
    have e : ((j + (ps.length - kk)) % ps.length + kk) % ps.length = j := by
      rw [Nat.mod_add_mod, show j + (ps.length - kk) + kk = j + ps.length by omega, Nat.add_mod_right, Nat.mod_eq_of_lt hj]
    rw [e, List.getD_eq_getElem?_getD, List.getElem?_eq_getElem hj]
    rfl
  · rw [List.getElem?_eq_none (by rw [rot_len]; omega), List.getElem?_eq_none (by omega)]
theorem conv_rot {ps : List (Int × Int)} {kk : Nat} (hk : kk < max ps.length 1) : convB (rotL ps kk ps.length) = convB ps := by
  cases hn : ps.length with
  | zero =>
    have : ps = [] := List.eq_nil_of_length_eq_zero hn
    subst this; rfl
  | succ m =>
    rw [← hn]
    have hk' : kk < ps.length := by omega
    cases h : convB ps with
    | true => exact rot_conv hk' h
    | false =>
      cases h2 : convB (rotL ps kk ps.length) with
      | false => rfl
      | true =>
        by_cases h0 : kk = 0
        · subst h0
          have e : rotL ps 0 ps.length = ps := by
            apply List.ext_getElem?
            intro j
            by_cases hj : j < ps.length
            · rw [rot_at hj, Nat.add_zero, Nat.mod_eq_of_lt hj, List.getD_eq_getElem?_getD, List.getElem?_eq_getElem hj]
              rfl
            · rw [List.getElem?_eq_none (by rw [rot_len]; omega), List.getElem?_eq_none (by omega)]
          rw [e, h] at h2; cases h2
        · have h3 := rot_conv (ps := rotL ps kk ps.length) (kk := ps.length - kk) (by rw [rot_len]; omega) h2
          rw [rot_len, rot_back hk', h] at h3
          cases h3
theorem conv_rev {ps : List (Int × Int)} (h : convB ps = true) : convB (revL ps ps.length) = false := by
  obtain ⟨h1, h2⟩ := conv_all h
  refine conv_not (i := 2) (k := 1) (j := 0) (by rw [rev_len]; omega) (by omega) (by omega) ?_
  have e : oriL (revL ps ps.length) 0 1 2 = oriL ps (ps.length - 1 - 0) (ps.length - 1 - 1) (ps.length - 1 - 2) := by
    unfold oriL
    rw [rev_get (by omega), rev_get (by omega), rev_get (by omega)]
  rw [e]
  have h3 := h1 (ps.length - 1 - 0) (by omega) (ps.length - 1 - 1) (by omega) (ps.length - 1 - 2) (by omega)
  have h4 : oriL ps (ps.length - 1 - 0) (ps.length - 1 - 1) (ps.length - 1 - 2) = -oriL ps (ps.length - 1 - 1) (ps.length - 1 - 0) (ps.length - 1 - 2) := ori_flip ..
  rw [h4, oriL_cyc ps (ps.length - 1 - 2), h3]
  omega
theorem mx1 (n : Nat) : (if (n : Int) < 1 then 1 else (n : Int)) = ((max n 1 : Nat) : Int) := by split <;> omega
theorem kk_ex (a : Int) (n : Nat) : ∃ kk : Nat, (IntKind.u64.wrap a).tmod ((max n 1 : Nat) : Int) = (kk : Int) ∧ kk < max n 1 := by
  have h0 : 0 ≤ IntKind.u64.wrap a := by show 0 ≤ a % (2 ^ 64 : Int); exact Int.emod_nonneg _ (by decide)
  rw [Int.tmod_eq_emod_of_nonneg h0]
  have h1 := Int.emod_nonneg (IntKind.u64.wrap a) (show ((max n 1 : Nat) : Int) ≠ 0 by omega)
  have h2 := Int.emod_lt_of_pos (IntKind.u64.wrap a) (show 0 < ((max n 1 : Nat) : Int) by omega)
  obtain ⟨r, hr⟩ : ∃ r, r = IntKind.u64.wrap a % ((max n 1 : Nat) : Int) := ⟨_, rfl⟩
  rw [← hr] at h1 h2 ⊢
  exact ⟨r.toNat, by omega, by omega⟩
theorem tmod_nat (a b : Nat) : ((a : Int)).tmod (b : Int) = ((a % b : Nat) : Int) := by rw [Int.tmod_eq_emod_of_nonneg (by omega)]; rfl
set_option maxRecDepth 100000 in
set_option maxHeartbeats 8000000 in
theorem law_PredConvexes (ps : List (Int × Int)) (a : Int) : FnC Try.prog 14 [.vec 2 (ps.map pc), iv a] (bv true) := by
 refine FnC.of (N := 75) Try.func14 rfl rfl (Nat.le_of_ble_eq_true rfl) (fun w0 ok0 => ?_)
 refine Tr.rs [] (.k (asg .k .c) .n) [0, 1] [] rfl rfl ?_
 by_cases hl : (ps.length : Int) > 20
 ·
  refine Tr.seq (Tr.rs [] (.k (mv .k (.b 0 rfl)) (.k (len_ .k rwP (.g 0 rfl) (len_map ps)) (.k (gt_ .k (.g 1 rfl) .c (decide_eq_true hl)) .n))) [0, 1] [2] rfl rfl ?_)
  refine Tr.cond 2 rfl (fun _ => ?_) nofun
  refine Tr.rs [] (.k (cal .k Try.func46 rfl fn_known .n) (.k (asg .k (.g 0 rfl)) .n)) [] [1] rfl rfl ?_
  refine Tr.ret (end_tmp 0 rfl rfl)
 ·
  have hl2 : ps.length ≤ 20 := by omega
  obtain ⟨kk, hkk, hkl⟩ := kk_ex a ps.length
  refine Tr.seq (Tr.rs [] (.k (mv .k (.b 0 rfl)) (.k (len_ .k rwP (.g 0 rfl) (len_map ps)) (.k (gt_ .k (.g 1 rfl) .c (decide_eq_false hl)) .n))) [0, 1] [2] rfl rfl ?_)
  refine Tr.cond 2 rfl nofun (fun _ => ?_)
  refine Tr.skip (Nx.go (Tr.rs [] (.k (oini (sz := 2) (E := 65) .k (.inl rfl)) .n) [0, 1] [0] rfl rfl ?_))
  refine Tr.rs [] (.k (oini (sz := 2) (E := 65) .k (.inl rfl)) .n) [0, 1, 2] [0] rfl rfl ?_
  refine Tr.rs [] (.k (mv .k (.b 1 rfl)) (.k (cvt_ .k (by kernel_rfl) Try.underlying71 (.g 0 rfl) rfl) (.k (mv .k (.b 0 rfl)) (.k (len_ .k rwP (.g 2 rfl) (len_map ps)) (.k (max_ .k (.g 3 rfl) .c (mx1 ps.length)) (.k (cvt_ .k (by kernel_rfl) Try.underlying71 (.g 4 rfl) (u64_id (by omega) (by omega))) (.k (rem_ .k (.g 1 rfl) (.g 5 rfl) (by omega) hkk) (.k (cvt_ .k (by kernel_rfl) Try.underlying3 (.g 6 rfl) (IntWalk.i64_in _ (by omega))) (.k (asg .k (.g 7 rfl)) .n))))))))) [0, 2, 3] [8] rfl rfl ?_
  refine Tr.seq (Tr.rs [] (.k (asg .k .c) .n) [0, 1, 2, 3] [0] rfl rfl ?_)
  refine Tr.block (?_)
  refine Tr.loop (fun n_ F_ => ∃ i : Nat, i ≤ ps.length ∧ n_ = ps.length - i ∧ F_ = [.s 0 (.vec 2 (ps.map pc)), .s 7 (iv ((kk : Nat) : Int)), .s 8 (iv ((i : Nat) : Int)), .o 5 2 65 ((rotL ps kk i).map pc), .o 6 2 65 ((revL ps i).map pc)]) (ps.length) (F0 := [.s 0 (.vec 2 (ps.map pc)), .s 7 (iv ((kk : Nat) : Int)), .s 8 (iv ((0 : Nat) : Int)), .o 5 2 65 ((rotL ps kk 0).map pc), .o 6 2 65 ((revL ps 0).map pc)]) ⟨0, Nat.zero_le _, rfl, rfl⟩ (Sub.all (.cons 0 rfl (.cons 3 rfl (.cons 4 rfl (.cons 1 rfl (.cons 2 rfl .nil)))))) (fun n_ F_ hI => ?_)
  obtain ⟨i, hi, rfl, rfl⟩ := hI
  refine Tr.seq (Tr.rs [] (.k (mv .k (.b 2 rfl)) (.k (mv .k (.b 0 rfl)) (.k (len_ .k rwP (.g 1 rfl) (len_map ps)) (.k (lt_ .k (.g 0 rfl) (.g 2 rfl) rfl) .n)))) [0, 1, 2, 3, 4] [3] rfl rfl ?_)
  refine Tr.cond 5 rfl (fun e25 => ?_) (fun e25 => ?_)
  ·
   have hi2 : i < ps.length := by simpa using e25
   refine Tr.skip (Nx.go (Tr.seq (Tr.block (?_))))
   obtain ⟨x1, y1, p1⟩ : ∃ x y, ps[(i + kk) % ps.length]? = some (x, y) := ⟨_, _, List.getElem?_eq_getElem (Nat.mod_lt _ (by omega))⟩
   obtain ⟨x2, y2, p2⟩ : ∃ x y, ps[ps.length - 1 - i]? = some (x, y) := ⟨_, _, List.getElem?_eq_getElem (by omega)⟩
   refine Tr.sqs (.k (omv .k (.inr rfl) (.b 3 rfl)) [0, 1, 2, 4] rfl rfl (.k (mv .k (.b 1 rfl)) [0, 1, 2, 3, 4] rfl rfl (.k (mv .k (.b 4 rfl)) [0, 1, 2, 3, 4, 5] rfl rfl (.k (mv .k (.b 4 rfl)) [0, 1, 2, 3, 4, 5, 6] rfl rfl (.k (add_ .k (.b 1 rfl) (.b 0 rfl) (show IntKind.i64.wrap ((i : Int) + (kk : Int)) = ((i + kk : Nat) : Int) by rw [IntWalk.i64_in _ (by omega)]; omega)) [2, 3, 4, 5, 6, 7] rfl rfl (.k (mv .k (.b 3 rfl)) [0, 1, 2, 3, 4, 5, 6] rfl rfl (.k (len_ .k rwP (.b 0 rfl) (len_map ps)) [1, 2, 3, 4, 5, 6, 7] rfl rfl (.k (rem_ .k (.b 1 rfl) (.b 0 rfl) (by omega) (tmod_nat _ _)) [2, 3, 4, 5, 6, 7] rfl rfl (.k (idx_ .k rwP (.b 1 rfl) (.b 0 rfl) rfl (by rw [List.getElem?_map, p1]; rfl)) [2, 3, 4, 5, 6] rfl rfl (.k (ld_at .k (.b 0 rfl) tyP rfl (aPc _ _)) [1, 2, 3, 4, 5] rfl rfl (.k (mkrow .k rwP (.k (.b 0 rfl) .n) rfl rfl (by kernel_rfl)) [1, 2, 3, 4, 5] rfl rfl (.k (oapp_ .k apP (.b 1 rfl) (.b 0 rfl) (rot_succ p1 (by omega))) [2, 3, 4, 5] rfl rfl (.k (omv .k (.inl rfl) (.b 0 rfl)) [1, 2, 3, 4] rfl rfl .n))))))))))))) ?_
   refine Tr.sq (.k (omv .k (.inr rfl) (.b 4 rfl)) [0, 1, 2, 3] rfl rfl (.k (mv .k (.b 2 rfl)) [0, 1, 2, 3, 4] rfl rfl (.k (mv .k (.b 3 rfl)) [0, 1, 2, 3, 4, 5] rfl rfl (.k (len_ .k rwP (.b 0 rfl) (len_map ps)) [1, 2, 3, 4, 5, 6] rfl rfl (.k (sub_ .k (.b 0 rfl) .c (show IntKind.i64.wrap ((ps.length : Int) - 1) = ((ps.length - 1 : Nat) : Int) by rw [IntWalk.i64_in _ (by omega)]; omega)) [1, 2, 3, 4, 5, 6] rfl rfl (.k (mv .k (.b 6 rfl)) [0, 1, 2, 3, 4, 5, 6] rfl rfl (.k (sub_ .k (.b 1 rfl) (.b 0 rfl) (show IntKind.i64.wrap (((ps.length - 1 : Nat) : Int) - (i : Int)) = ((ps.length - 1 - i : Nat) : Int) by rw [IntWalk.i64_in _ (by omega)]; omega)) [2, 3, 4, 5, 6, 7] rfl rfl (.k (idx_ .k rwP (.b 1 rfl) (.b 0 rfl) rfl (by rw [List.getElem?_map, p2]; rfl)) [2, 3, 4, 5, 6] rfl rfl (.k (ld_at .k (.b 0 rfl) tyP rfl (aPc _ _)) [1, 2, 3, 4, 5] rfl rfl (.k (mkrow .k rwP (.k (.b 0 rfl) .n) rfl rfl (by kernel_rfl)) [1, 2, 3, 4, 5] rfl rfl (.k (oapp_ .k apP (.b 1 rfl) (.b 0 rfl) (rev_succ p2 (by omega))) [2, 3, 4, 5] rfl rfl (.k (omv .k (.inl rfl) (.b 0 rfl)) [1, 2, 3, 4] rfl rfl .n)))))))))))) (Nx.bkN (Nx.go (Tr.reg [(4, 2)] (.k (mv .k (.b 4 rfl)) (.k (add_ .k (.g 0 rfl) .c (wrap_succ hi2 (by omega))) (.k (asg .k (.g 1 rfl)) .n))) [0, 1, 2, 3] [2] rfl rfl (Nx.again (ps.length - (i + 1)) (by omega) [.s 0 (.vec 2 (ps.map pc)), .s 7 (iv ((kk : Nat) : Int)), .s 8 (iv (((i + 1) : Nat) : Int)), .o 5 2 65 ((rotL ps kk (i + 1)).map pc), .o 6 2 65 ((revL ps (i + 1)).map pc)] ⟨i + 1, by omega, rfl, rfl⟩ (Sub.all (.cons 2 rfl (.cons 3 rfl (.cons 4 rfl (.cons 1 rfl (.cons 0 rfl .nil))))))))))
  ·
   obtain rfl : i = ps.length := Nat.le_antisymm hi (by simpa using e25)
   refine Tr.exit (Nx.thX (Nx.thX (Nx.bkX (Nx.go (Tr.rs [] (.k (mv .k (.b 0 rfl)) (.k (cal .k Try.func51 rfl (fn_Convex ps (by omega)) (.k (.g 0 rfl) .n)) (.k (asg .k (.g 1 rfl)) .n))) [0, 3, 4] [2] rfl rfl ?_)))))
   cases hcv : convB ps
   ·
    refine Tr.rs [(1, 5), (2, 14)] (.k (mv .k (.b 3 rfl)) (.k (mv .k (.b 0 rfl)) (.k (cal .k Try.func52 rfl (hcv ▸ fn_rConvex ps (by omega)) (.k (.g 1 rfl) .n)) (.k (eqB_ .k Try.underlying4 (.g 0 rfl) (.g 2 rfl) rfl) (.k (mv .k (.g 3 rfl)) (.k (frz (.on (.g 4 rfl) rfl rfl) (.inr rfl) (.b 1 rfl)) (.k (cal (.on (.g 4 rfl) rfl rfl) Try.func51 rfl ((conv_rot hkl).trans hcv ▸ fn_Convex (rotL ps kk ps.length) (by rw [rot_len]; omega)) (.k (.g 5 rfl) .n)) (.k (mv (.on (.g 4 rfl) rfl rfl) (.b 3 rfl)) (.k (eqB_ (.on (.g 4 rfl) rfl rfl) Try.underlying4 (.g 6 rfl) (.g 7 rfl) rfl) (.k (pickT .k (.g 4 rfl) (.g 8 rfl)) (.k (mv .k (.g 9 rfl)) (.k (mv (.on (.g 10 rfl) rfl rfl) (.b 3 rfl)) (.k (not_ (.on (.g 10 rfl) rfl rfl) (.g 11 rfl)) (.k (mv (.on (.g 10 rfl) rfl rfl) (.g 12 rfl)) (.k (skp (.on (.g 13 rfl) rfl rfl)) (.k (skp (.on (.g 13 rfl) rfl rfl)) (.k (skp (.on (.g 13 rfl) rfl rfl)) (.k (pickT (.on (.g 10 rfl) rfl rfl) (.g 13 rfl) .c) (.k (pickT .k (.g 10 rfl) (.g 17 rfl)) (.k (mv .k (.g 18 rfl)) (.k (cal (.on (.g 19 rfl) rfl rfl) Try.func46 rfl fn_known .n) (.k (pickT .k (.g 19 rfl) (.g 20 rfl)) (.k (asg .k (.g 21 rfl)) .n))))))))))))))))))))))) [] [22] rfl rfl ?_
    refine Tr.ret (end_tmp 0 rfl rfl)
   ·
    refine Tr.rs [(1, 5), (2, 14)] (.k (mv .k (.b 3 rfl)) (.k (mv .k (.b 0 rfl)) (.k (cal .k Try.func52 rfl (hcv ▸ fn_rConvex ps (by omega)) (.k (.g 1 rfl) .n)) (.k (eqB_ .k Try.underlying4 (.g 0 rfl) (.g 2 rfl) rfl) (.k (mv .k (.g 3 rfl)) (.k (frz (.on (.g 4 rfl) rfl rfl) (.inr rfl) (.b 1 rfl)) (.k (cal (.on (.g 4 rfl) rfl rfl) Try.func51 rfl ((conv_rot hkl).trans hcv ▸ fn_Convex (rotL ps kk ps.length) (by rw [rot_len]; omega)) (.k (.g 5 rfl) .n)) (.k (mv (.on (.g 4 rfl) rfl rfl) (.b 3 rfl)) (.k (eqB_ (.on (.g 4 rfl) rfl rfl) Try.underlying4 (.g 6 rfl) (.g 7 rfl) rfl) (.k (pickT .k (.g 4 rfl) (.g 8 rfl)) (.k (mv .k (.g 9 rfl)) (.k (mv (.on (.g 10 rfl) rfl rfl) (.b 3 rfl)) (.k (not_ (.on (.g 10 rfl) rfl rfl) (.g 11 rfl)) (.k (mv (.on (.g 10 rfl) rfl rfl) (.g 12 rfl)) (.k (frz (.on (.g 13 rfl) rfl rfl) (.inr rfl) (.b 2 rfl)) (.k (cal (.on (.g 13 rfl) rfl rfl) Try.func51 rfl (conv_rev hcv ▸ fn_Convex (revL ps ps.length) (by rw [rev_len]; omega)) (.k (.g 14 rfl) .n)) (.k (not_ (.on (.g 13 rfl) rfl rfl) (.g 15 rfl)) (.k (pickF (.on (.g 10 rfl) rfl rfl) (.g 13 rfl) (.g 16 rfl)) (.k (pickT .k (.g 10 rfl) (.g 17 rfl)) (.k (mv .k (.g 18 rfl)) (.k (cal (.on (.g 19 rfl) rfl rfl) Try.func46 rfl fn_known .n) (.k (pickT .k (.g 19 rfl) (.g 20 rfl)) (.k (asg .k (.g 21 rfl)) .n))))))))))))))))))))))) [] [22] rfl rfl ?_
    refine Tr.ret (end_tmp 0 rfl rfl)
theorem predConvexes_any (l : List (Int × Int)) (v : Value) (a : Int) (W : World) (h : (SP.vec 2 (l.map pc)).H (fun _ => True) v W) (w : ∀ x ∈ l, I64 x.1 ∧ I64 x.2) (w1 : (Lit.int .i64 a).wf = true) : Calls Try.prog 14 #[v, .int .i64 a] W fun e w' => e = .returned (.bool true) ∧ Below W.heap.size W w' :=
  FnC.go (vs := [v, .int .i64 a]) (law_PredConvexes l a) W ⟨h, rfl, trivial⟩
end Go.Proofs.Ytmpbbodafenonaa

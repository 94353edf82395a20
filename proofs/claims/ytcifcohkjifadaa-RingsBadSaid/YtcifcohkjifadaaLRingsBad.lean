/- RingsBad: a segment that may not be is refused, wherever it stands; walked. -/
import Derived.Test.YtcifcohkjifadaaKn
import Derived.Test.YtcifcohkjifadaaSgRow
import Derived.Test.YtcifcohkjifadaaLx
set_option linter.unusedVariables false
set_option linter.unusedSimpArgs false
namespace Go.Proofs.Ytcifcohkjifadaa
open Go Go.RowKit Go.Proofs.Ytcifcohkjifadaa.Fx Go.Proofs.YtcifcohkjifadaaW.PrintWords
def badL (n : Int) : List (Int × Int) := [(0, 0), (n, 0), (0, -1), (-1 - n, 0)]
theorem badL_bad {n : Int} (h : 0 ≤ n) {b : Int × Int} (hb : b ∈ badL n) : segBad n b = true := by
  unfold badL at hb
  simp only [List.mem_cons, List.not_mem_nil, or_false] at hb
  rcases hb with rfl | rfl | rfl | rfl <;> simp [segBad] <;> omega
theorem arg_bad {n : Int} {l : List (Int × Int)} {b : Int × Int} (hb : b ∈ l) (h : segBad n b = true) : argBad n l = true := by
  unfold argBad
  rw [List.any_eq_true.2 ⟨b, hb, h⟩]
  simp
theorem degR_arg {n : Int} {l : List (Int × Int)} (h : argBad n l = true) : degR n l = ([], 2) := by unfold degR; rw [if_pos h]
theorem kstar : ringsR 9 [(3, 4), (3, 5), (3, 6), (4, 5), (5, 6), (6, 4)] = ([], 3, 81) := by decide +kernel
theorem fn_Deg_of2 {n : Int} {l : List (Int × Int)} {r : List Int × Int} (h : degR n l = r) (hl : l.length ≤ 100000) : FnC Try.prog 11 [iv n, svec l] (.tup [ivec r.1, iv r.2]) := h ▸ fn_Degrees n l hl
set_option maxRecDepth 100000 in
set_option maxHeartbeats 8000000 in
theorem law_RingsBad (n : Int) (hn0 : 0 ≤ n) (hn1 : n ≤ 255) (l : List (Int × Int)) (a c : Int) : FnC Try.prog 6 [.is (.int .u8 n), svec l, iv a, iv c] (bv true) := by
 refine FnC.of (N := 122) Try.func6 rfl rfl (Nat.le_of_ble_eq_true rfl) (fun w0 ok0 => ?_)
 refine Tr.rs [] (.k (asg .k .c) .n) [0, 1, 2, 3] [] rfl rfl ?_
 by_cases h : (l.length : Int) > 100
 ·
  refine Tr.seq (Tr.rs [] (.k (mv .k (.b 1 rfl)) (.k (len_ .k rwS (.g 0 rfl) (by rw [List.length_map])) (.k (gt_ .k (.g 1 rfl) .c (decide_eq_true h)) .n))) [0, 1, 2, 3] [2] rfl rfl ?_)
  refine Tr.cond 4 rfl (fun _ => ?_) nofun
  refine Tr.rs [] (.k (cal .k Try.func10 rfl fn_known .n) (.k (asg .k (.g 0 rfl)) .n)) [] [1] rfl rfl ?_
  refine Tr.ret (end_tmp 0 rfl rfl)
 ·
  obtain ⟨k, hkk, hkl⟩ := kk_ex a (l.length + 1) (by omega)
  obtain ⟨j, hjj, hjl⟩ := kk_ex c 4 (by decide)
  obtain ⟨b, pb⟩ : ∃ b, (badL n)[j]? = some b := ⟨_, List.getElem?_eq_getElem (show j < (badL n).length from hjl)⟩
  have hA : argBad n (l.take k ++ [b] ++ l.drop k) = true := arg_bad (by simp) (badL_bad hn0 (List.mem_of_getElem? pb))
  have hml : (l.take k ++ [b] ++ l.drop k).length ≤ 100000 := by simp; omega
  refine Tr.seq (Tr.rs [] (.k (mv .k (.b 1 rfl)) (.k (len_ .k rwS (.g 0 rfl) (by rw [List.length_map])) (.k (gt_ .k (.g 1 rfl) .c (decide_eq_false h)) .n))) [0, 1, 2, 3] [2] rfl rfl ?_)
  refine Tr.cond 4 rfl nofun (fun _ => ?_)
  refine Tr.skip (Nx.go (Tr.rs [] (.k (mv .k (.b 2 rfl)) (.k (cvt_ .k (by kernel_rfl) Try.underlying53 (.g 0 rfl) rfl) (.k (mv .k (.b 1 rfl)) (.k (len_ .k rwS (.g 2 rfl) (by rw [List.length_map])) (.k (add_ .k (.g 3 rfl) .c (show IntKind.i64.wrap ((l.length : Int) + 1) = ((l.length + 1 : Nat) : Int) by rw [IntWalk.i64_in _ (by omega)]; omega)) (.k (cvt_ .k (by kernel_rfl) Try.underlying53 (.g 4 rfl) (u64_id (by omega) (by omega))) (.k (rem_ .k (.g 1 rfl) (.g 5 rfl) (by omega) hkk) (.k (cvt_ .k (by kernel_rfl) Try.underlying3 (.g 6 rfl) (IntWalk.i64_in _ (by omega))) (.k (asg .k (.g 7 rfl)) .n))))))))) [0, 1, 3] [8] rfl rfl ?_))
  refine Tr.rs [] (.k (bld .k (.k .c (.k .c .n)) (bS _ _) (aS _ _)) (.k (mv .k (.b 0 rfl)) (.k (cvt_ .k (by kernel_rfl) Try.underlying3 (.g 1 rfl) (IntWalk.i64_in _ (by omega))) (.k (bld .k (.k (.g 2 rfl) (.k .c .n)) (bS _ _) (aS _ _)) (.k (bld .k (.k .c (.k .c .n)) (bS _ _) (aS _ _)) (.k (mv .k (.b 0 rfl)) (.k (cvt_ .k (by kernel_rfl) Try.underlying3 (.g 5 rfl) (IntWalk.i64_in _ (by omega))) (.k (sub_ .k .c (.g 6 rfl) (IntWalk.i64_in _ (by omega))) (.k (bld .k (.k (.g 7 rfl) (.k .c .n)) (bS _ _) (aS _ _)) (.k (mkrow .k rwS (.k (.g 0 rfl) (.k (.g 3 rfl) (.k (.g 4 rfl) (.k (.g 8 rfl) .n)))) rfl rfl (by kernel_rfl)) (.k (asg .k (.g 9 rfl)) .n))))))))))) [0, 1, 2, 3] [10] rfl rfl ?_
  refine Tr.rs [] (.k (oini (sz := 2) (E := 36) .k (.inl rfl)) .n) [0, 1, 2, 3, 4] [0] rfl rfl ?_
  refine Tr.gos (Go.k (omv .k (.inr rfl) (.b 5 rfl)) [0, 1, 2, 3, 4] rfl rfl (Go.k (mv .k (.b 2 rfl)) [0, 1, 2, 3, 4, 5] rfl rfl (Go.k (mv .k (.b 5 rfl)) [0, 1, 2, 3, 4, 5, 6] rfl rfl (Go.k (slcH .k rwS (.b 1 rfl) (.b 0 rfl) rfl (by rw [List.length_map]; omega)) [2, 3, 4, 5, 6, 7] rfl rfl (Go.k (oapa .k apS (.b 1 rfl) (.b 0 rfl) (by decide) ⟨(show _ = (l.take k).map sgc by rw [List.nil_append, List.map_take]), (by rw [← List.map_take]; exact seg_all _), by rw [List.length_take, List.length_map]; simp; omega⟩) [2, 3, 4, 5, 6] rfl rfl (Go.k (omv .k (.inl rfl) (.b 0 rfl)) [1, 2, 3, 4, 5] rfl rfl (Go.end_ (Nx.go (?_)))))))))
  refine Tr.gos (Go.k (omv .k (.inr rfl) (.b 0 rfl)) [1, 2, 3, 4, 5] rfl rfl (Go.k (mv .k (.b 5 rfl)) [0, 1, 2, 3, 4] rfl rfl (Go.k (mv .k (.b 4 rfl)) [0, 1, 2, 3, 5] rfl rfl (Go.k (cvt_ .k (by kernel_rfl) Try.underlying53 (.b 0 rfl) rfl) [1, 2, 3, 4, 5] rfl rfl (Go.k (rem_ .k (.b 0 rfl) .c (by decide) hjj) [1, 2, 3, 4, 5] rfl rfl (Go.k (cvt_ .k (by kernel_rfl) Try.underlying3 (.b 0 rfl) (IntWalk.i64_in _ (by omega))) [1, 2, 3, 4, 5] rfl rfl (Go.k (idx_ .k rwS (.b 1 rfl) (.b 0 rfl) rfl (by show ((badL n).map sgc)[_]? = _; rw [List.getElem?_map, pb]; rfl)) [2, 3, 4, 5] rfl rfl (Go.k (ld_at .k (.b 0 rfl) tyS rfl (show _ = sgv (_, _) from rfl)) [1, 2, 3, 4] rfl rfl (Go.k (mkrow .k rwS (.k (.b 0 rfl) .n) rfl rfl (by kernel_rfl)) [1, 2, 3, 4] rfl rfl (Go.k (oapp_ .k apS (.b 1 rfl) (.b 0 rfl) (by decide) ⟨(show _ = (l.take k ++ [b]).map sgc by rw [List.map_append]; rfl), ⟨rfl, rfl⟩, by rw [List.length_map, List.length_take]; omega⟩) [2, 3, 4] rfl rfl (Go.k (omv .k (.inl rfl) (.b 0 rfl)) [1, 2, 3] rfl rfl (Go.end_ (Nx.go (?_))))))))))))))
  refine Tr.gos (Go.k (omv .k (.inr rfl) (.b 0 rfl)) [1, 2, 3] rfl rfl (Go.k (mv .k (.b 2 rfl)) [0, 1, 3] rfl rfl (Go.k (mv .k (.b 3 rfl)) [0, 1, 2] rfl rfl (Go.k (slcL .k rwS (.b 1 rfl) (.b 0 rfl) rfl (by rw [List.length_map]; omega)) [2, 3] rfl rfl (Go.k (oapa .k apS (.b 1 rfl) (.b 0 rfl) (by decide) ⟨(show _ = (l.take k ++ [b] ++ l.drop k).map sgc by rw [List.map_append (l₁ := l.take k ++ [b]), List.map_drop]), (by rw [← List.map_drop]; exact seg_all _), by rw [List.length_map, List.length_append, List.length_take, List.length_drop, List.length_map]; simp; omega⟩) [2] rfl rfl (Go.k (omv .k (.inl rfl) (.b 0 rfl)) [1] rfl rfl (Go.end_ (Nx.go (?_)))))))))
  refine Tr.frzo 0 [1] rfl rfl ?_
  refine Tr.rs [] (.k (mv .k (.b 1 rfl)) (.k (cvt_ .k (by kernel_rfl) Try.underlying3 (.g 0 rfl) (IntWalk.i64_in _ (by omega))) (.k (mv .k (.b 0 rfl)) (.k (cal .k Try.func13 rfl (fn_Rings_of (ringsR_bad hA) hml) (.k (.g 1 rfl) (.k (.g 2 rfl) .n))) (.k (mv .k (.g 3 rfl)) (.k (exx .k (.g 4 rfl) rfl) (.k (exx .k (.g 4 rfl) rfl) (.k (exx .k (.g 4 rfl) rfl) (.k (asg .k (.g 5 rfl)) (.k (asg .k (.g 6 rfl)) (.k (asg .k (.g 7 rfl)) .n))))))))))) [0, 1] [8, 9, 10] rfl rfl ?_
  refine Tr.rs [] (.k (mv .k (.b 1 rfl)) (.k (cvt_ .k (by kernel_rfl) Try.underlying3 (.g 0 rfl) (IntWalk.i64_in _ (by omega))) (.k (mv .k (.b 0 rfl)) (.k (cal .k Try.func11 rfl (fn_Deg_of2 (degR_arg hA) hml) (.k (.g 1 rfl) (.k (.g 2 rfl) .n))) (.k (mv .k (.g 3 rfl)) (.k (exx .k (.g 4 rfl) rfl) (.k (exx .k (.g 4 rfl) rfl) (.k (asg .k (.g 5 rfl)) (.k (asg .k (.g 6 rfl)) .n))))))))) [2, 3, 4] [7, 8] rfl rfl ?_
  refine Tr.rs [] (.k (bld .k (.k .c (.k .c .n)) (bS _ _) (aS _ _)) (.k (bld .k (.k .c (.k .c .n)) (bS _ _) (aS _ _)) (.k (bld .k (.k .c (.k .c .n)) (bS _ _) (aS _ _)) (.k (bld .k (.k .c (.k .c .n)) (bS _ _) (aS _ _)) (.k (bld .k (.k .c (.k .c .n)) (bS _ _) (aS _ _)) (.k (bld .k (.k .c (.k .c .n)) (bS _ _) (aS _ _)) (.k (mkrow .k rwS (.k (.g 0 rfl) (.k (.g 1 rfl) (.k (.g 2 rfl) (.k (.g 3 rfl) (.k (.g 4 rfl) (.k (.g 5 rfl) .n)))))) rfl rfl (by kernel_rfl)) (.k (asg .k (.g 6 rfl)) .n)))))))) [0, 1, 2, 3, 4] [7] rfl rfl ?_
  refine Tr.rs [] (.k (mv .k (.b 5 rfl)) (.k (cal .k Try.func13 rfl (fn_Rings_of kstar (by decide)) (.k .c (.k (.g 0 rfl) .n))) (.k (mv .k (.g 1 rfl)) (.k (exx .k (.g 2 rfl) rfl) (.k (exx .k (.g 2 rfl) rfl) (.k (exx .k (.g 2 rfl) rfl) (.k (asg .k (.g 3 rfl)) (.k (asg .k (.g 4 rfl)) (.k (asg .k (.g 5 rfl)) .n))))))))) [0, 1, 2, 3, 4] [7, 8] rfl rfl ?_
  refine Tr.rs [] (.k (mv .k (.b 0 rfl)) (.k (lenv .k rwL (.g 0 rfl) rfl) (.k (eq_ .k (.g 1 rfl) .c (show (_ == _) = true from rfl)) (.k (mv .k (.g 2 rfl)) (.k (mv (.on (.g 3 rfl) rfl rfl) (.b 1 rfl)) (.k (eq_ (.on (.g 3 rfl) rfl rfl) (.g 4 rfl) .c (show (_ == _) = true from rfl)) (.k (pickT .k (.g 3 rfl) (.g 5 rfl)) (.k (mv .k (.g 6 rfl)) (.k (mv (.on (.g 7 rfl) rfl rfl) (.b 2 rfl)) (.k (eq_ (.on (.g 7 rfl) rfl rfl) (.g 8 rfl) .c (show (_ == _) = true from rfl)) (.k (pickT .k (.g 7 rfl) (.g 9 rfl)) (.k (mv .k (.g 10 rfl)) (.k (mv (.on (.g 11 rfl) rfl rfl) (.b 3 rfl)) (.k (len_ (.on (.g 11 rfl) rfl rfl) rwI (.g 12 rfl) rfl) (.k (eq_ (.on (.g 11 rfl) rfl rfl) (.g 13 rfl) .c (show (_ == _) = true from rfl)) (.k (pickT .k (.g 11 rfl) (.g 14 rfl)) (.k (mv .k (.g 15 rfl)) (.k (mv (.on (.g 16 rfl) rfl rfl) (.b 4 rfl)) (.k (eq_ (.on (.g 16 rfl) rfl rfl) (.g 17 rfl) .c (show (_ == _) = true from rfl)) (.k (pickT .k (.g 16 rfl) (.g 18 rfl)) (.k (mv .k (.g 19 rfl)) (.k (mv (.on (.g 20 rfl) rfl rfl) (.b 5 rfl)) (.k (eq_ (.on (.g 20 rfl) rfl rfl) (.g 21 rfl) .c (show (_ == _) = true from rfl)) (.k (pickT .k (.g 20 rfl) (.g 22 rfl)) (.k (mv .k (.g 23 rfl)) (.k (mv (.on (.g 24 rfl) rfl rfl) (.b 6 rfl)) (.k (eq_ (.on (.g 24 rfl) rfl rfl) (.g 25 rfl) .c (show (_ == _) = true from rfl)) (.k (pickT .k (.g 24 rfl) (.g 26 rfl)) (.k (mv .k (.g 27 rfl)) (.k (cal (.on (.g 28 rfl) rfl rfl) Try.func10 rfl fn_known .n) (.k (pickT .k (.g 28 rfl) (.g 29 rfl)) (.k (asg .k (.g 30 rfl)) .n)))))))))))))))))))))))))))))))) [] [31] rfl rfl ?_
  refine Tr.ret (end_tmp 0 rfl rfl)
theorem ringsBad_any (n : Int) (l : List (Int × Int)) (v : Value) (a c : Int) (W : World) (w0 : (Lit.int .u8 n).wf = true) (h : (svec l).H (fun _ => True) v W) (w : ∀ x ∈ l, I64 x.1 ∧ I64 x.2) (w2 : (Lit.int .i64 a).wf = true) (w3 : (Lit.int .i64 c).wf = true) : Calls Try.prog 6 #[.int .u8 n, v, .int .i64 a, .int .i64 c] W fun e w' => e = .returned (.bool true) ∧ Below W.heap.size W w' := by
  have h8 : 0 ≤ n ∧ n ≤ 255 := by simpa [Lit.wf, show IntKind.u8.min = 0 by decide, show IntKind.u8.max = 255 by decide] using w0
  exact FnC.go (vs := [.int .u8 n, v, .int .i64 a, .int .i64 c]) (law_RingsBad n h8.1 h8.2 l a c) W ⟨rfl, h, rfl, rfl, trivial⟩
end Go.Proofs.Ytcifcohkjifadaa

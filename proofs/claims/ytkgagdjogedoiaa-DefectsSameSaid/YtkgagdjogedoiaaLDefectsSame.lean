/- DefectsSame, walked. -/
import Derived.Test.YtkgagdjogedoiaaDpa
import Derived.Test.YtkgagdjogedoiaaMsRow
set_option linter.unusedVariables false
set_option linter.unusedSimpArgs false
namespace Go.Proofs.Ytkgagdjogedoiaa
open Go Go.RowKit Go.Proofs.Ytkgagdjogedoiaa.Fx Go.Proofs.YtkgagdjogedoiaaW.PrintWords
theorem fn_manyK {P : List (Int × Int)} {T : List (Int × Int × Int)} {S : List (Int × Int)} {r : Bool} (h : manyB P T S = r) : FnC Try.prog 5 [SP.mesh P T S] (bv r) := h ▸ fn_many
theorem fn_rChk {P : List (Int × Int)} {T : List (Int × Int × Int)} {S : List (Int × Int)} (hP : P.length ≤ 1000000) (hT : T.length ≤ 1000000) (hS : S.length ≤ 1000000) : FnC Try.prog 6 [SP.mesh P T S] (iv (mC P T S)) := fn_rCheck hP hT hS
theorem same_ways (P : List (Int × Int)) (T : List (Int × Int × Int)) (S : List (Int × Int)) : manyB P T S = true ∨ (manyB P T S = false ∧ mC P T S = 2) ∨ (manyB P T S = false ∧ mC P T S = 0) := by
  cases h : manyB P T S with
  | true => exact .inl rfl
  | false =>
    rcases mC_two (P := P) (T := T) (S := S) with h1 | h1
    · exact .inr (.inr ⟨rfl, h1⟩)
    · exact .inr (.inl ⟨rfl, h1⟩)
set_option maxRecDepth 100000 in
set_option maxHeartbeats 8000000 in
theorem lawSame_any {P : List (Int × Int)} {T : List (Int × Int × Int)} {S : List (Int × Int)} (hw : ∀ s ∈ S, (Lit.int .i64 s.1).wf = true ∧ (Lit.int .i64 s.2).wf = true) : FnC Try.prog 3 [SP.mesh P T S] (bv true) := by
 refine FnC.of (N := 84) Try.func3 rfl rfl (Nat.le_of_ble_eq_true rfl) (fun w0 ok0 => ?_)
 refine Tr.rs [] (.k (bxx .k (.b 0 rfl)) (.k (asg .k .c) .n)) [] [0] rfl rfl ?_
 rcases same_ways P T S with hm | ⟨hm, hc⟩ | ⟨hm, hc⟩
 ·
  refine Tr.seq (Tr.rs [] (.k (ld .k (.b 0 rfl) tyM) (.k (cal .k Try.func5 rfl (fn_manyK hm) (.k (.g 0 rfl) .n)) (.k (mv .k (.g 1 rfl)) (.k (skp (.o 2 rfl rfl rfl)) (.k (skp (.o 2 rfl rfl rfl)) (.k (skp (.o 2 rfl rfl rfl)) (.k (pickT .k (.g 2 rfl) .c) .n))))))) [0] [6] rfl rfl ?_)
  refine Tr.cond 1 rfl (fun _ => ?_) nofun
  refine Tr.rs [] (.k (cal .k Try.func7 rfl fn_known .n) (.k (asg .k (.g 0 rfl)) .n)) [] [1] rfl rfl ?_
  refine Tr.ret (end_tmp 0 rfl rfl)
 ·
  have hl := many_no hm
  have hP : P.length ≤ 1000000 := by omega
  have hT : T.length ≤ 1000000 := by omega
  have hS : S.length ≤ 1000000 := by omega
  have hP' : (P.map twP).length ≤ 1000000 := by rw [List.length_map]; omega
  refine Tr.seq (Tr.rs [] (.k (ld .k (.b 0 rfl) tyM) (.k (cal .k Try.func5 rfl (fn_manyK hm) (.k (.g 0 rfl) .n)) (.k (mv .k (.g 1 rfl)) (.k (ld (.o 2 rfl rfl rfl) (.b 0 rfl) tyM) (.k (cal (.o 2 rfl rfl rfl) Try.func6 rfl (fn_rChk hP hT hS) (.k (.g 3 rfl) .n)) (.k (ne_ (.o 2 rfl rfl rfl) (.g 4 rfl) .c (bne_iff_ne.2 (by rw [hc]; decide))) (.k (pickF .k (.g 2 rfl) (.g 5 rfl)) .n))))))) [0] [6] rfl rfl ?_)
  refine Tr.cond 1 rfl (fun _ => ?_) nofun
  refine Tr.rs [] (.k (cal .k Try.func7 rfl fn_known .n) (.k (asg .k (.g 0 rfl)) .n)) [] [1] rfl rfl ?_
  refine Tr.ret (end_tmp 0 rfl rfl)
 ·
  have hl := many_no hm
  have hP : P.length ≤ 1000000 := by omega
  have hT : T.length ≤ 1000000 := by omega
  have hS : S.length ≤ 1000000 := by omega
  have hP' : (P.map twP).length ≤ 1000000 := by rw [List.length_map]; omega
  refine Tr.seq (Tr.rs [] (.k (ld .k (.b 0 rfl) tyM) (.k (cal .k Try.func5 rfl (fn_manyK hm) (.k (.g 0 rfl) .n)) (.k (mv .k (.g 1 rfl)) (.k (ld (.o 2 rfl rfl rfl) (.b 0 rfl) tyM) (.k (cal (.o 2 rfl rfl rfl) Try.func6 rfl (fn_rChk hP hT hS) (.k (.g 3 rfl) .n)) (.k (ne_ (.o 2 rfl rfl rfl) (.g 4 rfl) .c (bne_eq_false_iff_eq.2 hc)) (.k (pickF .k (.g 2 rfl) (.g 5 rfl)) .n))))))) [0] [6] rfl rfl ?_)
  refine Tr.cond 1 rfl nofun (fun _ => ?_)
  refine Tr.skip (Nx.go (Tr.rs [] (.k (ld .k (.b 0 rfl) tyM) (.k (cal .k Try.func8 rfl (fn_changed hP hT hS) (.k (.g 0 rfl) .n)) (.k (ala .k zM) (.k (sta .k (.g 2 rfl) (.g 1 rfl) tyM) .n)))) [0] [3] rfl rfl ?_))
  rcases mC_two (P := P.map twP) (T := T) (S := S) with hc' | hc'
  ·
   obtain ⟨e1, e2⟩ := same_defects hc hc'
   have l1 := crdL_len P T S
   have l2 := sknL_len P T S
   refine Tr.seq (Tr.rs [] (.k (ld .k (.b 1 rfl) tyM) (.k (cal .k Try.func6 rfl (fn_rChk hP' hT hS) (.k (.g 0 rfl) .n)) (.k (ne_ .k (.g 1 rfl) .c (bne_eq_false_iff_eq.2 hc')) .n))) [0, 1] [2] rfl rfl ?_)
   refine Tr.cond 2 rfl nofun (fun _ => ?_)
   refine Tr.skip (Nx.go (Tr.rs [] (.k (ld .k (.b 0 rfl) tyM) (.k (cal .k Try.func9 rfl (fn_CrowdedL hP hT hS hw rfl hc) (.k (.g 0 rfl) .n)) (.k (mv .k (.g 1 rfl)) (.k (exx .k (.g 2 rfl) rfl) (.k (exx .k (.g 2 rfl) rfl) (.k (asg .k (.g 3 rfl)) (.k (asg .k (.g 4 rfl)) .n))))))) [0, 1] [5, 6] rfl rfl ?_))
   refine Tr.rs [] (.k (ld .k (.b 1 rfl) tyM) (.k (cal .k Try.func9 rfl (fn_CrowdedL hP' hT hS hw e1 hc') (.k (.g 0 rfl) .n)) (.k (mv .k (.g 1 rfl)) (.k (exx .k (.g 2 rfl) rfl) (.k (exx .k (.g 2 rfl) rfl) (.k (asg .k (.g 3 rfl)) (.k (asg .k (.g 4 rfl)) .n))))))) [0, 1, 2, 3] [5, 6] rfl rfl ?_
   refine Tr.rs [] (.k (ld .k (.b 0 rfl) tyM) (.k (cal .k Try.func10 rfl (fn_SkinnyL hP hT hS hw rfl hc) (.k (.g 0 rfl) .n)) (.k (mv .k (.g 1 rfl)) (.k (exx .k (.g 2 rfl) rfl) (.k (exx .k (.g 2 rfl) rfl) (.k (asg .k (.g 3 rfl)) (.k (asg .k (.g 4 rfl)) .n))))))) [0, 1, 2, 3, 4, 5] [5, 6] rfl rfl ?_
   refine Tr.rs [] (.k (ld .k (.b 1 rfl) tyM) (.k (cal .k Try.func10 rfl (fn_SkinnyL hP' hT hS hw e2 hc') (.k (.g 0 rfl) .n)) (.k (mv .k (.g 1 rfl)) (.k (exx .k (.g 2 rfl) rfl) (.k (exx .k (.g 2 rfl) rfl) (.k (asg .k (.g 3 rfl)) (.k (asg .k (.g 4 rfl)) .n))))))) [0, 2, 3, 4, 5, 6, 7] [5, 6] rfl rfl ?_
   refine Tr.rs [] (.k (mv .k (.b 2 rfl)) (.k (eq_ .k (.g 0 rfl) .c (beq_iff_eq.2 rfl)) (.k (mv .k (.g 1 rfl)) (.k (mv (.o 2 rfl rfl rfl) (.b 4 rfl)) (.k (eq_ (.o 2 rfl rfl rfl) (.g 3 rfl) .c (beq_iff_eq.2 rfl)) (.k (pickT .k (.g 2 rfl) (.g 4 rfl)) (.k (mv .k (.g 5 rfl)) (.k (mv (.o 6 rfl rfl rfl) (.b 6 rfl)) (.k (eq_ (.o 6 rfl rfl rfl) (.g 7 rfl) .c (beq_iff_eq.2 rfl)) (.k (pickT .k (.g 6 rfl) (.g 8 rfl)) (.k (mv .k (.g 9 rfl)) (.k (mv (.o 10 rfl rfl rfl) (.b 8 rfl)) (.k (eq_ (.o 10 rfl rfl rfl) (.g 11 rfl) .c (beq_iff_eq.2 rfl)) (.k (pickT .k (.g 10 rfl) (.g 12 rfl)) (.k (mv .k (.g 13 rfl)) (.k (mv (.o 14 rfl rfl rfl) (.b 1 rfl)) (.k (mv (.o 14 rfl rfl rfl) (.b 3 rfl)) (.k (cal (.o 14 rfl rfl rfl) Try.func11 rfl (fn_SameT (crdL P T S) (by omega)) (.k (.g 15 rfl) (.k (.g 16 rfl) .n))) (.k (pickT .k (.g 14 rfl) (.g 17 rfl)) (.k (mv .k (.g 18 rfl)) (.k (mv (.o 19 rfl rfl rfl) (.b 5 rfl)) (.k (mv (.o 19 rfl rfl rfl) (.b 7 rfl)) (.k (cal (.o 19 rfl rfl rfl) Try.func11 rfl (fn_SameT (sknL P T S) (by omega)) (.k (.g 20 rfl) (.k (.g 21 rfl) .n))) (.k (pickT .k (.g 19 rfl) (.g 22 rfl)) (.k (mv .k (.g 23 rfl)) (.k (ld (.o 24 rfl rfl rfl) (.b 0 rfl) tyM) (.k (cal (.o 24 rfl rfl rfl) Try.func12 rfl (fn_GoodL hP hT hS hw (goodR_of hc)) (.k (.g 25 rfl) .n)) (.k (mv (.o 24 rfl rfl rfl) (.b 1 rfl)) (.k (len_ (.o 24 rfl rfl rfl) rwI (.g 27 rfl) (by rw [List.length_map])) (.k (mv (.o 24 rfl rfl rfl) (.b 5 rfl)) (.k (len_ (.o 24 rfl rfl rfl) rwI (.g 29 rfl) (by rw [List.length_map])) (.k (add_ (.o 24 rfl rfl rfl) (.g 28 rfl) (.g 30 rfl) (show IntKind.i64.wrap (((crdL P T S).length : Int) + ((sknL P T S).length : Int)) = _ from IntWalk.i64_in _ (by omega))) (.k (eq_ (.o 24 rfl rfl rfl) (.g 31 rfl) .c rfl) (.k (eqB_ (.o 24 rfl rfl rfl) Try.underlying4 (.g 26 rfl) (.g 32 rfl) (beq_self_eq_true _)) (.k (pickT .k (.g 24 rfl) (.g 33 rfl)) (.k (mv .k (.g 34 rfl)) (.k (cal (.o 35 rfl rfl rfl) Try.func7 rfl fn_known .n) (.k (pickT .k (.g 35 rfl) (.g 36 rfl)) (.k (asg .k (.g 37 rfl)) .n))))))))))))))))))))))))))))))))))))))) [] [38] rfl rfl ?_
   refine Tr.ret (end_tmp 0 rfl rfl)
  ·
   refine Tr.seq (Tr.rs [] (.k (ld .k (.b 1 rfl) tyM) (.k (cal .k Try.func6 rfl (fn_rChk hP' hT hS) (.k (.g 0 rfl) .n)) (.k (ne_ .k (.g 1 rfl) .c (bne_iff_ne.2 (by rw [hc']; decide))) .n))) [0, 1] [2] rfl rfl ?_)
   refine Tr.cond 2 rfl (fun _ => ?_) nofun
   refine Tr.rs [] (.k (cal .k Try.func7 rfl fn_known .n) (.k (asg .k (.g 0 rfl)) .n)) [] [1] rfl rfl ?_
   refine Tr.ret (end_tmp 0 rfl rfl)
theorem defectsSame_any (P : List (Int × Int)) (T : List (Int × Int × Int)) (S : List (Int × Int)) (v : Value) (W : World) (h : (SP.mesh P T S).H (fun _ => True) v W) (hw : ∀ s ∈ S, (Lit.int .i64 s.1).wf = true ∧ (Lit.int .i64 s.2).wf = true) : Calls Try.prog 3 #[v] W fun e w' => e = .returned (.bool true) ∧ Below W.heap.size W w' :=
  FnC.go (vs := [v]) (lawSame_any hw) W ⟨h, trivial⟩
end Go.Proofs.Ytkgagdjogedoiaa

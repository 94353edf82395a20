/- Too many; a mesh in new memory; turned and twice as great: walked. -/
import Derived.Test.YtkgagdjogedoiaaDfb
import Derived.Test.YtkgagdjogedoiaaCx
set_option linter.unusedVariables false
set_option linter.unusedSimpArgs false
set_option maxRecDepth 100000
set_option maxHeartbeats 8000000
namespace Go.Proofs.Ytkgagdjogedoiaa
open Go Go.RowKit Go.Proofs.Ytkgagdjogedoiaa.Fx Go.Proofs.YtkgagdjogedoiaaW.PrintWords
theorem aPX : ∃ fs fl, Try.prog.underlying 37 = some (.struct fs) ∧ fs[0]? = some fl ∧ ∀ ad W, (fieldPlace ad fl).run Try.prog W = .ok (ad.add 0) W := ⟨_, _, Try.underlying37, rfl, fun ad W => by kernel_rfl⟩
theorem aPY : ∃ fs fl, Try.prog.underlying 37 = some (.struct fs) ∧ fs[1]? = some fl ∧ ∀ ad W, (fieldPlace ad fl).run Try.prog W = .ok (ad.add 1) W := ⟨_, _, Try.underlying37, rfl, fun ad W => by kernel_rfl⟩
theorem szvP : (Try.prog.info? 22).map (·.size) = some 1 := by kernel_rfl
theorem szvT : (Try.prog.info? 23).map (·.size) = some 1 := by kernel_rfl
theorem szvS : (Try.prog.info? 24).map (·.size) = some 1 := by kernel_rfl
theorem szP : (Try.prog.info? 37).map (·.size) = some 2 := by kernel_rfl
theorem bM0 : Try.prog.built 26 [] = some #[.slice none 0 0, .slice none 0 0, .slice none 0 0] := by kernel_rfl
theorem apP : AppTy Try.prog 22 37 2 16 := apTy Try.underlying22 (by decide) (by kernel_rfl)
theorem apT : AppTy Try.prog 23 42 3 24 := apTy Try.underlying23 (by decide) (by kernel_rfl)
theorem pt_all (l : List (Int × Int)) : ((l.map pc).all fun r => r.length == 2 && r.all (·.oneCell')) = true := by
  rw [List.all_eq_true]
  intro r hr
  obtain ⟨z, _, rfl⟩ := List.mem_map.1 hr
  rfl
theorem tri_all (l : List (Int × Int × Int)) : ((l.map trc).all fun r => r.length == 3 && r.all (·.oneCell')) = true := by
  rw [List.all_eq_true]
  intro r hr
  obtain ⟨z, _, rfl⟩ := List.mem_map.1 hr
  rfl
instance {A B C : Option Addr} {a b c a' b' c' : Nat} : AggSP (.is (.agg #[.slice A a a', .slice B b b', .slice C c c'])) 3 := ⟨fun h => ⟨_, h, rfl, by simp [Value.oneCell']⟩⟩
def manyB (P : List (Int × Int)) (T : List (Int × Int × Int)) (S : List (Int × Int)) : Bool := decide (P.length > 30 ∨ T.length > 50 ∨ S.length > 60)
theorem many_no {P : List (Int × Int)} {T : List (Int × Int × Int)} {S : List (Int × Int)} (h : manyB P T S = false) : P.length ≤ 30 ∧ T.length ≤ 50 ∧ S.length ≤ 60 := by
  have := of_decide_eq_false h
  omega
theorem fn_many {P : List (Int × Int)} {T : List (Int × Int × Int)} {S : List (Int × Int)} : FnC Try.prog 5 [SP.mesh P T S] (bv (manyB P T S)) := by
 refine FnC.of (N := 19) Try.func5 rfl rfl (Nat.le_of_ble_eq_true rfl) (fun w0 ok0 => ?_)
 refine Tr.rs [] (.k (bxx .k (.b 0 rfl)) (.k (asg .k .c) .n)) [] [0] rfl rfl ?_
 rcases (show P.length > 30 ∨ (P.length ≤ 30 ∧ T.length > 50) ∨ (P.length ≤ 30 ∧ T.length ≤ 50 ∧ S.length > 60) ∨ (P.length ≤ 30 ∧ T.length ≤ 50 ∧ S.length ≤ 60) by omega) with h | h | h | h
 ·
  rw [show manyB P T S = true from decide_eq_true (by omega)]
  refine Tr.rs [] (.k (faddr .k (.b 0 rfl) rfl fMP) (.k (ldc .k (.g 0 rfl) (.b 0 rfl) tyvP) (.k (len_ .k rwP (.g 1 rfl) (by rw [List.length_map])) (.k (gt_ .k (.g 2 rfl) .c (dT (by omega))) (.k (mv .k (.g 3 rfl)) (.k (skp (.o 4 rfl rfl rfl)) (.k (skp (.o 4 rfl rfl rfl)) (.k (skp (.o 4 rfl rfl rfl)) (.k (skp (.o 4 rfl rfl rfl)) (.k (pickT .k (.g 4 rfl) .c) (.k (mv .k (.g 9 rfl)) (.k (skp (.o 10 rfl rfl rfl)) (.k (skp (.o 10 rfl rfl rfl)) (.k (skp (.o 10 rfl rfl rfl)) (.k (skp (.o 10 rfl rfl rfl)) (.k (pickT .k (.g 10 rfl) .c) (.k (asg .k (.g 15 rfl)) .n))))))))))))))))) [] [16] rfl rfl ?_
  refine Tr.ret (end_tmp 0 rfl rfl)
 ·
  rw [show manyB P T S = true from decide_eq_true (by omega)]
  refine Tr.rs [] (.k (faddr .k (.b 0 rfl) rfl fMP) (.k (ldc .k (.g 0 rfl) (.b 0 rfl) tyvP) (.k (len_ .k rwP (.g 1 rfl) (by rw [List.length_map])) (.k (gt_ .k (.g 2 rfl) .c (dF (by omega))) (.k (mv .k (.g 3 rfl)) (.k (faddr (.o 4 rfl rfl rfl) (.b 0 rfl) rfl fMT) (.k (ldc (.o 4 rfl rfl rfl) (.g 5 rfl) (.b 0 rfl) tyvT) (.k (len_ (.o 4 rfl rfl rfl) rwT (.g 6 rfl) (by rw [List.length_map])) (.k (gt_ (.o 4 rfl rfl rfl) (.g 7 rfl) .c (dT (by omega))) (.k (pickF .k (.g 4 rfl) (.g 8 rfl)) (.k (mv .k (.g 9 rfl)) (.k (skp (.o 10 rfl rfl rfl)) (.k (skp (.o 10 rfl rfl rfl)) (.k (skp (.o 10 rfl rfl rfl)) (.k (skp (.o 10 rfl rfl rfl)) (.k (pickT .k (.g 10 rfl) .c) (.k (asg .k (.g 15 rfl)) .n))))))))))))))))) [] [16] rfl rfl ?_
  refine Tr.ret (end_tmp 0 rfl rfl)
 ·
  rw [show manyB P T S = true from decide_eq_true (by omega)]
  refine Tr.rs [] (.k (faddr .k (.b 0 rfl) rfl fMP) (.k (ldc .k (.g 0 rfl) (.b 0 rfl) tyvP) (.k (len_ .k rwP (.g 1 rfl) (by rw [List.length_map])) (.k (gt_ .k (.g 2 rfl) .c (dF (by omega))) (.k (mv .k (.g 3 rfl)) (.k (faddr (.o 4 rfl rfl rfl) (.b 0 rfl) rfl fMT) (.k (ldc (.o 4 rfl rfl rfl) (.g 5 rfl) (.b 0 rfl) tyvT) (.k (len_ (.o 4 rfl rfl rfl) rwT (.g 6 rfl) (by rw [List.length_map])) (.k (gt_ (.o 4 rfl rfl rfl) (.g 7 rfl) .c (dF (by omega))) (.k (pickF .k (.g 4 rfl) (.g 8 rfl)) (.k (mv .k (.g 9 rfl)) (.k (faddr (.o 10 rfl rfl rfl) (.b 0 rfl) rfl fMS) (.k (ldc (.o 10 rfl rfl rfl) (.g 11 rfl) (.b 0 rfl) tyvS) (.k (len_ (.o 10 rfl rfl rfl) rwS (.g 12 rfl) (by rw [List.length_map])) (.k (gt_ (.o 10 rfl rfl rfl) (.g 13 rfl) .c (dT (by omega))) (.k (pickF .k (.g 10 rfl) (.g 14 rfl)) (.k (asg .k (.g 15 rfl)) .n))))))))))))))))) [] [16] rfl rfl ?_
  refine Tr.ret (end_tmp 0 rfl rfl)
 ·
  rw [show manyB P T S = false from decide_eq_false (by omega)]
  refine Tr.rs [] (.k (faddr .k (.b 0 rfl) rfl fMP) (.k (ldc .k (.g 0 rfl) (.b 0 rfl) tyvP) (.k (len_ .k rwP (.g 1 rfl) (by rw [List.length_map])) (.k (gt_ .k (.g 2 rfl) .c (dF (by omega))) (.k (mv .k (.g 3 rfl)) (.k (faddr (.o 4 rfl rfl rfl) (.b 0 rfl) rfl fMT) (.k (ldc (.o 4 rfl rfl rfl) (.g 5 rfl) (.b 0 rfl) tyvT) (.k (len_ (.o 4 rfl rfl rfl) rwT (.g 6 rfl) (by rw [List.length_map])) (.k (gt_ (.o 4 rfl rfl rfl) (.g 7 rfl) .c (dF (by omega))) (.k (pickF .k (.g 4 rfl) (.g 8 rfl)) (.k (mv .k (.g 9 rfl)) (.k (faddr (.o 10 rfl rfl rfl) (.b 0 rfl) rfl fMS) (.k (ldc (.o 10 rfl rfl rfl) (.g 11 rfl) (.b 0 rfl) tyvS) (.k (len_ (.o 10 rfl rfl rfl) rwS (.g 12 rfl) (by rw [List.length_map])) (.k (gt_ (.o 10 rfl rfl rfl) (.g 13 rfl) .c (dF (by omega))) (.k (pickF .k (.g 10 rfl) (.g 14 rfl)) (.k (asg .k (.g 15 rfl)) .n))))))))))))))))) [] [16] rfl rfl ?_
  refine Tr.ret (end_tmp 0 rfl rfl)
section
variable {w0 : World} {ok0 : Nat → Prop} {N : Nat} {ops : Array Oper} {Q : Exit → Act → World → Prop} {F : List Fact} {i : Nat} {r : List Oper} {K : Act → World → Prop}
theorem Nx.mesh {t : Tmp} {a b d : Value} {P : List (Int × Int)} {T : List (Int × Int × Int)} {S : List (Int × Int)} (k j1 j2 j3 : Nat) (hk : F[k]? = some (.s t (.is (.agg #[a, b, d])))) (h1 : F[j1]? = some (.v [a] [pvec P])) (h2 : F[j2]? = some (.v [b] [tvec T])) (h3 : F[j3]? = some (.v [d] [svec S])) (h : Nx w0 ok0 N (.s t (SP.mesh P T S) :: F) K) : Nx w0 ok0 N F K :=
  Nx.more (f' := .s t (SP.mesh P T S)) rfl rfl (fun ok x W hh => by
    have e : x.tmps.getD t undef = .agg #[a, b, d] := hh _ (List.mem_of_getElem? hk)
    have a1 : Args ok W [pvec P] [a] := hh _ (List.mem_of_getElem? h1)
    have a2 : Args ok W [tvec T] [b] := hh _ (List.mem_of_getElem? h2)
    have a3 : Args ok W [svec S] [d] := hh _ (List.mem_of_getElem? h3)
    show (SP.mesh P T S).H ok _ W
    rw [e]
    exact ⟨a, b, d, rfl, a1.1, a2.1, a3.1, trivial⟩) h
theorem Go.mesh {t : Tmp} {a b d : Value} {P : List (Int × Int)} {T : List (Int × Int × Int)} {S : List (Int × Int)} (k j1 j2 j3 : Nat) (hk : F[k]? = some (.s t (.is (.agg #[a, b, d])))) (h1 : F[j1]? = some (.v [a] [pvec P])) (h2 : F[j2]? = some (.v [b] [tvec T])) (h3 : F[j3]? = some (.v [d] [svec S])) (h : Go Try.prog w0 ok0 N ops Q i r (.s t (SP.mesh P T S) :: F)) : Go Try.prog w0 ok0 N ops Q i r F :=
  Go.ghost (α := Unit) (fun K hh => Nx.mesh k j1 j2 j3 hk h1 h2 h3 (hh ())) fun _ => h
end
theorem fn_Copy {P : List (Int × Int)} {T : List (Int × Int × Int)} {S : List (Int × Int)} (hP : P.length ≤ 1000000) (hT : T.length ≤ 1000000) (hS : S.length ≤ 1000000) : FnC Try.prog 23 [SP.mesh P T S] (SP.mesh P T S) := by
 refine FnC.of (N := 24) Try.func23 rfl rfl (Nat.le_of_ble_eq_true rfl) (fun w0 ok0 => ?_)
 refine Tr.rs [] (.k (bxx .k (.b 0 rfl)) (.k (alc .k zM) .n)) [] [0, 1] rfl rfl ?_
 refine Tr.rs [] (.k (bld .k .n bM0 rfl) (.k (ala .k zM) (.k (sta .k (.g 1 rfl) (.g 0 rfl) tyM) .n))) [0, 1] [2] rfl rfl ?_
 refine Tr.boxh [.slice none 0 0, .slice none 0 0, .slice none 0 0] 1 2 [0, 1] rfl rfl rfl (fun g1 => ?_)
 refine Tr.gos (Go.k (fadh .k (.b 0 rfl) fMP) [0, 1, 2, 3] rfl rfl (Go.k (ldn .k (.b 0 rfl) (.b 2 rfl) tyvP rfl) [1, 2, 3, 4] rfl rfl (Go.k (faddr .k (.b 3 rfl) rfl fMP) [0, 1, 2, 3, 4] rfl rfl (Go.k (ldc .k (.b 0 rfl) (.b 4 rfl) tyvP) [1, 2, 3, 4, 5] rfl rfl (Go.k (apn .k apP (.b 1 rfl) (.b 0 rfl) (pt_all _) (by decide) (by rw [List.length_map]; omega)) [2, 3, 4, 5] rfl rfl (Go.frzo 0 [1, 2, 3, 4] rfl rfl (Go.name 0 rfl fun A2 c2 => (Go.k (fadh .k (.b 3 rfl) fMP) [0, 1, 2, 3, 4, 5, 6] rfl rfl (Go.k (sth1 .k (.b 0 rfl) (.b 5 rfl) (.b 1 rfl) szvP rfl (show 0 < 3 by decide) rfl rfl) [2, 4, 6, 7] rfl rfl (Go.end_ (Nx.go (?_))))))))))))
 refine Tr.gos (Go.k (fadh .k (.b 2 rfl) fMT) [0, 1, 2, 3, 4] rfl rfl (Go.k (ldn .k (.b 0 rfl) (.b 1 rfl) tyvT rfl) [1, 2, 3, 4, 5] rfl rfl (Go.k (faddr .k (.b 4 rfl) rfl fMT) [0, 1, 2, 3, 4, 5] rfl rfl (Go.k (ldc .k (.b 0 rfl) (.b 5 rfl) tyvT) [1, 2, 3, 4, 5, 6] rfl rfl (Go.k (apn .k apT (.b 1 rfl) (.b 0 rfl) (tri_all _) (by decide) (by rw [List.length_map]; omega)) [2, 3, 4, 5, 6] rfl rfl (Go.frzo 0 [1, 2, 3, 4, 5] rfl rfl (Go.name 0 rfl fun A3 c3 => (Go.k (fadh .k (.b 5 rfl) fMT) [0, 1, 2, 3, 4, 5, 6, 7] rfl rfl (Go.k (sth1 .k (.b 0 rfl) (.b 4 rfl) (.b 1 rfl) szvT rfl (show 1 < 3 by decide) rfl rfl) [2, 5, 6, 7, 8] rfl rfl (Go.end_ (Nx.go (?_))))))))))))
 refine Tr.gos (Go.k (fadh .k (.b 3 rfl) fMS) [0, 1, 2, 3, 4, 5] rfl rfl (Go.k (ldn .k (.b 0 rfl) (.b 1 rfl) tyvS rfl) [1, 2, 3, 4, 5, 6] rfl rfl (Go.k (faddr .k (.b 5 rfl) rfl fMS) [0, 1, 2, 3, 4, 5, 6] rfl rfl (Go.k (ldc .k (.b 0 rfl) (.b 6 rfl) tyvS) [1, 2, 3, 4, 5, 7] rfl rfl (Go.k (apn .k apS (.b 1 rfl) (.b 0 rfl) (seg_all _) (by decide) (by rw [List.length_map]; omega)) [2, 3, 4, 5, 6] rfl rfl (Go.frzo 0 [1, 2, 3, 4, 5] rfl rfl (Go.name 0 rfl fun A4 c4 => (Go.k (fadh .k (.b 6 rfl) fMS) [0, 1, 2, 3, 4, 5, 6, 7] rfl rfl (Go.k (sth1 .k (.b 0 rfl) (.b 4 rfl) (.b 1 rfl) szvS rfl (show 2 < 3 by decide) rfl rfl) [2, 5, 6, 7, 8] rfl rfl (Go.end_ (Nx.go (?_))))))))))))
 refine Tr.gos (Go.k (ldna .k (.b 4 rfl) (.b 0 rfl) tyM [.slice A2 _ c2, .slice A3 _ c3, .slice A4 _ c4] rfl (fun j u h => by rw [Nat.zero_add]; exact h) rfl) [0, 1, 2, 3, 5] rfl rfl (Go.mesh 0 4 3 2 rfl rfl rfl rfl (Go.k (sto .k (.b 6 rfl) (.b 0 rfl) tyM) [2, 3, 4, 5] rfl rfl (Go.end_ (Nx.go (?_))))))
 refine Tr.ret (end_cell 0 rfl rfl tyM)
theorem fn_CopyO {P : List (Int × Int)} {T : List (Int × Int × Int)} {S : List (Int × Int)} (hP : P.length ≤ 1000000) (hT : T.length ≤ 1000000) (hS : S.length ≤ 1000000) (hne : P ≠ []) (ok : Nat → Prop) (vs : List Value) (W : World) (hA : Args ok W [SP.mesh P T S] vs) (hk : ∀ k, W.heap.size ≤ k → ok k) : Calls Try.prog 23 vs.toArray W (RetO 37 2 (P.map pc).length (P.map pc).flatten (tvec T) (svec S) W ok) := by
 refine FnG.of (R := RetO 37 2 (P.map pc).length (P.map pc).flatten (tvec T) (svec S)) (N := 24) Try.func23 rfl rfl (Nat.le_of_ble_eq_true rfl) (fun w0 ok0 => ?_) ok vs W hA hk
 refine Tr.rs [] (.k (bxx .k (.b 0 rfl)) (.k (alc .k zM) .n)) [] [0, 1] rfl rfl ?_
 refine Tr.rs [] (.k (bld .k .n bM0 rfl) (.k (ala .k zM) (.k (sta .k (.g 1 rfl) (.g 0 rfl) tyM) .n))) [0, 1] [2] rfl rfl ?_
 refine Tr.boxh [.slice none 0 0, .slice none 0 0, .slice none 0 0] 1 2 [0, 1] rfl rfl rfl (fun g1 => ?_)
 refine Tr.gos (Go.k (fadh .k (.b 0 rfl) fMP) [0, 1, 2, 3] rfl rfl (Go.k (ldn .k (.b 0 rfl) (.b 2 rfl) tyvP rfl) [1, 2, 3, 4] rfl rfl (Go.k (faddr .k (.b 3 rfl) rfl fMP) [0, 1, 2, 3, 4] rfl rfl (Go.k (ldc .k (.b 0 rfl) (.b 4 rfl) tyvP) [1, 2, 3, 4, 5] rfl rfl (Go.k (apn .k apP (.b 1 rfl) (.b 0 rfl) (pt_all _) (by decide) (by rw [List.length_map]; omega)) [2, 3, 4, 5] rfl rfl (Go.ownh 2 0 [1, 2, 3, 4] rfl (by simpa using hne) rfl fun g2 cap2 => (Go.k (fadh .k (.b 2 rfl) fMP) [0, 1, 2, 3, 4, 5] rfl rfl (Go.k (sth1 .k (.b 0 rfl) (.b 4 rfl) (.b 1 rfl) szvP rfl (show 0 < 3 by decide) rfl rfl) [2, 3, 5, 6] rfl rfl (Go.end_ (Nx.go (?_)))))))))))
 refine Tr.gos (Go.k (fadh .k (.b 2 rfl) fMT) [0, 1, 2, 3, 4] rfl rfl (Go.k (ldn .k (.b 0 rfl) (.b 1 rfl) tyvT rfl) [1, 2, 3, 4, 5] rfl rfl (Go.k (faddr .k (.b 4 rfl) rfl fMT) [0, 1, 2, 3, 4, 5] rfl rfl (Go.k (ldc .k (.b 0 rfl) (.b 5 rfl) tyvT) [1, 2, 3, 4, 5, 6] rfl rfl (Go.k (apn .k apT (.b 1 rfl) (.b 0 rfl) (tri_all _) (by decide) (by rw [List.length_map]; omega)) [2, 3, 4, 5, 6] rfl rfl (Go.frzo 0 [1, 2, 3, 4, 5] rfl rfl (Go.name 0 rfl fun A3 c3 => (Go.k (fadh .k (.b 5 rfl) fMT) [0, 1, 2, 3, 4, 5, 6, 7] rfl rfl (Go.k (sth1 .k (.b 0 rfl) (.b 4 rfl) (.b 1 rfl) szvT rfl (show 1 < 3 by decide) rfl rfl) [2, 5, 6, 7, 8] rfl rfl (Go.end_ (Nx.go (?_))))))))))))
 refine Tr.gos (Go.k (fadh .k (.b 3 rfl) fMS) [0, 1, 2, 3, 4, 5] rfl rfl (Go.k (ldn .k (.b 0 rfl) (.b 1 rfl) tyvS rfl) [1, 2, 3, 4, 5, 6] rfl rfl (Go.k (faddr .k (.b 5 rfl) rfl fMS) [0, 1, 2, 3, 4, 5, 6] rfl rfl (Go.k (ldc .k (.b 0 rfl) (.b 6 rfl) tyvS) [1, 2, 3, 4, 5, 7] rfl rfl (Go.k (apn .k apS (.b 1 rfl) (.b 0 rfl) (seg_all _) (by decide) (by rw [List.length_map]; omega)) [2, 3, 4, 5, 6] rfl rfl (Go.frzo 0 [1, 2, 3, 4, 5] rfl rfl (Go.name 0 rfl fun A4 c4 => (Go.k (fadh .k (.b 6 rfl) fMS) [0, 1, 2, 3, 4, 5, 6, 7] rfl rfl (Go.k (sth1 .k (.b 0 rfl) (.b 4 rfl) (.b 1 rfl) szvS rfl (show 2 < 3 by decide) rfl rfl) [2, 5, 6, 7, 8] rfl rfl (Go.end_ (Nx.go (?_))))))))))))
 refine Tr.gos (Go.k (ldna .k (.b 4 rfl) (.b 0 rfl) tyM [.slice (some ⟨g2, 0, none⟩) _ cap2, .slice A3 _ c3, .slice A4 _ c4] rfl (fun j u h => by rw [Nat.zero_add]; exact h) rfl) [0, 1, 2, 3, 5] rfl rfl (Go.k (sto .k (.b 5 rfl) (.b 0 rfl) tyM) [1, 2, 3, 4] rfl rfl (Go.end_ (Nx.go (?_)))))
 refine Tr.ret (end_meshO 0 4 3 2 rfl rfl tyM rfl rfl rfl)
def twP (p : Int × Int) : Int × Int := (IntKind.i64.wrap (-2 * p.2), IntKind.i64.wrap (2 * p.1))
def flatP (l : List (Int × Int)) : List Value := (l.map pc).flatten
theorem flatP_len : ∀ l : List (Int × Int), (flatP l).length = l.length * 2
  | [] => rfl
  | p :: l => by
    have := flatP_len l
    unfold flatP at *
    simp only [List.map_cons, List.flatten_cons, List.length_append, List.length_cons, this]
    show 2 + l.length * 2 = _
    omega
theorem flatP_set : ∀ {l : List (Int × Int)} {k : Nat} {p : Int × Int}, k < l.length → (flatP l).take (k * 2) ++ (ptv p.1 p.2).cells.toList ++ (flatP l).drop (k * 2 + 2) = flatP (l.set k p)
  | [], k, p, h => by simp at h
  | x :: l, 0, p, h => rfl
  | x :: l, k + 1, p, h => by
    have ih := flatP_set (l := l) (k := k) (p := p) (by simpa using h)
    have e : flatP (x :: l) = .int .i64 x.1 :: .int .i64 x.2 :: flatP l := rfl
    rw [e, show (k + 1) * 2 = k * 2 + 1 + 1 by omega, show k * 2 + 1 + 1 + 2 = (k * 2 + 2) + 1 + 1 by omega, List.take_succ_cons, List.take_succ_cons, List.drop_succ_cons, List.drop_succ_cons, List.cons_append, List.cons_append, List.cons_append, List.cons_append, ih]
    rfl
theorem mix_len (P : List (Int × Int)) (k : Nat) (hk : k ≤ P.length) : ((P.map twP).take k ++ P.drop k).length = P.length := by
  rw [List.length_append, List.length_take, List.length_map, List.length_drop]
  omega
theorem mix_set {P : List (Int × Int)} {k : Nat} {p : Int × Int} (h : P[k]? = some p) : ((P.map twP).take k ++ P.drop k).set k (twP p) = (P.map twP).take (k + 1) ++ P.drop (k + 1) := by
  have hk := (List.getElem?_eq_some_iff.1 h).1
  have hl : ((P.map twP).take k).length = k := by rw [List.length_take, List.length_map]; omega
  rw [List.set_append, if_neg (by rw [hl]; omega), hl, Nat.sub_self, List.drop_eq_getElem_cons hk, List.set_cons_zero]
  rw [take_succ' (show (P.map twP)[k]? = some (twP p) by rw [List.getElem?_map, h]; rfl), List.append_assoc]
  rfl
theorem pc_two (l : List (Int × Int)) : ∀ r ∈ l.map pc, r.length = 2 := by
  intro r hr
  obtain ⟨z, _, rfl⟩ := List.mem_map.1 hr
  rfl
theorem fn_changedN {P : List (Int × Int)} {T : List (Int × Int × Int)} {S : List (Int × Int)} (hne : P ≠ []) (hP : P.length ≤ 1000000) (hT : T.length ≤ 1000000) (hS : S.length ≤ 1000000) : FnC Try.prog 8 [SP.mesh P T S] (SP.mesh (P.map twP) T S) := by
 refine FnC.of (N := 34) Try.func8 rfl rfl (Nat.le_of_ble_eq_true rfl) (fun w0 ok0 => ?_)
 refine Tr.rs [] (.k (bxx .k (.b 0 rfl)) (.k (alc .k zM) .n)) [] [0, 1] rfl rfl ?_
 refine Tr.gos (Go.k (ld .k (.b 0 rfl) tyM) [0, 1] rfl rfl (Go.newc 1 .k Try.func23 rfl (fn_CopyO hP hT hS hne) (.k (.b 0 rfl) .n) [1, 2] rfl rfl fun x1 => (Go.k (alc .k zM) [0, 1, 2, 3] rfl rfl (Go.k (sto .k (.b 0 rfl) (.b 1 rfl) tyM) [2, 3, 4] rfl rfl (Go.end_ (Nx.go (?_)))))))
 refine Tr.seq (Tr.rs [] (.k (asg .k .c) .n) [0, 1, 2, 3] [0] rfl rfl ?_)
 refine Tr.block (?_)
 refine Tr.loop (fun n_ F_ => ∃ k : Nat, ∃ L : List (Int × Int), (k ≤ P.length ∧ L = (P.map twP).take k ++ P.drop k) ∧ n_ = P.length - k ∧ F_ = [.b 1 (SP.mesh P T S) 26 3, .b 2 (.is (.agg #[.slice none 0 0, .slice none 0 0, .slice none 0 0])) 26 3, .b 3 (SP.meshO x1.1 x1.2 (P.map pc).length (tvec T) (svec S)) 26 3, .s 4 (iv ((k : Nat) : Int)), .h 1 x1.1 (HP.own 37 2 x1.2 (P.map pc).length (flatP L))]) (P.length - 0) (F0 := [.b 1 (SP.mesh P T S) 26 3, .b 2 (.is (.agg #[.slice none 0 0, .slice none 0 0, .slice none 0 0])) 26 3, .b 3 (SP.meshO x1.1 x1.2 (P.map pc).length (tvec T) (svec S)) 26 3, .s 4 (iv ((0 : Nat) : Int)), .h 1 x1.1 (HP.own 37 2 x1.2 (P.map pc).length (flatP P))]) ⟨0, P, ⟨Nat.zero_le _, rfl⟩, rfl, rfl⟩ (Sub.all (.cons 2 rfl (.cons 3 rfl (.cons 0 rfl (.cons 4 rfl (.cons 1 rfl .nil)))))) (fun n_ F_ hI => ?_)
 obtain ⟨k, L, hinv, rfl, rfl⟩ := hI
 refine Tr.seq (Tr.rs [] (.k (mv .k (.b 3 rfl)) (.k (faddr .k (.b 0 rfl) rfl fMP) (.k (ldc .k (.g 1 rfl) (.b 0 rfl) tyvP) (.k (len_ .k rwP (.g 2 rfl) (by rw [List.length_map])) (.k (lt_ .k (.g 0 rfl) (.g 3 rfl) rfl) .n))))) [0, 1, 2, 3, 4] [4] rfl rfl ?_)
 refine Tr.cond 5 rfl (fun e11 => ?_) (fun e11 => ?_)
 ·
  have hk2 : k < P.length := by have := of_decide_eq_true e11; omega
  refine Tr.skip (Nx.go (Tr.seq (Tr.block (?_))))
  obtain ⟨p, p1⟩ : ∃ p, P[k]? = some p := ⟨_, List.getElem?_eq_getElem hk2⟩
  have hLl : L.length = P.length := by rw [hinv.2]; exact mix_len P k hinv.1
  refine Tr.draw hmx [(4, 19)] (.k (faddr .k (.b 2 rfl) rfl fMP) (.k (ldc .k (.g 0 rfl) (.b 2 rfl) tyvP) (.k (mv .k (.b 3 rfl)) (.k (faddr .k (.b 0 rfl) rfl fMP) (.k (ldc .k (.g 3 rfl) (.b 0 rfl) tyvP) (.k (mv .k (.b 3 rfl)) (.k (idx_ .k rwP (.g 4 rfl) (.g 5 rfl) rfl (gm p1)) (.k (fat .k (.g 6 rfl) aPY rfl) (.k (ldc_at .k (.g 7 rfl) tyI) (.k (mul_ .k .c (.g 8 rfl) rfl) (.k (faddr .k (.b 0 rfl) rfl fMP) (.k (ldc .k (.g 10 rfl) (.b 0 rfl) tyvP) (.k (mv .k (.b 3 rfl)) (.k (idx_ .k rwP (.g 11 rfl) (.g 12 rfl) rfl (gm p1)) (.k (fat .k (.g 13 rfl) aPX rfl) (.k (ldc_at .k (.g 14 rfl) tyI) (.k (mul_ .k .c (.g 15 rfl) rfl) (.k (bld .k (.k (.g 9 rfl) (.k (.g 16 rfl) .n)) (bP _ _) (aP _ _)) (.k (idxn .k rwP (.g 1 rfl) (.g 2 rfl) rfl (by rw [List.length_map]; exact hk2) rfl) (.k (sth .k (.g 18 rfl) (.b 4 rfl) (.g 17 rfl) szP rfl (by rw [flatP_len]; omega) (by simp [ptv, Value.cells, Value.oneCell']) (flatP_set (p := twP p) (by omega))) .n)))))))))))))))))))) [0, 1, 2, 3] [19] rfl rfl (Nx.bkN (Nx.go (Tr.reg [(3, 2)] (.k (mv .k (.b 3 rfl)) (.k (add_ .k (.g 0 rfl) .c (wr1 (by omega))) (.k (asg .k (.g 1 rfl)) .n))) [0, 1, 2, 4] [2] rfl rfl (Nx.again (P.length - (k + 1)) (by omega) [.b 1 (SP.mesh P T S) 26 3, .b 2 (.is (.agg #[.slice none 0 0, .slice none 0 0, .slice none 0 0])) 26 3, .b 3 (SP.meshO x1.1 x1.2 (P.map pc).length (tvec T) (svec S)) 26 3, .s 4 (iv (((k + 1) : Nat) : Int)), .h 1 x1.1 (HP.own 37 2 x1.2 (P.map pc).length (flatP (L.set k (twP p))))] ⟨(k + 1), (L.set k (twP p)), ⟨by omega, by rw [hinv.2, mix_set p1]⟩, rfl, rfl⟩ (Sub.all (.cons 0 rfl (.cons 1 rfl (.cons 2 rfl (.cons 4 rfl (.cons 3 rfl .nil))))))))))
 ·
  obtain rfl : k = P.length := by have := of_decide_eq_false e11; have := hinv.1; omega
  refine Tr.exit (Nx.thX (Nx.thX (Nx.bkX (Nx.go (?_)))))
  obtain rfl : L = P.map twP := by rw [hinv.2, List.drop_length, List.append_nil, List.take_of_length_le (by rw [List.length_map]; exact Nat.le_refl _)]
  refine Tr.gos (Go.k (ld .k (.b 2 rfl) tyM) [1, 4] rfl rfl (Go.frzM ((P.map twP).map pc) 0 2 [1] rfl rfl rfl rfl (by simp) (pc_two _) (q := SP.mesh (P.map twP) T S) (fun ok W a b c h1 h2 => ⟨a, b, c, rfl, h1, h2.1, h2.2.1, trivial⟩) (Go.k (sto .k (.b 1 rfl) (.b 0 rfl) tyM) [] rfl rfl (Go.end_ (Nx.go (?_))))))
  refine Tr.ret (end_cell 0 rfl rfl tyM)
theorem fn_changed0 {T : List (Int × Int × Int)} {S : List (Int × Int)} (hT : T.length ≤ 1000000) (hS : S.length ≤ 1000000) : FnC Try.prog 8 [SP.mesh [] T S] (SP.mesh [] T S) := by
 refine FnC.of (N := 34) Try.func8 rfl rfl (Nat.le_of_ble_eq_true rfl) (fun w0 ok0 => ?_)
 refine Tr.rs [] (.k (bxx .k (.b 0 rfl)) (.k (alc .k zM) .n)) [] [0, 1] rfl rfl ?_
 refine Tr.rs [] (.k (ld .k (.b 0 rfl) tyM) (.k (cal .k Try.func23 rfl (fn_Copy (by simp) hT hS) (.k (.g 0 rfl) .n)) (.k (ala .k zM) (.k (sta .k (.g 2 rfl) (.g 1 rfl) tyM) .n)))) [0, 1] [3] rfl rfl ?_
 refine Tr.seq (Tr.rs [] (.k (asg .k .c) .n) [0, 1, 2] [0] rfl rfl ?_)
 refine Tr.block (?_)
 refine Tr.loop (fun n_ F_ => ∃ k : Nat, (k = 0) ∧ n_ = 1 * k ∧ F_ = [.b 1 (SP.mesh [] T S) 26 3, .b 2 (.is (.agg #[.slice none 0 0, .slice none 0 0, .slice none 0 0])) 26 3, .b 3 (SP.mesh [] T S) 26 3, .s 4 (iv ((k : Nat) : Int))]) (1 * 0) (F0 := [.b 1 (SP.mesh [] T S) 26 3, .b 2 (.is (.agg #[.slice none 0 0, .slice none 0 0, .slice none 0 0])) 26 3, .b 3 (SP.mesh [] T S) 26 3, .s 4 (iv ((0 : Nat) : Int))]) ⟨0, rfl, rfl, rfl⟩ (Sub.all (.cons 0 rfl (.cons 1 rfl (.cons 2 rfl (.cons 3 rfl .nil))))) (fun n_ F_ hI => ?_)
 obtain ⟨k, hk, rfl, rfl⟩ := hI
 refine Tr.seq (Tr.rs [] (.k (mv .k (.b 3 rfl)) (.k (faddr .k (.b 0 rfl) rfl fMP) (.k (ldc .k (.g 1 rfl) (.b 0 rfl) tyvP) (.k (len_ .k rwP (.g 2 rfl) rfl) (.k (lt_ .k (.g 0 rfl) (.g 3 rfl) (decide_eq_false (by subst hk; decide))) .n))))) [0, 1, 2, 3] [4] rfl rfl ?_)
 refine Tr.cond 4 rfl nofun (fun _ => ?_)
 refine Tr.exit (Nx.thX (Nx.thX (Nx.bkX (Nx.go (Tr.rs [(1, 1)] (.k (ld .k (.b 2 rfl) tyM) (.k (sto .k (.b 1 rfl) (.g 0 rfl) tyM) .n)) [] [1] rfl rfl ?_)))))
 refine Tr.ret (end_cell 0 rfl rfl tyM)
theorem fn_changed {P : List (Int × Int)} {T : List (Int × Int × Int)} {S : List (Int × Int)} (hP : P.length ≤ 1000000) (hT : T.length ≤ 1000000) (hS : S.length ≤ 1000000) : FnC Try.prog 8 [SP.mesh P T S] (SP.mesh (P.map twP) T S) := by
  by_cases h : P = []
  · subst h
    exact fn_changed0 hT hS
  · exact fn_changedN h hP hT hS
end Go.Proofs.Ytkgagdjogedoiaa

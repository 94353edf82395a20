/- Places that fit, and the areas of rings, walked. -/
import Derived.Test.YtcifcohkjifadaaAr0
import Derived.Test.YtcifcohkjifadaaRg4
set_option linter.unusedVariables false
set_option linter.unusedSimpArgs false
namespace Go.Proofs.Ytcifcohkjifadaa
open Go Go.RowKit Go.Proofs.Ytcifcohkjifadaa.Fx Go.Proofs.YtcifcohkjifadaaW.PrintWords
abbrev pc (p : Int × Int) : List Value := ptc p.1 p.2
def fit (x y : Int) : Prop := -4294967296 ≤ x ∧ x ≤ 4294967296 ∧ -4294967296 ≤ y ∧ y ≤ 4294967296
instance (x y : Int) : Decidable (fit x y) := by unfold fit; infer_instance
def fitP (p : Int × Int) : Bool := decide (fit p.1 p.2)
theorem fit.x {x y : Int} (h : fit x y) : Bd 33 x := by unfold fit at h; unfold Bd; omega
theorem fit.y {x y : Int} (h : fit x y) : Bd 33 y := by unfold fit at h; unfold Bd; omega
theorem all_not {ps : List (Int × Int)} {k : Nat} {x y : Int} (h : ps[k]? = some (x, y)) (hn : ¬ fit x y) : ps.all fitP = false := by
  rw [List.all_eq_false]
  exact ⟨(x, y), List.mem_of_getElem? h, by simp [fitP, hn]⟩
theorem all_so {ps : List (Int × Int)} (h : ∀ j, j < ps.length → ∀ x y, ps[j]? = some (x, y) → fit x y) : ps.all fitP = true := by
  rw [List.all_eq_true]
  rintro ⟨x, y⟩ hp
  obtain ⟨j, hj, e⟩ := List.getElem_of_mem hp
  simp [fitP]
  exact h j hj x y (by rw [List.getElem?_eq_getElem hj, e])
theorem len_map (ps : List (Int × Int)) : (((ps.map pc).length : Nat) : Int) = ((ps.length : Nat) : Int) := by simp
theorem aPc (x y : Int) : Value.agg (pc (x, y)).toArray = ptv x y := rfl
theorem wrap_succ {k n : Nat} (h : k < n) (hn : n ≤ 1000000) : IntKind.i64.wrap ((k : Int) + 1) = ((k + 1 : Nat) : Int) := by
  rw [IntWalk.i64_in _ (by omega)]; omega
set_option maxRecDepth 100000 in
set_option maxHeartbeats 8000000 in
theorem fn_Fits (ps : List (Int × Int)) (hl : ps.length ≤ 1000000) : FnC Try.prog 31 [.vec 2 (ps.map pc)] (bv (ps.all fitP)) := by
 refine FnC.of (N := 30) Try.func31 rfl rfl (Nat.le_of_ble_eq_true rfl) (fun w0 ok0 => ?_)
 refine Tr.rs [] (.k (asg .k .c) .n) [0] [] rfl rfl ?_
 refine Tr.seq (Tr.rs [] (.k (mv .k (.b 0 rfl)) (.k (len_ .k rwP (.g 0 rfl) (len_map ps)) (.k (mv .k .c) .n))) [] [0, 1, 2] rfl rfl ?_)
 refine Tr.block (?_)
 refine Tr.loop (fun n_ F_ => ∃ k : Nat, k ≤ ps.length ∧ n_ = ps.length - k ∧ F_ = [.s 5 (.vec 2 (ps.map pc)), .s 6 (iv (ps.length : Nat)), .s 7 (iv ((k : Nat) : Int))] ∧ (∀ j, j < k → ∀ x y, ps[j]? = some (x, y) → fit x y)) (ps.length) (F0 := [.s 5 (.vec 2 (ps.map pc)), .s 6 (iv (ps.length : Nat)), .s 7 (iv ((0 : Nat) : Int))]) ⟨0, Nat.zero_le _, rfl, rfl, fun j hj => absurd hj (Nat.not_lt_zero _)⟩ (Sub.all (.cons 0 rfl (.cons 1 rfl (.cons 2 rfl .nil)))) (fun n_ F_ hI => ?_)
 obtain ⟨k, hk, rfl, rfl, hkm⟩ := hI
 refine Tr.rs [] (.k (lt_ .k (.b 2 rfl) (.b 1 rfl) rfl) .n) [0, 1, 2] [0] rfl rfl ?_
 refine Tr.seq (Tr.cond 3 rfl (fun e8 => ?_) (fun e8 => ?_))
 ·
  have hlt : k < ps.length := by simpa using e8
  refine Tr.skip (Nx.go (Tr.seq (Tr.block (?_))))
  obtain ⟨x, y, hxy⟩ : ∃ x y, ps[k]? = some (x, y) := ⟨_, _, List.getElem?_eq_getElem hlt⟩
  refine Tr.rs [] (.k (idx_ .k rwP (.b 0 rfl) (.b 2 rfl) rfl (by rw [List.getElem?_map, hxy]; rfl)) (.k (ld_at .k (.g 0 rfl) tyP rfl (aPc _ _)) (.k (ala .k zP) (.k (sta .k (.g 2 rfl) (.g 1 rfl) tyP) .n)))) [0, 1, 2] [3] rfl rfl ?_
  rcases (show x < -4294967296 ∨ ¬ x < -4294967296 ∧ x > 4294967296 ∨ ¬ x < -4294967296 ∧ ¬ x > 4294967296 ∧ y < -4294967296 ∨ ¬ x < -4294967296 ∧ ¬ x > 4294967296 ∧ ¬ y < -4294967296 ∧ y > 4294967296 ∨ ¬ x < -4294967296 ∧ ¬ x > 4294967296 ∧ ¬ y < -4294967296 ∧ ¬ y > 4294967296 by omega) with c1 | ⟨c1, c2⟩ | ⟨c1, c2, c3⟩ | ⟨c1, c2, c3, c4⟩ | ⟨c1, c2, c3, c4⟩
  ·
   have hn : ¬ fit x y := by unfold fit; omega
   refine Tr.rs [] (.k (faddr .k (.b 3 rfl) rfl fPX) (.k (ldc .k (.g 0 rfl) (.b 3 rfl) tyI) (.k (lt_ .k (.g 1 rfl) .c (decide_eq_true c1)) (.k (mv .k (.g 2 rfl)) (.k (skp (.on (.g 3 rfl) rfl rfl)) (.k (skp (.on (.g 3 rfl) rfl rfl)) (.k (skp (.on (.g 3 rfl) rfl rfl)) (.k (pickT .k (.g 3 rfl) .c) (.k (mv .k (.g 7 rfl)) (.k (skp (.on (.g 8 rfl) rfl rfl)) (.k (skp (.on (.g 8 rfl) rfl rfl)) (.k (skp (.on (.g 8 rfl) rfl rfl)) (.k (pickT .k (.g 8 rfl) .c) (.k (mv .k (.g 12 rfl)) (.k (skp (.on (.g 13 rfl) rfl rfl)) (.k (skp (.on (.g 13 rfl) rfl rfl)) (.k (skp (.on (.g 13 rfl) rfl rfl)) (.k (pickT .k (.g 13 rfl) .c) .n)))))))))))))))))) [0, 1, 2] [17] rfl rfl ?_
   refine Tr.cond 3 rfl (fun _ => ?_) nofun
   rw [all_not hxy hn]
   refine Tr.rs [] (.k (asg .k .c) .n) [] [0] rfl rfl ?_
   refine Tr.ret (end_tmp 0 rfl rfl)
  ·
   have hn : ¬ fit x y := by unfold fit; omega
   refine Tr.rs [] (.k (faddr .k (.b 3 rfl) rfl fPX) (.k (ldc .k (.g 0 rfl) (.b 3 rfl) tyI) (.k (lt_ .k (.g 1 rfl) .c (decide_eq_false c1)) (.k (mv .k (.g 2 rfl)) (.k (faddr (.on (.g 3 rfl) rfl rfl) (.b 3 rfl) rfl fPX) (.k (ldc (.on (.g 3 rfl) rfl rfl) (.g 4 rfl) (.b 3 rfl) tyI) (.k (gt_ (.on (.g 3 rfl) rfl rfl) (.g 5 rfl) .c (decide_eq_true c2)) (.k (pickF .k (.g 3 rfl) (.g 6 rfl)) (.k (mv .k (.g 7 rfl)) (.k (skp (.on (.g 8 rfl) rfl rfl)) (.k (skp (.on (.g 8 rfl) rfl rfl)) (.k (skp (.on (.g 8 rfl) rfl rfl)) (.k (pickT .k (.g 8 rfl) .c) (.k (mv .k (.g 12 rfl)) (.k (skp (.on (.g 13 rfl) rfl rfl)) (.k (skp (.on (.g 13 rfl) rfl rfl)) (.k (skp (.on (.g 13 rfl) rfl rfl)) (.k (pickT .k (.g 13 rfl) .c) .n)))))))))))))))))) [0, 1, 2] [17] rfl rfl ?_
   refine Tr.cond 3 rfl (fun _ => ?_) nofun
   rw [all_not hxy hn]
   refine Tr.rs [] (.k (asg .k .c) .n) [] [0] rfl rfl ?_
   refine Tr.ret (end_tmp 0 rfl rfl)
  ·
   have hn : ¬ fit x y := by unfold fit; omega
   refine Tr.rs [] (.k (faddr .k (.b 3 rfl) rfl fPX) (.k (ldc .k (.g 0 rfl) (.b 3 rfl) tyI) (.k (lt_ .k (.g 1 rfl) .c (decide_eq_false c1)) (.k (mv .k (.g 2 rfl)) (.k (faddr (.on (.g 3 rfl) rfl rfl) (.b 3 rfl) rfl fPX) (.k (ldc (.on (.g 3 rfl) rfl rfl) (.g 4 rfl) (.b 3 rfl) tyI) (.k (gt_ (.on (.g 3 rfl) rfl rfl) (.g 5 rfl) .c (decide_eq_false c2)) (.k (pickF .k (.g 3 rfl) (.g 6 rfl)) (.k (mv .k (.g 7 rfl)) (.k (faddr (.on (.g 8 rfl) rfl rfl) (.b 3 rfl) rfl fPY) (.k (ldc (.on (.g 8 rfl) rfl rfl) (.g 9 rfl) (.b 3 rfl) tyI) (.k (lt_ (.on (.g 8 rfl) rfl rfl) (.g 10 rfl) .c (decide_eq_true c3)) (.k (pickF .k (.g 8 rfl) (.g 11 rfl)) (.k (mv .k (.g 12 rfl)) (.k (skp (.on (.g 13 rfl) rfl rfl)) (.k (skp (.on (.g 13 rfl) rfl rfl)) (.k (skp (.on (.g 13 rfl) rfl rfl)) (.k (pickT .k (.g 13 rfl) .c) .n)))))))))))))))))) [0, 1, 2] [17] rfl rfl ?_
   refine Tr.cond 3 rfl (fun _ => ?_) nofun
   rw [all_not hxy hn]
   refine Tr.rs [] (.k (asg .k .c) .n) [] [0] rfl rfl ?_
   refine Tr.ret (end_tmp 0 rfl rfl)
  ·
   have hn : ¬ fit x y := by unfold fit; omega
   refine Tr.rs [] (.k (faddr .k (.b 3 rfl) rfl fPX) (.k (ldc .k (.g 0 rfl) (.b 3 rfl) tyI) (.k (lt_ .k (.g 1 rfl) .c (decide_eq_false c1)) (.k (mv .k (.g 2 rfl)) (.k (faddr (.on (.g 3 rfl) rfl rfl) (.b 3 rfl) rfl fPX) (.k (ldc (.on (.g 3 rfl) rfl rfl) (.g 4 rfl) (.b 3 rfl) tyI) (.k (gt_ (.on (.g 3 rfl) rfl rfl) (.g 5 rfl) .c (decide_eq_false c2)) (.k (pickF .k (.g 3 rfl) (.g 6 rfl)) (.k (mv .k (.g 7 rfl)) (.k (faddr (.on (.g 8 rfl) rfl rfl) (.b 3 rfl) rfl fPY) (.k (ldc (.on (.g 8 rfl) rfl rfl) (.g 9 rfl) (.b 3 rfl) tyI) (.k (lt_ (.on (.g 8 rfl) rfl rfl) (.g 10 rfl) .c (decide_eq_false c3)) (.k (pickF .k (.g 8 rfl) (.g 11 rfl)) (.k (mv .k (.g 12 rfl)) (.k (faddr (.on (.g 13 rfl) rfl rfl) (.b 3 rfl) rfl fPY) (.k (ldc (.on (.g 13 rfl) rfl rfl) (.g 14 rfl) (.b 3 rfl) tyI) (.k (gt_ (.on (.g 13 rfl) rfl rfl) (.g 15 rfl) .c (decide_eq_true c4)) (.k (pickF .k (.g 13 rfl) (.g 16 rfl)) .n)))))))))))))))))) [0, 1, 2] [17] rfl rfl ?_
   refine Tr.cond 3 rfl (fun _ => ?_) nofun
   rw [all_not hxy hn]
   refine Tr.rs [] (.k (asg .k .c) .n) [] [0] rfl rfl ?_
   refine Tr.ret (end_tmp 0 rfl rfl)
  ·
   have hfit : fit x y := by unfold fit; omega
   refine Tr.rs [] (.k (faddr .k (.b 3 rfl) rfl fPX) (.k (ldc .k (.g 0 rfl) (.b 3 rfl) tyI) (.k (lt_ .k (.g 1 rfl) .c (decide_eq_false c1)) (.k (mv .k (.g 2 rfl)) (.k (faddr (.on (.g 3 rfl) rfl rfl) (.b 3 rfl) rfl fPX) (.k (ldc (.on (.g 3 rfl) rfl rfl) (.g 4 rfl) (.b 3 rfl) tyI) (.k (gt_ (.on (.g 3 rfl) rfl rfl) (.g 5 rfl) .c (decide_eq_false c2)) (.k (pickF .k (.g 3 rfl) (.g 6 rfl)) (.k (mv .k (.g 7 rfl)) (.k (faddr (.on (.g 8 rfl) rfl rfl) (.b 3 rfl) rfl fPY) (.k (ldc (.on (.g 8 rfl) rfl rfl) (.g 9 rfl) (.b 3 rfl) tyI) (.k (lt_ (.on (.g 8 rfl) rfl rfl) (.g 10 rfl) .c (decide_eq_false c3)) (.k (pickF .k (.g 8 rfl) (.g 11 rfl)) (.k (mv .k (.g 12 rfl)) (.k (faddr (.on (.g 13 rfl) rfl rfl) (.b 3 rfl) rfl fPY) (.k (ldc (.on (.g 13 rfl) rfl rfl) (.g 14 rfl) (.b 3 rfl) tyI) (.k (gt_ (.on (.g 13 rfl) rfl rfl) (.g 15 rfl) .c (decide_eq_false c4)) (.k (pickF .k (.g 13 rfl) (.g 16 rfl)) .n)))))))))))))))))) [0, 1, 2] [17] rfl rfl ?_
   refine Tr.cond 3 rfl nofun (fun _ => ?_)
   refine Tr.skip (Nx.bkN (Nx.go (Tr.reg [(2, 1)] (.k (add_ .k (.b 2 rfl) .c (wrap_succ hlt hl)) (.k (mv .k (.g 0 rfl)) .n)) [0, 1] [1] rfl rfl (Nx.again (ps.length - (k + 1)) (by omega) [.s 5 (.vec 2 (ps.map pc)), .s 6 (iv (ps.length : Nat)), .s 7 (iv (((k + 1) : Nat) : Int))] ⟨k + 1, by omega, rfl, rfl, fun j hj a b hab => by rcases Nat.lt_succ_iff_lt_or_eq.1 hj with h | rfl; (exact hkm j h a b hab); (rw [hab] at hxy; cases hxy; exact hfit)⟩ (Sub.all (.cons 0 rfl (.cons 1 rfl (.cons 2 rfl .nil))))))))
 ·
  have hge : ps.length ≤ k := by simpa using e8
  refine Tr.exit (Nx.thX (Nx.thX (Nx.bkX (Nx.go (?_)))))
  rw [all_so (ps := ps) (fun j hj => hkm j (by omega))]
  refine Tr.rs [] (.k (asg .k .c) .n) [] [0] rfl rfl ?_
  refine Tr.ret (end_tmp 0 rfl rfl)
theorem apP : AppTy Try.prog 40 66 2 16 := apTy Try.underlying40 (by decide) (by kernel_rfl)
theorem bW0 : Try.prog.built 44 [] = some (wv 0).cells := by kernel_rfl
theorem aW (z : Int) : Value.agg (wv z).cells = wv z := rfl
/-- A ring's places; one that may not be; twice the area. -/
def ringPts (p : List (Int × Int)) (ring : List Int) : List (Int × Int) := ring.map fun i => p.getD i.toNat (0, 0)
def badPt (p : List (Int × Int)) (i : Int) : Bool := decide (i < 0) || decide (i ≥ p.length) || !fitP (p.getD i.toNat (0, 0))
def shoeTo (q : List (Int × Int)) : Nat → Int
  | 0 => 0
  | k + 1 => shoeTo q k + (q.getD k (0, 0)).1 * (q.getD ((k + 1) % q.length) (0, 0)).2 + -((q.getD k (0, 0)).2 * (q.getD ((k + 1) % q.length) (0, 0)).1)
def areaR (p : List (Int × Int)) (ring : List Int) : Int × Int := if ring.any (badPt p) then (0, 2) else (shoeTo (ringPts p ring) ring.length, 0)
theorem ringPts_len (p : List (Int × Int)) (ring : List Int) : (ringPts p ring).length = ring.length := by simp [ringPts]
theorem ringPts_succ {p : List (Int × Int)} {ring : List Int} {k : Nat} {i : Int} (h : ring[k]? = some i) : ringPts p (ring.take k) ++ [p.getD i.toNat (0, 0)] = ringPts p (ring.take (k + 1)) := by
  unfold ringPts
  rw [take_succ' h]
  simp
theorem areaR_bad {p : List (Int × Int)} {ring : List Int} {k : Nat} {i : Int} (h : ring[k]? = some i) (hb : badPt p i = true) : areaR p ring = (0, 2) := by
  unfold areaR
  rw [if_pos (List.any_eq_true.2 ⟨i, List.mem_of_getElem? h, hb⟩)]
theorem areaR_ok {p : List (Int × Int)} {ring : List Int} (h : ring.any (badPt p) = false) : areaR p ring = (shoeTo (ringPts p ring) ring.length, 0) := by
  unfold areaR
  rw [h]
  rfl
theorem badPt_succ {p : List (Int × Int)} {ring : List Int} {k : Nat} {i : Int} (h0 : (ring.take k).any (badPt p) = false) (h : ring[k]? = some i) (hb : badPt p i = false) : (ring.take (k + 1)).any (badPt p) = false := by
  rw [take_succ' h, List.any_append, h0]
  simp [hb]
theorem pt_ways (p : List (Int × Int)) (i : Int) : i < 0 ∨ (¬ i < 0 ∧ i ≥ p.length) ∨ ∃ c : Nat, i = c ∧ c < p.length ∧ (¬ fit (p.getD c (0, 0)).1 (p.getD c (0, 0)).2 ∨ fit (p.getD c (0, 0)).1 (p.getD c (0, 0)).2) := by
  by_cases h : i < 0
  · exact .inl h
  by_cases h2 : i ≥ p.length
  · exact .inr (.inl ⟨h, h2⟩)
  · exact .inr (.inr ⟨i.toNat, by omega, by omega, (Classical.em _).symm⟩)
theorem fits_all {p : List (Int × Int)} {ring : List Int} (h : ring.any (badPt p) = false) {k : Nat} (hk : k < ring.length) : fit ((ringPts p ring).getD k (0, 0)).1 ((ringPts p ring).getD k (0, 0)).2 := by
  have h1 := List.any_eq_false.1 h ring[k] (List.getElem_mem hk)
  unfold badPt at h1
  simp only [Bool.or_eq_true, not_or, Bool.not_eq_true', Bool.not_eq_false] at h1
  have h2 : (ringPts p ring).getD k (0, 0) = p.getD (ring[k]).toNat (0, 0) := by
    unfold ringPts
    rw [List.getD_eq_getElem?_getD, List.getElem?_map, List.getElem?_eq_getElem hk]
    rfl
  rw [h2]
  have h3 := h1.2
  unfold fitP at h3
  simpa using h3
theorem badPt_f {p : List (Int × Int)} {c : Nat} (hf : ¬ fit (p.getD c (0, 0)).1 (p.getD c (0, 0)).2) : badPt p c = true := by
  unfold badPt fitP
  rw [Int.toNat_natCast, decide_eq_false hf]
  simp
theorem badPt_t {p : List (Int × Int)} {c : Nat} (hc : c < p.length) (hf : fit (p.getD c (0, 0)).1 (p.getD c (0, 0)).2) : badPt p c = false := by
  unfold badPt fitP
  rw [Int.toNat_natCast, decide_eq_true hf, decide_eq_false (by omega), decide_eq_false (by omega)]
  rfl
theorem fits1 {x y : Int} (h : fit x y) : [(x, y)].all fitP = true := by
  show (decide (fit x y) && true) = true
  rw [decide_eq_true h]
  rfl
theorem fits0 {x y : Int} (h : ¬ fit x y) : [(x, y)].all fitP = false := by
  show (decide (fit x y) && true) = false
  rw [decide_eq_false h]
  rfl
theorem shoe_bd {q : List (Int × Int)} (h : ∀ k, k < q.length → fit (q.getD k (0, 0)).1 (q.getD k (0, 0)).2) : ∀ k, k ≤ q.length → (shoeTo q k).natAbs ≤ k * 147573952589676412928
  | 0, _ => by simp [shoeTo]
  | k + 1, hk => by
    have ih := shoe_bd h k (by omega)
    have h1 := h k (by omega)
    have h2 := h ((k + 1) % q.length) (Nat.mod_lt _ (by omega))
    have a1 := Bd.mul h1.x h2.y
    have a2 := Bd.mul h1.y h2.x
    unfold Bd at a1 a2
    unfold shoeTo
    generalize (q.getD k (0, 0)).1 * (q.getD ((k + 1) % q.length) (0, 0)).2 = u at a1
    generalize (q.getD k (0, 0)).2 * (q.getD ((k + 1) % q.length) (0, 0)).1 = v at a2
    omega
theorem shoe_Bd {q : List (Int × Int)} (h : ∀ k, k < q.length → fit (q.getD k (0, 0)).1 (q.getD k (0, 0)).2) (hl : q.length ≤ 1000) {k : Nat} (hk : k ≤ q.length) : Bd 200 (shoeTo q k) := by
  have := shoe_bd h k hk
  have h2 : k * 147573952589676412928 ≤ 1000 * 147573952589676412928 := Nat.mul_le_mul_right _ (by omega)
  unfold Bd
  omega
set_option maxRecDepth 100000 in
set_option maxHeartbeats 8000000 in
theorem fn_Area (p : List (Int × Int)) (ring : List Int) (hp : p.length ≤ 1000000) (hr : ring.length ≤ 1000) : FnC Try.prog 17 [.vec 2 (p.map pc), ivec ring] (.tup [.is (wv (areaR p ring).1), iv (areaR p ring).2]) := by
 refine FnC.of (N := 103) Try.func17 rfl rfl (Nat.le_of_ble_eq_true rfl) (fun w0 ok0 => ?_)
 refine Tr.rs [] (.k (alc .k zW) (.k (asg .k .c) .n)) [0, 1] [0] rfl rfl ?_
 refine Tr.seq (Tr.rs [] (.k (mv .k (.b 1 rfl)) (.k (len_ .k rwI (.g 0 rfl) (by rw [List.length_map])) (.k (gt_ .k (.g 1 rfl) .c (decide_eq_false (by omega))) .n))) [0, 1, 2] [2] rfl rfl ?_)
 refine Tr.cond 3 rfl nofun (fun _ => ?_)
 refine Tr.skip (Nx.go (Tr.rs [] (.k (oini (sz := 2) (E := 66) .k (.inl rfl)) .n) [0, 1, 2] [0] rfl rfl ?_))
 refine Tr.seq (Tr.rs [] (.k (mv .k (.b 1 rfl)) (.k (len_ .k rwI (.g 0 rfl) (by rw [List.length_map])) (.k (mv .k .c) .n))) [0, 2, 3] [0, 1, 2] rfl rfl ?_)
 refine Tr.block (?_)
 refine Tr.loop (fun n_ F_ => ∃ k : Nat, (k ≤ ring.length ∧ (ring.take k).any (badPt p) = false) ∧ n_ = ring.length - k ∧ F_ = [.s 0 (.vec 2 (p.map pc)), .b 4 (.is (wv 0)) 44 5, .o 6 2 66 ((ringPts p (ring.take k)).map pc), .s 21 (ivec ring), .s 22 (iv ((ring.length : Nat) : Int)), .s 23 (iv ((k : Nat) : Int))]) (ring.length - 0) (F0 := [.s 0 (.vec 2 (p.map pc)), .b 4 (.is (wv 0)) 44 5, .o 6 2 66 ((ringPts p (ring.take 0)).map pc), .s 21 (ivec ring), .s 22 (iv ((ring.length : Nat) : Int)), .s 23 (iv ((0 : Nat) : Int))]) ⟨0, ⟨Nat.zero_le _, rfl⟩, rfl, rfl⟩ (Sub.all (.cons 0 rfl (.cons 1 rfl (.cons 2 rfl (.cons 3 rfl (.cons 4 rfl (.cons 5 rfl .nil))))))) (fun n_ F_ hI => ?_)
 obtain ⟨k, hinv, rfl, rfl⟩ := hI
 refine Tr.rs [] (.k (lt_ .k (.b 5 rfl) (.b 4 rfl) rfl) .n) [0, 1, 2, 3, 4, 5] [0] rfl rfl ?_
 refine Tr.seq (Tr.cond 6 rfl (fun e24 => ?_) (fun e24 => ?_))
 ·
  have hk2 : k < ring.length := by have := of_decide_eq_true e24; omega
  refine Tr.skip (Nx.go (Tr.seq (Tr.block (?_))))
  obtain ⟨z, p1⟩ : ∃ z, ring[k]? = some z := ⟨_, List.getElem?_eq_getElem hk2⟩
  refine Tr.rs [] (.k (idx_ .k rwI (.b 3 rfl) (.b 5 rfl) rfl (by rw [List.getElem?_map, p1]; rfl)) (.k (ldc_at .k (.g 0 rfl) tyI) (.k (asg .k (.g 1 rfl)) .n))) [0, 1, 2, 3, 4, 5] [2] rfl rfl ?_
  rcases pt_ways p z with h | h | ⟨c, rfl, hc, hf | hf⟩
  ·
   rw [areaR_bad p1 (by simp [badPt]; omega)]
   refine Tr.seq (Tr.rs [] (.k (mv .k (.b 6 rfl)) (.k (lt_ .k (.g 0 rfl) .c (decide_eq_true h)) (.k (mv .k (.g 1 rfl)) (.k (skp (.on (.g 2 rfl) rfl rfl)) (.k (skp (.on (.g 2 rfl) rfl rfl)) (.k (skp (.on (.g 2 rfl) rfl rfl)) (.k (skp (.on (.g 2 rfl) rfl rfl)) (.k (pickT .k (.g 2 rfl) .c) (.k (mv .k (.g 7 rfl)) (.k (skp (.on (.g 8 rfl) rfl rfl)) (.k (skp (.on (.g 8 rfl) rfl rfl)) (.k (skp (.on (.g 8 rfl) rfl rfl)) (.k (skp (.on (.g 8 rfl) rfl rfl)) (.k (skp (.on (.g 8 rfl) rfl rfl)) (.k (skp (.on (.g 8 rfl) rfl rfl)) (.k (skp (.on (.g 8 rfl) rfl rfl)) (.k (pickT .k (.g 8 rfl) .c) .n))))))))))))))))) [0, 1, 2, 3, 4, 5, 6] [16] rfl rfl ?_)
   refine Tr.cond 7 rfl (fun _ => ?_) nofun
   refine Tr.rs [(1, 1)] (.k (bld .k .n bW0 (aW 0)) (.k (sto .k (.b 1 rfl) (.g 0 rfl) tyW) (.k (asg .k .c) .n))) [] [1, 2] rfl rfl ?_
   refine Tr.ret (end_cell_tmp 0 1 rfl rfl rfl tyW)
  ·
   obtain ⟨h0, h⟩ := h
   rw [areaR_bad p1 (by simp [badPt]; omega)]
   refine Tr.seq (Tr.rs [] (.k (mv .k (.b 6 rfl)) (.k (lt_ .k (.g 0 rfl) .c (decide_eq_false h0)) (.k (mv .k (.g 1 rfl)) (.k (mv (.on (.g 2 rfl) rfl rfl) (.b 6 rfl)) (.k (mv (.on (.g 2 rfl) rfl rfl) (.b 0 rfl)) (.k (len_ (.on (.g 2 rfl) rfl rfl) rwP (.g 4 rfl) (by rw [List.length_map])) (.k (ge_ (.on (.g 2 rfl) rfl rfl) (.g 3 rfl) (.g 5 rfl) (decide_eq_true h)) (.k (pickF .k (.g 2 rfl) (.g 6 rfl)) (.k (mv .k (.g 7 rfl)) (.k (skp (.on (.g 8 rfl) rfl rfl)) (.k (skp (.on (.g 8 rfl) rfl rfl)) (.k (skp (.on (.g 8 rfl) rfl rfl)) (.k (skp (.on (.g 8 rfl) rfl rfl)) (.k (skp (.on (.g 8 rfl) rfl rfl)) (.k (skp (.on (.g 8 rfl) rfl rfl)) (.k (skp (.on (.g 8 rfl) rfl rfl)) (.k (pickT .k (.g 8 rfl) .c) .n))))))))))))))))) [0, 1, 2, 3, 4, 5, 6] [16] rfl rfl ?_)
   refine Tr.cond 7 rfl (fun _ => ?_) nofun
   refine Tr.rs [(1, 1)] (.k (bld .k .n bW0 (aW 0)) (.k (sto .k (.b 1 rfl) (.g 0 rfl) tyW) (.k (asg .k .c) .n))) [] [1, 2] rfl rfl ?_
   refine Tr.ret (end_cell_tmp 0 1 rfl rfl rfl tyW)
  ·
   rw [areaR_bad p1 (badPt_f hf)]
   refine Tr.seq (Tr.rs [] (.k (mv .k (.b 6 rfl)) (.k (lt_ .k (.g 0 rfl) .c (decide_eq_false (by omega))) (.k (mv .k (.g 1 rfl)) (.k (mv (.on (.g 2 rfl) rfl rfl) (.b 6 rfl)) (.k (mv (.on (.g 2 rfl) rfl rfl) (.b 0 rfl)) (.k (len_ (.on (.g 2 rfl) rfl rfl) rwP (.g 4 rfl) (by rw [List.length_map])) (.k (ge_ (.on (.g 2 rfl) rfl rfl) (.g 3 rfl) (.g 5 rfl) (decide_eq_false (by omega))) (.k (pickF .k (.g 2 rfl) (.g 6 rfl)) (.k (mv .k (.g 7 rfl)) (.k (mv (.on (.g 8 rfl) rfl rfl) (.b 0 rfl)) (.k (mv (.on (.g 8 rfl) rfl rfl) (.b 6 rfl)) (.k (idx_ (.on (.g 8 rfl) rfl rfl) rwP (.g 9 rfl) (.g 10 rfl) rfl (by rw [List.getElem?_map, getD_of (d := (0, 0)) hc]; rfl)) (.k (ld_at (.on (.g 8 rfl) rfl rfl) (.g 11 rfl) tyP rfl (aPc _ _)) (.k (mkrow (.on (.g 8 rfl) rfl rfl) rwP (.k (.g 12 rfl) .n) rfl rfl (by kernel_rfl)) (.k (cal (.on (.g 8 rfl) rfl rfl) Try.func31 rfl (fits0 hf ▸ fn_Fits [((p.getD c (0, 0)).1, (p.getD c (0, 0)).2)] (by simp)) (.k (.g 13 rfl) .n)) (.k (not_ (.on (.g 8 rfl) rfl rfl) (.g 14 rfl)) (.k (pickF .k (.g 8 rfl) (.g 15 rfl)) .n))))))))))))))))) [0, 1, 2, 3, 4, 5, 6] [16] rfl rfl ?_)
   refine Tr.cond 7 rfl (fun _ => ?_) nofun
   refine Tr.rs [(1, 1)] (.k (bld .k .n bW0 (aW 0)) (.k (sto .k (.b 1 rfl) (.g 0 rfl) tyW) (.k (asg .k .c) .n))) [] [1, 2] rfl rfl ?_
   refine Tr.ret (end_cell_tmp 0 1 rfl rfl rfl tyW)
  ·
   have hbf := badPt_t hc hf
   refine Tr.seq (Tr.rs [] (.k (mv .k (.b 6 rfl)) (.k (lt_ .k (.g 0 rfl) .c (decide_eq_false (by omega))) (.k (mv .k (.g 1 rfl)) (.k (mv (.on (.g 2 rfl) rfl rfl) (.b 6 rfl)) (.k (mv (.on (.g 2 rfl) rfl rfl) (.b 0 rfl)) (.k (len_ (.on (.g 2 rfl) rfl rfl) rwP (.g 4 rfl) (by rw [List.length_map])) (.k (ge_ (.on (.g 2 rfl) rfl rfl) (.g 3 rfl) (.g 5 rfl) (decide_eq_false (by omega))) (.k (pickF .k (.g 2 rfl) (.g 6 rfl)) (.k (mv .k (.g 7 rfl)) (.k (mv (.on (.g 8 rfl) rfl rfl) (.b 0 rfl)) (.k (mv (.on (.g 8 rfl) rfl rfl) (.b 6 rfl)) (.k (idx_ (.on (.g 8 rfl) rfl rfl) rwP (.g 9 rfl) (.g 10 rfl) rfl (by rw [List.getElem?_map, getD_of (d := (0, 0)) hc]; rfl)) (.k (ld_at (.on (.g 8 rfl) rfl rfl) (.g 11 rfl) tyP rfl (aPc _ _)) (.k (mkrow (.on (.g 8 rfl) rfl rfl) rwP (.k (.g 12 rfl) .n) rfl rfl (by kernel_rfl)) (.k (cal (.on (.g 8 rfl) rfl rfl) Try.func31 rfl (fits1 hf ▸ fn_Fits [((p.getD c (0, 0)).1, (p.getD c (0, 0)).2)] (by simp)) (.k (.g 13 rfl) .n)) (.k (not_ (.on (.g 8 rfl) rfl rfl) (.g 14 rfl)) (.k (pickF .k (.g 8 rfl) (.g 15 rfl)) .n))))))))))))))))) [0, 1, 2, 3, 4, 5, 6] [16] rfl rfl ?_)
   refine Tr.cond 7 rfl nofun (fun _ => ?_)
   refine Tr.skip (Nx.go (Tr.go (Go.k (omv .k (.inr rfl) (.b 2 rfl)) [0, 1, 3, 4, 5, 6] rfl rfl (Go.k (mv .k (.b 1 rfl)) [0, 1, 2, 3, 4, 5, 6] rfl rfl (Go.k (mv .k (.b 7 rfl)) [0, 1, 2, 3, 4, 5, 6] rfl rfl (Go.k (idx_ .k rwP (.b 1 rfl) (.b 0 rfl) rfl (by rw [List.getElem?_map, getD_of (d := (0, 0)) hc]; rfl)) [2, 3, 4, 5, 6, 7] rfl rfl (Go.k (ld_at .k (.b 0 rfl) tyP rfl (aPc _ _)) [1, 2, 3, 4, 5, 6] rfl rfl (Go.k (mkrow .k rwP (.k (.b 0 rfl) .n) rfl rfl (by kernel_rfl)) [1, 2, 3, 4, 5, 6] rfl rfl (Go.k (oapp_ .k apP (.b 1 rfl) (.b 0 rfl) (by decide) ⟨(by rw [← ringPts_succ p1, List.map_append]; rfl), ⟨rfl, rfl⟩, by rw [List.length_map, ringPts_len, List.length_take]; omega⟩) [2, 3, 4, 5, 6] rfl rfl (Go.k (omv .k (.inl rfl) (.b 0 rfl)) [1, 2, 3, 4, 5] rfl rfl (Go.end_ (Nx.bkN (Nx.go (Tr.reg [(5, 1)] (.k (add_ .k (.b 5 rfl) .c (show IntKind.i64.wrap ((k : Int) + 1) = ((k + 1 : Nat) : Int) by rw [IntWalk.i64_in _ (by omega)]; omega)) (.k (mv .k (.g 0 rfl)) .n)) [0, 1, 2, 3, 4] [1] rfl rfl (Nx.again (ring.length - (k + 1)) (by omega) [.s 0 (.vec 2 (p.map pc)), .b 4 (.is (wv 0)) 44 5, .o 6 2 66 ((ringPts p (ring.take (k + 1))).map pc), .s 21 (ivec ring), .s 22 (iv ((ring.length : Nat) : Int)), .s 23 (iv (((k + 1) : Nat) : Int))] ⟨(k + 1), ⟨by omega, badPt_succ hinv.2 p1 hbf⟩, rfl, rfl⟩ (Sub.all (.cons 1 rfl (.cons 2 rfl (.cons 0 rfl (.cons 3 rfl (.cons 4 rfl (.cons 5 rfl .nil))))))))))))))))))))))
 ·
  obtain rfl : k = ring.length := by have := of_decide_eq_false e24; omega
  refine Tr.exit (Nx.thX (Nx.thX (Nx.bkX (Nx.go (Tr.rs [] (.k (alc .k zW) .n) [1, 2] [0] rfl rfl ?_)))))
  have hok := hinv.2
  rw [List.take_length] at hok ⊢
  rw [areaR_ok hok]
  refine Tr.frzo 1 [0, 2] rfl rfl ?_
  have hq : (ringPts p ring).length ≤ 1000 := by rw [ringPts_len]; omega
  have hfit : ∀ k, k < (ringPts p ring).length → fit ((ringPts p ring).getD k (0, 0)).1 ((ringPts p ring).getD k (0, 0)).2 := fun k hk => fits_all hok (by rw [← ringPts_len p]; exact hk)
  rw [← ringPts_len p ring]
  generalize ringPts p ring = q at hq hfit ⊢
  refine Tr.seq (Tr.rs [] (.k (mv .k (.b 0 rfl)) (.k (len_ .k rwP (.g 0 rfl) (by rw [List.length_map])) (.k (mv .k .c) .n))) [0, 1, 2] [1, 2] rfl rfl ?_)
  refine Tr.block (?_)
  refine Tr.loop (fun n_ F_ => ∃ k : Nat, (k ≤ q.length) ∧ n_ = q.length - k ∧ F_ = [.b 4 (.is (wv 0)) 44 5, .s 6 (.vec 2 (q.map pc)), .s 54 (iv ((q.length : Nat) : Int)), .s 55 (iv ((k : Nat) : Int)), .b 9 (.is (wv (shoeTo q k))) 44 5]) (q.length - 0) (F0 := [.b 4 (.is (wv 0)) 44 5, .s 6 (.vec 2 (q.map pc)), .s 54 (iv ((q.length : Nat) : Int)), .s 55 (iv ((0 : Nat) : Int)), .b 9 (.is (wv (shoeTo q 0))) 44 5]) ⟨0, Nat.zero_le _, rfl, rfl⟩ (Sub.all (.cons 1 rfl (.cons 0 rfl (.cons 3 rfl (.cons 4 rfl (.cons 2 rfl .nil)))))) (fun n_ F_ hI => ?_)
  obtain ⟨k, hinv, rfl, rfl⟩ := hI
  have hsb := shoe_Bd hfit hq hinv
  refine Tr.rs [] (.k (lt_ .k (.b 3 rfl) (.b 2 rfl) rfl) .n) [0, 1, 2, 3, 4] [0] rfl rfl ?_
  refine Tr.seq (Tr.cond 5 rfl (fun e56 => ?_) (fun e56 => ?_))
  ·
   have hk2 : k < q.length := by have := of_decide_eq_true e56; omega
   refine Tr.skip (Nx.go (Tr.seq (Tr.block (Tr.rs [] (.k (mv .k (.b 3 rfl)) (.k (asg .k (.g 0 rfl)) .n)) [0, 1, 2, 3, 4] [1] rfl rfl ?_))))
   have f1 := hfit k hk2
   have f2 := hfit ((k + 1) % q.length) (Nat.mod_lt _ (by omega))
   refine Tr.ds hmx [] (.k (mv .k (.b 1 rfl)) (.k (mv .k (.b 5 rfl)) (.k (idx_ .k rwP (.g 0 rfl) (.g 1 rfl) rfl (by rw [List.getElem?_map, getD_of (d := (0, 0)) hk2]; rfl)) (.k (ld_at .k (.g 2 rfl) tyP rfl (aPc _ _)) (.k (mv .k (.b 1 rfl)) (.k (mv .k (.b 5 rfl)) (.k (add_ .k (.g 5 rfl) .c (show IntKind.i64.wrap ((k : Int) + 1) = ((k + 1 : Nat) : Int) by rw [IntWalk.i64_in _ (by omega)]; omega)) (.k (mv .k (.b 1 rfl)) (.k (len_ .k rwP (.g 7 rfl) (by rw [List.length_map])) (.k (rem_ .k (.g 6 rfl) (.g 8 rfl) (by omega) (tmod_nat _ _)) (.k (idx_ .k rwP (.g 4 rfl) (.g 9 rfl) rfl (by rw [List.getElem?_map, getD_of (d := (0, 0)) (Nat.mod_lt _ (by omega))]; rfl)) (.k (ld_at .k (.g 10 rfl) tyP rfl (aPc _ _)) (.k (ala .k zP) (.k (ala .k zP) (.k (sta .k (.g 12 rfl) (.g 3 rfl) tyP) (.k (sta .k (.g 13 rfl) (.g 11 rfl) tyP) .n)))))))))))))))) [0, 1, 2, 3, 4] [14, 15] rfl rfl ?_
   refine Tr.ds hmx [] (.k (faddr .k (.b 5 rfl) rfl fPX) (.k (ldc .k (.g 0 rfl) (.b 5 rfl) tyI) (.k (cal .k Try.func33 rfl (fn_Of (lN f1.x (by decide)).1 (lN f1.x (by decide)).2) (.k (.g 1 rfl) .n)) (.k (faddr .k (.b 6 rfl) rfl fPY) (.k (ldc .k (.g 3 rfl) (.b 6 rfl) tyI) (.k (cal .k Try.func33 rfl (fn_Of (lN f2.y (by decide)).1 (lN f2.y (by decide)).2) (.k (.g 4 rfl) .n)) (.k (mkrow .k rwW (.k (.g 2 rfl) (.k (.g 5 rfl) .n)) rfl rfl (by kernel_rfl)) (.k (cal .k Try.func32 rfl (fn_Mul2 (Bd.mono f1.x (by decide)) (Bd.mono f2.y (by decide))) (.k (.g 6 rfl) .n)) (.k (mv .k (.g 7 rfl)) (.k (exx .k (.g 8 rfl) rfl) (.k (exx .k (.g 8 rfl) rfl) (.k (ala .k zW) (.k (sta .k (.g 11 rfl) (.g 9 rfl) tyW) (.k (asg .k (.g 10 rfl)) .n)))))))))))))) [0, 1, 2, 3, 4, 5, 6] [12] rfl rfl ?_
   refine Tr.ds hmx [] (.k (faddr .k (.b 5 rfl) rfl fPY) (.k (ldc .k (.g 0 rfl) (.b 5 rfl) tyI) (.k (cal .k Try.func33 rfl (fn_Of (lN f1.y (by decide)).1 (lN f1.y (by decide)).2) (.k (.g 1 rfl) .n)) (.k (faddr .k (.b 6 rfl) rfl fPX) (.k (ldc .k (.g 3 rfl) (.b 6 rfl) tyI) (.k (cal .k Try.func33 rfl (fn_Of (lN f2.x (by decide)).1 (lN f2.x (by decide)).2) (.k (.g 4 rfl) .n)) (.k (mkrow .k rwW (.k (.g 2 rfl) (.k (.g 5 rfl) .n)) rfl rfl (by kernel_rfl)) (.k (cal .k Try.func32 rfl (fn_Mul2 (Bd.mono f1.y (by decide)) (Bd.mono f2.x (by decide))) (.k (.g 6 rfl) .n)) (.k (mv .k (.g 7 rfl)) (.k (exx .k (.g 8 rfl) rfl) (.k (exx .k (.g 8 rfl) rfl) (.k (ala .k zW) (.k (sta .k (.g 11 rfl) (.g 9 rfl) tyW) (.k (asg .k (.g 10 rfl)) .n)))))))))))))) [0, 1, 2, 3, 4, 7] [12] rfl rfl ?_
   refine Tr.draw hmx [(4, 9)] (.k (ld .k (.b 4 rfl) tyW) (.k (ld .k (.b 5 rfl) tyW) (.k (ld .k (.b 6 rfl) tyW) (.k (cal .k Try.func35 rfl (fn_Neg (tN (Bd.mul f1.y f2.x) (by decide))) (.k (.g 2 rfl) .n)) (.k (mkrow .k rwW (.k (.g 0 rfl) (.k (.g 1 rfl) (.k (.g 3 rfl) .n))) rfl rfl (by kernel_rfl)) (.k (cal .k Try.func34 rfl (fn_Add3 (Bd.mono hsb (by decide)) (Bd.mono (Bd.mul f1.x f2.y) (by decide)) (Bd.mono (Bd.neg (Bd.mul f1.y f2.x)) (by decide))) (.k (.g 4 rfl) .n)) (.k (mv .k (.g 5 rfl)) (.k (exx .k (.g 6 rfl) rfl) (.k (exx .k (.g 6 rfl) rfl) (.k (sto .k (.b 4 rfl) (.g 7 rfl) tyW) .n)))))))))) [0, 1, 2, 3] [9] rfl rfl (Nx.bkN (Nx.go (Tr.reg [(3, 1)] (.k (add_ .k (.b 3 rfl) .c (show IntKind.i64.wrap ((k : Int) + 1) = ((k + 1 : Nat) : Int) by rw [IntWalk.i64_in _ (by omega)]; omega)) (.k (mv .k (.g 0 rfl)) .n)) [0, 1, 2, 4] [1] rfl rfl (Nx.again (q.length - (k + 1)) (by omega) [.b 4 (.is (wv 0)) 44 5, .s 6 (.vec 2 (q.map pc)), .s 54 (iv ((q.length : Nat) : Int)), .s 55 (iv (((k + 1) : Nat) : Int)), .b 9 (.is (wv (shoeTo q (k + 1)))) 44 5] ⟨(k + 1), (by omega), rfl, rfl⟩ (Sub.all (.cons 0 rfl (.cons 1 rfl (.cons 2 rfl (.cons 4 rfl (.cons 3 rfl .nil))))))))))
  ·
   obtain rfl : k = q.length := by have := of_decide_eq_false e56; omega
   refine Tr.exit (Nx.thX (Nx.thX (Nx.bkX (Nx.go (Tr.rs [(0, 1)] (.k (ld .k (.b 4 rfl) tyW) (.k (sto .k (.b 0 rfl) (.g 0 rfl) tyW) (.k (asg .k .c) .n))) [] [1, 2] rfl rfl ?_)))))
   refine Tr.ret (end_cell_tmp 0 1 rfl rfl rfl tyW)
end Go.Proofs.Ytcifcohkjifadaa

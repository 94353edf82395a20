/- Lemmas for the walk of options.Parse. -/
import Derived.Test.YtbiafpklgkkoaaaParA
import Derived.Maps.OwnOps
import Derived.WalkMore
set_option linter.unusedVariables false
set_option linter.unusedSimpArgs false
namespace Go.Proofs.Ytbiafpklgkkoaaa
open Go Go.Proofs Go.RowKit Go.Maps Go.Shelf Go.WideMaps Go.Proofs.YtbiafpklgkkoaaaW.PrintWords Go.Proofs.YtbiafpklgkkoaaaW.PrintLast Go.Proofs.YtbiafpklgkkoaaaW.PrintMore
theorem scan_size : ∀ (l : List Int) (p : Nat) (m : Md) (x : Nat × List Int), x ∈ scan p m l → x.2.length ≤ l.length + (match m with | .word _ a => a.length | _ => 0) := by
  intro l
  induction l with
  | nil =>
    intro p m x hx
    cases m with
    | out => simp [scan] at hx
    | com => simp [scan] at hx
    | word q a => simp [scan] at hx; subst hx; simp
  | cons c t ih =>
    intro p m x hx
    cases m with
    | out =>
      simp only [scan] at hx
      split at hx
      · have := ih _ _ _ hx; simp at this ⊢; omega
      · split at hx
        · have := ih _ _ _ hx; simp at this ⊢; omega
        · have := ih _ _ _ hx; simp at this ⊢; omega
    | com =>
      simp only [scan] at hx
      split at hx
      · have := ih _ _ _ hx; simp at this ⊢; omega
      · have := ih _ _ _ hx; simp at this ⊢; omega
    | word q a =>
      simp only [scan] at hx
      split at hx
      · rcases List.mem_cons.1 hx with rfl | h
        · simp
        · have := ih _ _ _ h; simp at this ⊢; omega
      · have := ih _ _ _ hx; simp at this ⊢; omega
theorem tks_size (xs : List Int) (k : Nat) (hk : k < (tks xs).length) : (rd_T37 (tks xs) (k : Int)).f1.size ≤ xs.length := by
  have e : rd_T37 (tks xs) (k : Int) = (tks xs)[k] := by simp [rd_T37, List.getD_eq_getElem?_getD, List.getElem?_eq_getElem hk]
  rw [e]
  have hm : (tks xs)[k] ∈ (toks xs).map tk := List.getElem_mem hk
  obtain ⟨x, hx, e2⟩ := List.mem_map.1 hm
  rw [← e2]
  have h := scan_size xs 0 .out x hx
  have h2 : (tk x).f1.size = x.2.length := by
    show (strOfNums x.2).size = _
    simp [strOfNums, ByteArray.size]
  rw [h2]
  simpa using h
/-- What stands at the loop's head, but for the counter. -/
structure PInv (W1 W : World) (sv : Value) (l : List Sett) (sr sb : Bool) : Prop where
  hb : Below W1.heap.size W1 W
  hm : SeenM W W1.heap.size l.length sr sb
  hs : SetsR W (W1.heap.size + 1) sv l
theorem PInv.below {W1 W : World} {sv : Value} {l : List Sett} {sr sb : Bool} (h : PInv W1 W sv l sr sb) {w : World} (hb : Below w.heap.size w W1) : Below w.heap.size w W := hb.trans (h.hb.mono hb.size)
theorem PInv.later {W1 W W' : World} {sv : Value} {l : List Sett} {sr sb : Bool} (h : PInv W1 W sv l sr sb) (hb : Below W.heap.size W W') : PInv W1 W' sv l sr sb :=
  ⟨h.hb.trans (hb.mono h.hb.size), h.hm.below hb, h.hs.below hb⟩
/-- Behind the append. -/
theorem PInv.mid {W1 w2 w3 : World} {sv v' : Value} {l : List Sett} {sr sb : Bool} {cs : List Value} {x : Sett} {v : Value} (hI : PInv W1 w2 sv l sr sb) (hrow : w2.ownsRow (W1.heap.size + 1) 52 1 sv l.length cs)
    (hIs : ∀ j (h : j < l.length), ∃ v, cs[j]? = some v ∧ (l[j]).Is w2 v) (hx : x.Is w2 v) (hown : w3.ownsRow (W1.heap.size + 1) 52 1 v' (l.length + 1) (cs ++ [v])) (hg : (w2.alloc (.cells #[v] 52)).grownBy w3 sv.ownBlock) :
    Below W1.heap.size W1 w3 ∧ SeenM w3 W1.heap.size l.length sr sb ∧ SetsR w3 (W1.heap.size + 1) v' (l ++ [x]) := by
  have ha : Below w2.heap.size w2 (w2.alloc (.cells #[v] 52)) := (Below.refl _ _).alloc (Nat.le_refl _) _
  refine ⟨?_, ?_, SetsR.appended hrow hIs hx rfl hown hg⟩
  · refine Below.grown (hI.hb.trans (ha.mono hI.hb.size)) hg (Nat.le_trans hI.hb.size ha.size) (fun k hk => ?_)
    have := (hrow.lt k hk).1
    omega
  · refine (hI.hm.below ha).kept hg (fun e => ?_)
    have := (hrow.lt _ e.symm).1
    omega
/-- Behind the store into the map. -/
theorem PInv.put {W1 w3 w4 : World} {v' : Value} {l : List Sett} {x : Sett} {sr sb : Bool} {D : DataW Unit} (hb : Below W1.heap.size W1 w3) (hD : w3.ownsMap Try.prog 9 (plainElem Try.prog 4) W1.heap.size l.length D)
    (hDs : ∀ s : ByteArray, D.atKey (.string s.data.toList) (.lit (.bool false)) = .lit (.bool (seenF sr sb s))) (hs : SetsR w3 (W1.heap.size + 1) v' (l ++ [x])) (s : ByteArray) (hsz : s.size ≤ 1048576) (c sr' sb' : Bool)
    (hown : w4.ownsMap Try.prog 9 (plainElem Try.prog 4) W1.heap.size (l.length + 1) (D.put (.string s.data.toList) (.lit (.bool c)))) (hg : w3.grownBy w4 (some W1.heap.size))
    (hc : ∀ t, (if t = s then c else seenF sr sb t) = seenF sr' sb' t) : PInv W1 w4 v' (l ++ [x]) sr' sb' := by
  refine ⟨hb.grown hg hb.size (fun k hk => by cases hk; exact Nat.le_refl _), ?_, ?_⟩
  · rw [List.length_append]
    exact SeenM.put hown hDs (hD.isMap) s (by unfold maxLen; omega) c sr' sb' rfl hc
  · refine hs.kept hg ?_ ?_
    · right
      intro e
      obtain ⟨cs, hr, _⟩ := hs
      have := (hr.lt _ e).1
      omega
    · intro b v t ht hB e
      cases e
      obtain ⟨es, clock, hh, _⟩ := hD
      have := (show w3.heap[W1.heap.size]? = _ from hB).symm.trans hh
      cases this
theorem infoSet : (Try.prog.info? 52).map (fun i => (i.zero, i.size, i.bytes)) = some (some .nilFunc, 1, 8) := by kernel_rfl
theorem make_n (A : Option Addr) (l : List Sett) (c n : Nat) (w : World) (hR : RowS w A l) (hc : l.length ≤ c) (hn : n = l.length) : Calls Try.prog 12 #[.slice A n c] w fun e w' => e = .returned (makeV (l.foldl Sett.app (1, 0, false))) ∧ Below w.heap.size w w' := by
  subst hn
  exact make_any A l c w hR hc
/-- The mode, as the loop over the three words has it ahead of the j-th. -/
def mUp (s : ByteArray) (j : Nat) : Int := if 3 < j ∧ s = wordS 3 then 3 else if 2 < j ∧ s = wordS 2 then 2 else if 1 < j ∧ s = wordS 1 then 1 else 0
theorem mUp_step (s : ByteArray) (j : Nat) (h1 : 1 ≤ j) (h3 : j ≤ 3) : mUp s (j + 1) = if s = wordS j then (j : Int) else mUp s j := by
  have hj : j = 1 ∨ j = 2 ∨ j = 3 := by omega
  rcases hj with rfl | rfl | rfl
  · by_cases e : s = wordS 1
    · subst e; decide
    · simp [mUp, e]
  · by_cases e : s = wordS 2
    · subst e; decide
    · simp [mUp, e]
  · by_cases e : s = wordS 3
    · subst e; decide
    · simp [mUp, e]
theorem mUp_end (s : ByteArray) : mUp s 4 = modeS s := by simp [mUp, modeS]
theorem toList_ne {a b : ByteArray} (h : a ≠ b) : (a.toList == b.toList) = false := by
  rw [beq_eq_false_iff_ne]
  intro e
  apply h
  rw [ByteArray.toList_eq, ByteArray.toList_eq] at e
  cases a; cases b
  exact congrArg ByteArray.mk (Array.toList_inj.1 e)
theorem toList_eq' {s b : ByteArray} {L : List UInt8} (hb : b.toList = L) (h : s = b) : (s.toList == L) = true := by
  subst h
  rw [hb]
  exact beq_self_eq_true _
theorem toList_ne' {s b : ByteArray} {L : List UInt8} (hb : b.toList = L) (h : s ≠ b) : (s.toList == L) = false := by
  rw [← hb]
  exact toList_ne h
theorem ref_list : refB.toList = [114, 101, 102, 105, 110, 101] := by rw [ByteArray.toList_eq]; rfl
theorem bud_list : budB.toList = [98, 117, 100, 103, 101, 116] := by rw [ByteArray.toList_eq]; rfl
theorem mode_no {s : ByteArray} (h : modeS s ≠ 0) : s ≠ refB ∧ s ≠ budB := by
  constructor
  · intro e; subst e; exact h (by decide)
  · intro e; subst e; exact h (by decide)
theorem SetsR.rown {W : World} {base : Nat} {sv : Value} {l : List Sett} (h : SetsR W base sv l) (h0 : 0 < l.length) : ∃ A c n, sv = .slice A n c ∧ Hid (n = l.length) ∧ l.length ≤ c ∧ RowS W A l := by
  obtain ⟨A, c, e, h1, h2⟩ := h.row h0
  exact ⟨A, c, l.length, e, Lib.hid rfl, h1, h2⟩
theorem chk_two {m n : Int} (h : ¬ chkS m n = 0) : chkS m n = 2 := by
  unfold chkS at h ⊢
  split
  · rfl
  · rename_i h'
    exact absurd (if_neg h') h
theorem pgo_end {bl : Int} {T : List S37} {k : Nat} {sr sb : Bool} {o : Opt3} {p : Opt3 × Int × Int} (h : p = pgo bl (T.drop k) sr sb o) (hk : T.length ≤ k) : p = (if chkS o.1 o.2.1 = 0 then o else (0, 0, false), 0, chkS o.1 o.2.1) := by
  rw [h, List.drop_eq_nil_of_le hk]
  rfl
theorem pgo_good {bl : Int} {T : List S37} {k : Nat} {sr sb : Bool} {a b : Int} {c : Bool} {p : Opt3 × Int × Int} (h : p = pgo bl (T.drop k) sr sb (a, b, c)) (hk : T.length ≤ k) (hc : chkS a b = 0) : parV p = .tuple #[.agg #[.int .i64 a, .int .i64 b, .bool c], .int .i64 0, .int .i64 0] := by
  rw [pgo_end h hk]
  simp only [hc, if_true, parV]
theorem pgo_bad {bl : Int} {T : List S37} {k : Nat} {sr sb : Bool} {a b : Int} {c : Bool} {p : Opt3 × Int × Int} (h : p = pgo bl (T.drop k) sr sb (a, b, c)) (hk : T.length ≤ k) (hc : chkS a b = 2) : parV p = .tuple #[.agg #[.int .i64 0, .int .i64 0, .bool false], .int .i64 0, .int .i64 2] := by
  rw [pgo_end h hk]
  simp only [hc, if_neg (show ¬ (2 : Int) = 0 by decide), parV]
theorem makeV_good {a b : Int} {c : Bool} (hc : chkS a b = 0) : makeV (a, b, c) = .tuple #[.agg #[.int .i64 a, .int .i64 b, .bool c], .int .i64 0] := if_pos hc
theorem makeV_bad {a b : Int} {c : Bool} (hc : chkS a b = 2) : makeV (a, b, c) = .tuple #[.agg #[.int .i64 0, .int .i64 0, .bool false], .int .i64 2] := if_neg (by show ¬ chkS a b = 0; omega)
theorem pgo_cons (bl : Int) (t : S37) (r : List S37) (sr sb : Bool) (o : Opt3) : pgo bl (t :: r) sr sb o = if t.f1 = refB ∧ sr = false then pgo bl r true sb (o.1, o.2.1, true) else if t.f1 = budB ∧ sb = false then
      match r with
      | [] => ((0, 0, false), bl, 11)
      | u :: r' => if errN (bytesOf u.f1) ≠ 0 then ((0, 0, false), u.f0, errN (bytesOf u.f1)) else pgo bl r' sr true (o.1, (numS (bytesOf u.f1) 100).1, o.2.2)
    else ((0, 0, false), t.f0, 11) := by
  rw [pgo.eq_def]
  cases r <;> rfl
theorem pgo_stop {bl : Int} {R r : List S37} {t : S37} {sr sb : Bool} {o : Opt3} {p : Opt3 × Int × Int} (h : p = pgo bl R sr sb o) (ht : R = t :: r) (h1 : ¬ (t.f1 = refB ∧ sr = false)) (h2 : ¬ (t.f1 = budB ∧ sb = false)) : p = ((0, 0, false), t.f0, 11) := by
  subst ht h
  rw [pgo_cons]
  rw [if_neg h1, if_neg h2]
theorem pgo_seen {bl : Int} {R r : List S37} {t : S37} {sr sb : Bool} {o : Opt3} {p : Opt3 × Int × Int} (h : p = pgo bl R sr sb o) (ht : R = t :: r) (h1 : seenF sr sb t.f1 = true) : p = ((0, 0, false), t.f0, 11) := by
  have hn : refB ≠ budB := by decide
  refine pgo_stop h ht ?_ ?_
  · rintro ⟨e, rfl⟩
    simp [seenF, e, hn] at h1
  · rintro ⟨e, rfl⟩
    simp [seenF, e, hn.symm] at h1
theorem seen_ref {sr sb : Bool} (h : seenF sr sb refB = false) : sr = false := by
  cases sr
  · rfl
  · simp [seenF] at h
theorem seen_bud {sr sb : Bool} (h : seenF sr sb budB = false) : sb = false := by
  cases sb
  · rfl
  · simp [seenF] at h
theorem app_snoc (l : List Sett) (x : Sett) (o : Opt3) : (l ++ [x]).foldl Sett.app o = Sett.app (l.foldl Sett.app o) x := by rw [List.foldl_append]; rfl
theorem pgo_ref {bl : Int} {R r : List S37} {t : S37} {sb : Bool} {l : List Sett} {p : Opt3 × Int × Int} (h : p = pgo bl R false sb (l.foldl Sett.app (1, 0, false))) (ht : R = t :: r) (h1 : t.f1 = refB) : p = pgo bl r true sb ((l ++ [Sett.refine true]).foldl Sett.app (1, 0, false)) := by
  rw [app_snoc]
  subst ht h
  rw [pgo_cons]
  rw [if_pos ⟨h1, rfl⟩]
  rfl
theorem hcs_ref {s : ByteArray} (h : s = refB) (sr sb : Bool) (u : ByteArray) : (if u = s then true else seenF sr sb u) = seenF true sb u := by
  subst h
  by_cases e : u = refB
  · simp [e, seenF]
  · simp [e, seenF]
theorem hcs_bud {s : ByteArray} (h : s = budB) (sr sb : Bool) (u : ByteArray) : (if u = s then true else seenF sr sb u) = seenF sr true u := by
  subst h
  by_cases e : u = budB
  · simp [e, seenF]
  · simp [e, seenF]
theorem bud_ne_ref {s : ByteArray} (h : s = budB) : s ≠ refB := by subst h; decide
theorem pgo_bud_last {bl : Int} {R : List S37} {t : S37} {sr : Bool} {o : Opt3} {p : Opt3 × Int × Int} (h : p = pgo bl R sr false o) (ht : R = [t]) (h1 : t.f1 = budB) : p = ((0, 0, false), bl, 11) := by
  subst ht h
  rw [pgo_cons]
  rw [if_neg (fun c => bud_ne_ref h1 c.1), if_pos ⟨h1, rfl⟩]
theorem pgo_bud_err {bl f : Int} {R r : List S37} {t u : S37} {sr : Bool} {o : Opt3} {p : Opt3 × Int × Int} (h : p = pgo bl R sr false o) (ht : R = t :: u :: r) (h1 : t.f1 = budB) (hf : errN (bytesOf u.f1) = f) (h0 : f ≠ 0) : p = ((0, 0, false), u.f0, f) := by
  subst ht h hf
  rw [pgo_cons]
  rw [if_neg (fun c => bud_ne_ref h1 c.1), if_pos ⟨h1, rfl⟩]
  exact if_pos h0
theorem pgo_bud {bl n : Int} {R r : List S37} {t u : S37} {sr : Bool} {l : List Sett} {p : Opt3 × Int × Int} (h : p = pgo bl R sr false (l.foldl Sett.app (1, 0, false))) (ht : R = t :: u :: r) (h1 : t.f1 = budB) (hf : errN (bytesOf u.f1) = 0) (hn : (numS (bytesOf u.f1) 100).1 = n) :
    p = pgo bl r sr true ((l ++ [Sett.budget n]).foldl Sett.app (1, 0, false)) := by
  rw [app_snoc]
  subst ht h hn
  rw [pgo_cons]
  rw [if_neg (fun c => bud_ne_ref h1 c.1), if_pos ⟨h1, rfl⟩]
  exact if_neg (fun c => c hf)
theorem drop_at {T : List S37} {k : Nat} (h : k < T.length) : T.drop k = rd_T37 T (k : Int) :: T.drop (k + 1) := by
  rw [List.drop_eq_getElem_cons h]
  simp [rd_T37, List.getD_eq_getElem?_getD, List.getElem?_eq_getElem h]
theorem number_n {s : ByteArray} {n f : Int} (H : Hid (numS (bytesOf s) 100 = (n, f))) (w : World) (h1 : s.size ≤ 1048576) :
    Calls Try.prog 24 #[.string s, .int .i64 100] w fun e w' => e = .returned (.tuple #[.int .i64 n, .int .i64 f]) ∧ Below w.heap.size w w' := by
  have h := number_any s 100 w (by omega) (by omega) (by omega)
  rw [H.out] at h
  exact h
theorem errN_neg {l : List Int} {n f : Int} (H : numS l 100 = (n, f)) (hf : f = 0) (hn : n < 0) : errN l = 10 := by
  unfold errN
  rw [H]
  exact if_pos ⟨hf, hn⟩
theorem errN_ok {l : List Int} {n f : Int} (H : numS l 100 = (n, f)) (hf : f = 0) (hn : ¬ n < 0) : errN l = 0 := by
  unfold errN
  rw [H, if_neg (fun c => hn c.2)]
  exact hf
theorem errN_bad {l : List Int} {n f : Int} (H : numS l 100 = (n, f)) (hf : ¬ f = 0) : errN l = f := by
  unfold errN
  rw [H, if_neg (fun c => hf c.1)]
theorem parse_first {bl : Int} {T r : List S37} {t : S37} {mo : Int} (hT : T = t :: r) (hm : mo = modeS t.f1) (h0 : ¬ mo = 0) : parseT bl T = pgo bl (T.drop 1) false false (([] ++ [Sett.mode mo]).foldl Sett.app (1, 0, false)) := by
  subst hT hm
  exact if_neg h0
theorem parse_zero {bl : Int} {T r : List S37} {t : S37} (hT : T = t :: r) (h0 : modeS t.f1 = 0) : parseT bl T = ((0, 0, false), t.f0, 11) := by
  subst hT
  exact if_pos h0
end Go.Proofs.Ytbiafpklgkkoaaa

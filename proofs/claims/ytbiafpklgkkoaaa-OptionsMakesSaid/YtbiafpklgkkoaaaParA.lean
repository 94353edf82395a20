/- What options.Parse says of words; the words on its memory. -/
import Derived.Test.YtbiafpklgkkoaaaOptC
import Derived.Test.YtbiafpklgkkoaaaTokWalk3
import Derived.Test.YtbiafpklgkkoaaaNumWalk2
import Derived.Maps.OwnSet
import Derived.StringKeys
set_option linter.unusedVariables false
set_option linter.unusedSimpArgs false
namespace Go.Proofs.Ytbiafpklgkkoaaa
open Go Go.Proofs Go.RowKit Go.Maps Go.Shelf Go.WideMaps Go.Proofs.YtbiafpklgkkoaaaW.PrintWords
def refB : ByteArray := ⟨#[114, 101, 102, 105, 110, 101]⟩
def budB : ByteArray := ⟨#[98, 117, 100, 103, 101, 116]⟩
/-- The mode of a word; 0: it is none. -/
def modeS (s : ByteArray) : Int := if s = wordS 3 then 3 else if s = wordS 2 then 2 else if s = wordS 1 then 1 else 0
/-- Why a word is no budget. -/
def errN (l : List Int) : Int := if (numS l 100).2 = 0 ∧ (numS l 100).1 < 0 then 10 else (numS l 100).2
abbrev Opt3 := Int × Int × Bool
/-- The words behind the mode. -/
def pgo (bl : Int) : List S37 → Bool → Bool → Opt3 → Opt3 × Int × Int
  | [], _, _, o => (if chkS o.1 o.2.1 = 0 then o else (0, 0, false), 0, chkS o.1 o.2.1)
  | t :: r, sr, sb, o =>
    if t.f1 = refB ∧ sr = false then pgo bl r true sb (o.1, o.2.1, true)
    else if t.f1 = budB ∧ sb = false then
      match r with
      | [] => ((0, 0, false), bl, 11)
      | u :: r' => if errN (bytesOf u.f1) ≠ 0 then ((0, 0, false), u.f0, errN (bytesOf u.f1)) else pgo bl r' sr true (o.1, (numS (bytesOf u.f1) 100).1, o.2.2)
    else ((0, 0, false), t.f0, 11)
/-- The options of words. -/
def parseT (bl : Int) : List S37 → Opt3 × Int × Int
  | [] => ((0, 0, false), bl, 11)
  | t :: r => if modeS t.f1 = 0 then ((0, 0, false), t.f0, 11) else pgo bl r false false (modeS t.f1, 0, false)
def parV (p : Opt3 × Int × Int) : Value := .tuple #[.agg #[.int .i64 p.1.1, .int .i64 p.1.2.1, .bool p.1.2.2], .int .i64 p.2.1, .int .i64 p.2.2]

/-- Has the word been seen? -/
def seenF (sr sb : Bool) (s : ByteArray) : Bool := (sr && decide (s = refB)) || (sb && decide (s = budB))
theorem sett_is {w w' : World} {v : Value} {x : Sett} (h : x.Is w v) (hk : ∀ b v t, t ≠ 52 → SetB w b v t → SetB w' b v t) : x.Is w' v := by
  cases x with
  | mode n => obtain ⟨b, e, hB⟩ := h; exact ⟨b, e, hk _ _ _ (by decide) hB⟩
  | budget n => obtain ⟨b, e, hB⟩ := h; exact ⟨b, e, hk _ _ _ (by decide) hB⟩
  | refine n => obtain ⟨b, e, hB⟩ := h; exact ⟨b, e, hk _ _ _ (by decide) hB⟩
  | nil_ => exact h
/-- The setters that a call has gathered. -/
def SetsR (W : World) (base : Nat) (sv : Value) (l : List Sett) : Prop :=
  ∃ cs, W.ownsRow base 52 1 sv l.length cs ∧ ∀ j (h : j < l.length), ∃ v, cs[j]? = some v ∧ (l[j]).Is W v
theorem SetsR.nil (W : World) (base : Nat) : SetsR W base (.slice none 0 0) [] := ⟨[], World.ownsRow_nil _ _ _ _, fun j h => absurd h (Nat.not_lt_zero _)⟩
theorem SetsR.below {W W' : World} {base : Nat} {sv : Value} {l : List Sett} (h : SetsR W base sv l) (hb : Below W.heap.size W W') : SetsR W' base sv l := by
  obtain ⟨cs, hr, hI⟩ := h
  refine ⟨cs, ?_, fun j hj => ?_⟩
  · obtain ⟨hl, hc⟩ := hr
    refine ⟨hl, hc.imp id ?_⟩
    rintro ⟨g, cap, cur, e, hg, hh, hrest⟩
    exact ⟨g, cap, cur, e, hg, (hb.block g (Array.getElem?_eq_some_iff.1 hh).1).trans hh, hrest⟩
  · obtain ⟨v, e, hv⟩ := hI j hj
    exact ⟨v, e, sett_is hv fun b v t _ hB => hB.later hb⟩
theorem SetsR.kept {W W' : World} {base : Nat} {sv : Value} {l : List Sett} {row : Option Nat} (h : SetsR W base sv l) (hg : W.grownBy W' row) (hn : sv.ownBlock = none ∨ sv.ownBlock ≠ row)
    (hs : ∀ b v t, t ≠ 52 → SetB W b v t → some b ≠ row) : SetsR W' base sv l := by
  obtain ⟨cs, hr, hI⟩ := h
  refine ⟨cs, hr.kept hg hn, fun j hj => ?_⟩
  obtain ⟨v, e, hv⟩ := hI j hj
  exact ⟨v, e, sett_is hv fun b v t ht hB => (hg.block b (Array.getElem?_eq_some_iff.1 hB).1 (hs b v t ht hB)).trans hB⟩
/-- One more. -/
theorem SetsR.appended {W w1 : World} {base : Nat} {sv v' : Value} {l : List Sett} {cs : List Value} {x : Sett} {v : Value} (hr : W.ownsRow base 52 1 sv l.length cs) (hI : ∀ j (h : j < l.length), ∃ v, cs[j]? = some v ∧ (l[j]).Is W v)
    (hx : x.Is W v) {W0 : World} (hW0 : W0 = W.alloc (.cells #[v] 52)) (hown : w1.ownsRow base 52 1 v' (l.length + 1) (cs ++ [v])) (hg : W0.grownBy w1 sv.ownBlock) : SetsR w1 base v' (l ++ [x]) := by
  subst hW0
  have hk : ∀ b u t, t ≠ 52 → SetB W b u t → SetB w1 b u t := fun b u t ht hB => (Boxed.kept (Boxed.alloc (show Boxed W b t u from hB) _) hg (Boxed.not_row (show Boxed W b t u from hB) ht hr))
  refine ⟨cs ++ [v], by rw [List.length_append]; exact hown, fun j hj => ?_⟩
  have hl : cs.length = l.length := by have := hr.1; omega
  rw [List.length_append] at hj
  simp only [List.length_cons, List.length_nil] at hj
  by_cases h : j < l.length
  · obtain ⟨u, e, hu⟩ := hI j h
    refine ⟨u, by rw [List.getElem?_append_left (by omega)]; exact e, ?_⟩
    rw [List.getElem_append_left h]
    exact sett_is hu hk
  · obtain rfl : j = l.length := by omega
    refine ⟨v, by rw [List.getElem?_append_right (by omega), hl]; simp, ?_⟩
    rw [List.getElem_append_right (Nat.le_refl _)]
    simpa using sett_is hx hk
theorem SetsR.row {W : World} {base : Nat} {sv : Value} {l : List Sett} (h : SetsR W base sv l) (h0 : 0 < l.length) : ∃ A c, sv = .slice A l.length c ∧ l.length ≤ c ∧ RowS W A l := by
  obtain ⟨cs, hr, hI⟩ := h
  have hr2 := hr
  obtain ⟨hl, hn | ⟨g, cap, cur, rfl, hg, hh, hcap, hmax, hcs, htk⟩⟩ := hr2
  · omega
  · refine ⟨_, _, rfl, hcap, Nat.le_trans hcap hmax, fun j hj => ?_⟩
    obtain ⟨v, e, hv⟩ := hI j hj
    exact ⟨_, v, rfl, (Array.getElem?_eq_some_iff.1 hh).1, hr.cells rfl j v e, hv⟩

theorem plainElem_bool_inv {H : Type} {P : Program} {e : TypeId} (he : P.underlying e = some .bool) {v : Value} {z : DataW H × List MemPlace} (h : plainElem P e v = some z) : ∃ a, v = .bool a ∧ z = (.lit (.bool a), []) := by
  unfold plainElem at h
  rw [he] at h
  split at h <;> simp_all
/-- The words that have been seen: the map. -/
def SeenM (W : World) (B n : Nat) (sr sb : Bool) : Prop :=
  ∃ D : DataW Unit, W.ownsMap Try.prog 9 (plainElem Try.prog 4) B n D ∧ ∀ s : ByteArray, D.atKey (.string s.data.toList) (.lit (.bool false)) = .lit (.bool (seenF sr sb s))
theorem zeroB (w : World) : (zeroValue 4).run Try.prog w = .ok (.bool false) w := by kernel_rfl
theorem keyS : Keyed Try.prog 9 := string_keyed Try.underlying9
theorem SeenM.look {W : World} {B n : Nat} {sr sb : Bool} (h : SeenM W B n sr sb) (s : ByteArray) (hs : s.size ≤ maxLen) : (Instr.lookup 58 (.map (some B)) (.string s) false).run Try.prog W = .ok (.bool (seenF sr sb s)) W := by
  obtain ⟨D, hown, hD⟩ := h
  obtain ⟨v, ps, hrun, hv⟩ := hown.lookup keyS Try.underlying58 (zeroB W) (plainElem_bool Try.underlying4 false) (keyOf_string_mk Try.underlying9 hs)
  obtain ⟨c, rfl, hc⟩ := plainElem_bool_inv Try.underlying4 hv
  simp only [Prod.mk.injEq] at hc
  rw [hD s] at hc
  have := hc.1
  simp at this
  rw [hrun, this]
theorem SeenM.new (W : World) : SeenM (W.alloc (.map #[] 0)) W.heap.size 0 false false := ⟨.map [], World.ownsMap_made _ _ _ _, fun s => rfl⟩
theorem SeenM.below {W W' : World} {B n : Nat} {sr sb : Bool} (h : SeenM W B n sr sb) (hb : Below W.heap.size W W') : SeenM W' B n sr sb := by
  obtain ⟨D, ⟨es, clock, hh, hrest⟩, hD⟩ := h
  exact ⟨D, ⟨es, clock, (hb.block B (Array.getElem?_eq_some_iff.1 hh).1).trans hh, hrest⟩, hD⟩
theorem SeenM.kept {W W' : World} {B n : Nat} {sr sb : Bool} {row : Option Nat} (h : SeenM W B n sr sb) (hg : W.grownBy W' row) (hne : some B ≠ row) : SeenM W' B n sr sb := by
  obtain ⟨D, hown, hD⟩ := h
  exact ⟨D, hown.kept hg hne, hD⟩
theorem SeenM.put {W : World} {B n : Nat} {sr sb : Bool} {D : DataW Unit} (hown : W.ownsMap Try.prog 9 (plainElem Try.prog 4) B n D)
    {D0 : DataW Unit} (hD0 : ∀ s : ByteArray, D0.atKey (.string s.data.toList) (.lit (.bool false)) = .lit (.bool (seenF sr sb s))) (h0 : IsMap D0) (s : ByteArray) (hs : s.size ≤ maxLen) (c sr' sb' : Bool)
    (hD : D = D0.put (.string s.data.toList) (.lit (.bool c))) (hc : ∀ t, (if t = s then c else seenF sr sb t) = seenF sr' sb' t) : SeenM W B n sr' sb' := by
  subst hD
  refine ⟨_, hown, fun t => ?_⟩
  rw [← hc t]
  by_cases e : t = s
  · subst e
    rw [if_pos rfl, atKey_put_same h0 (keyS.key (keyOf_string_mk Try.underlying9 hs))]
  · rw [if_neg e, atKey_put_other _ _ _, hD0 t]
    intro h
    apply e
    cases t; cases s
    simp at h
    exact congrArg ByteArray.mk (by simpa using h)
end Go.Proofs.Ytbiafpklgkkoaaa

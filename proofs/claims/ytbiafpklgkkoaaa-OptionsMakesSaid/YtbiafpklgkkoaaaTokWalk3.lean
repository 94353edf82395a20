/- The walk of token.All: it hands back a new slice of the bytes' words. -/
import Derived.Test.YtbiafpklgkkoaaaTokWalk2
import Derived.Test.YtbiafpklgkkoaaaWRepsOne
import Derived.Test.YtbiafpklgkkoaaaWMore
import Derived.WalkSmall
set_option linter.unusedVariables false
set_option linter.unusedSimpArgs false
namespace Go.Proofs.Ytbiafpklgkkoaaa
open Go Go.Proofs Go.RowKit Go.Shelf Go.Proofs.YtbiafpklgkkoaaaW.PrintWords Go.Proofs.YtbiafpklgkkoaaaW.PrintLast Go.Proofs.YtbiafpklgkkoaaaW.PrintMore
attribute [local go_sem] Oper.semAt_some

/-- A word and its place. -/
structure S37 where
  f0 : Int
  f1 : ByteArray
def z37 : S37 := ⟨(0 : Int), (⟨#[]⟩ : ByteArray)⟩
def k37 : Kd S37 := Kd.iso (Kd.pair (Kd.int .i64) Kd.string) (fun x : S37 => (x.f0, x.f1))
theorem k37_open {w : World} {x : S37} {cs : List Value} (h : k37.K w x cs) : cs = [.int .i64 x.f0, .string x.f1] := by
  obtain ⟨_, _, rfl, rfl, rfl⟩ := h
  exact rfl
theorem k37_mkM (w : World) (base : Nat) (ok : Nat → Prop) (x : S37)  : k37.M w base ok x [.int .i64 x.f0, .string x.f1] := ⟨[.int .i64 x.f0], [.string x.f1], rfl, rfl, rfl⟩
def rd_T37 (xs : List S37) (i : Int) : S37 := xs.getD i.toNat z37
theorem at_T37 {w : World} {A : Option Addr} {n : Nat} {xs : List S37} (h : Kd.C k37 w A n xs) (i : Int) (h0 : 0 ≤ i) (h1 : i < n) : ∃ ad , A = some ad ∧ w.cell? (ad.add (i.toNat * 2)) = some (.int .i64 (rd_T37 xs i).f0) ∧ w.cell? ⟨(ad.add (i.toNat * 2)).block, (ad.add (i.toNat * 2)).off + 1, none⟩ = some (.string (rd_T37 xs i).f1) := by
  obtain ⟨ad, c, e, _, hK, hc0⟩ := Kd.C_get h z37 i h0 h1
  have hc : ∀ j u, c[j]? = some u → w.cell? (ad.add (i.toNat * 2 + j)) = some u := hc0
  obtain rfl := k37_open hK
  exact ⟨ad, e, hc 0 _ rfl, by rw [← add_field _ _ 1 (by omega)]; exact hc 1 _ rfl⟩
theorem info37 : (Try.prog.info? 60).map (fun i => (i.zero, i.size, i.bytes)) = some (some (.agg #[(.int .i64 0), (.string ⟨#[]⟩)]), 2, 24) := by kernel_rfl

/-- A word of the plain list, as the program has it. -/
def tk (x : Nat × List Int) : S37 := ⟨(x.1 : Int), strOfNums x.2⟩
def tks (xs : List Int) : List S37 := (toks xs).map tk
def cellsT (l : List (Nat × List Int)) : List Value := l.flatMap fun x => [.int .i64 (x.1 : Int), .string (strOfNums x.2)]
theorem cellsT_snoc (l : List (Nat × List Int)) (x : Nat × List Int) : cellsT (l ++ [x]) = cellsT l ++ [.int .i64 (x.1 : Int), .string (strOfNums x.2)] := by simp [cellsT]
theorem cellsT_reps (R : S37 → List Value → Prop) (h : ∀ x : S37, R x [.int .i64 x.f0, .string x.f1]) (l : List (Nat × List Int)) : Reps R 2 (l.map tk) (cellsT l) := by
  induction l with
  | nil => exact Reps.none _ _
  | cons x l ih => exact Reps.c2 (h (tk x)) ih
theorem toksR {W : World} {n₀ : Nat} {v : Value} {l : List (Nat × List Int)} (h : W.ownsRow n₀ 60 2 v l.length (cellsT l)) : Kd.R k37 60 W n₀ (fun _ => True) v (l.map tk) := by
  refine ⟨fun _ _ => trivial, cellsT l, ?_, ?_⟩
  · rw [List.length_map]; exact h
  · exact cellsT_reps _ (fun x => k37_mkM _ _ _ x) l

theorem Kp2_of {n₀ Bs t e : Nat} {W w1 : World} {u v : Value} (hb : Below n₀ W w1) (hB : Boxed W Bs t u) (hB1 : Boxed w1 Bs t u) : Kp2 n₀ Bs W w1 := by
  intro k hk
  rcases hk with hk | rfl
  · exact hb.block k hk
  · exact hB1.trans hB.symm

theorem words_stops (F : Fence) (n : Nat) (h38 : F.fn 41) (h39 : F.fn 42) (hro : F.round = none) (hn : 1 ≤ n) (Bs n₀ : Nat) (A : Option Addr) (cap : Nat) (xs : List Int)
    (hlen : xs.length ≤ 1048576) (hcap : xs.length ≤ cap) (hA : 0 < xs.length → ∀ ad, A = some ad → ad.block < n₀) (w : World) (hBn : Bs < w.heap.size) (hn₀ : n₀ ≤ w.heap.size)
    (hBs : w.cell? ⟨Bs, 0, none⟩ = some (.slice A xs.length cap)) (hR : ReadsInt w .u8 A xs.length xs) :
    SeqStopsK F n Try.prog 41 #[.pointer (some ⟨Bs, 0, none⟩)] (fun x : Nat × List Int => #[Value.int .i64 (x.1 : Int), .string (strOfNums x.2)]) (Kp2 n₀ Bs) (fun ys => ys = toks xs) (fun pre => pre <+: toks xs ∧ pre ≠ []) xs.length w := fun l J Jx W hW _ _ hY h0 =>
  words1_in F n h38 h39 hro hn l Bs n₀ A cap xs J Jx hlen hcap hA hY W ((hW.cell (p := ⟨Bs, 0, none⟩) hBn).trans hBs) (hR.below hW) h0

set_option maxRecDepth 100000 in
set_option maxHeartbeats 4000000 in
theorem all_in (F : Fence) (n : Nat) (h17 : F.fn 21) (h20 : F.fn 34) (h38 : F.fn 41) (h39 : F.fn 42) (hro : F.round = none) (hn : 3 ≤ n) (A : Option Addr) (cap : Nat) (xs : List Int) (w : World)
    (hlen : xs.length ≤ 1048576) (hcap : xs.length ≤ cap) (hA : 0 < xs.length → ∀ ad, A = some ad → ad.block < w.heap.size) (hR : ReadsInt w .u8 A xs.length xs) :
    CallsIn F n Try.prog 21 #[.slice A xs.length cap] w fun e W' => ∃ v, e = .returned (.tuple #[v, .int .i64 0]) ∧ Kd.R k37 60 W' w.heap.size (fun _ => True) v (tks xs) ∧ Below w.heap.size w W' := by
  have h1 : 1 ≤ n := by omega
  obtain ⟨i0, hi, hz0, hz1, hz2⟩ := info_parts info37
  refine callsIn_of_wp_marks Try.func21 rfl h17 ?_ hro
  simp only [Try.ntmps21, List.size_toArray, List.length_cons, List.length_nil, Nat.reduceAdd, Nat.reduceSub, Array.replicate_succ, Array.replicate_zero, List.push_toArray, List.append_toArray, List.nil_append, List.cons_append]
  have hl0 : decide ((xs.length : Int) > 1048576) = false := by simp; omega
  gi_wp2_with (gi_at_call 34; refine (words_in F (n - 1) h20 hro _ _ _ _).mono ?_; rintro e w' ⟨rfl, rfl⟩)
  have bO := Boxed.new w 55 (.slice none 0 0)
  have bN := Boxed.new (w.alloc (.cells #[.slice none 0 0] 55)) 22 (.slice A xs.length cap)
  rw [World.size_alloc] at bN
  have hB0 : Below w.heap.size w ((w.alloc (.cells #[.slice none 0 0] 55)).alloc (.cells #[.slice A xs.length cap] 22)) := ((Below.refl _ w).alloc (Nat.le_refl _) _).alloc (by simp) _
  refine wpIn_rangeFunc_ownG hro h1 (gf := 41) (lb := #[.pointer (some ⟨w.heap.size + 1, 0, none⟩)]) rfl h38 (enters_of Try.func41 (by kernel_rfl) rfl)
    (words_stops F (n - 1) h38 h39 hro (by omega) (w.heap.size + 1) w.heap.size A cap xs hlen hcap hA _ (by simp) (by simp; omega) bN.cell (hR.below hB0)) (fun h k => h.trans k)
    (fun W l o o' hl ho hc _ k hk => World.putObj_heap_other (by simp at hl; rcases hk with hk | rfl <;> omega)) (Below.refl _ _) (fun _ => rfl)
    (fun pre W => ((∃ v, Boxed W w.heap.size 55 v ∧ W.ownsRow w.heap.size 60 2 v pre.length (cellsT pre) ∧ True) ∧ Boxed W (w.heap.size + 1) 22 (.slice A xs.length cap)) ∧ Below w.heap.size w W)
    (fun _ _ _ => False)
    (OwnFrom.and (Own.from (fun s X Y row h hg hr => ⟨holdsRow_own w.heap.size w.heap.size 55 60 2 (fun pre : List (Nat × List Int) => pre.length) cellsT (fun _ _ => True) s X Y row h.1 hg hr, h.2.kept hg (fun e' => by
      obtain ⟨o, ho, hc⟩ := hr _ e'.symm
      rw [show X.heap[w.heap.size + 1]? = _ from h.2] at ho; cases ho; cases hc)⟩) _) (ownFrom_below (Nat.le_refl _) (by simp; omega)))
    (fun _ _ _ _ _ hs _ _ => hs)
    ⟨⟨⟨_, bO.alloc _, World.ownsRow_nil _ _ _ _, trivial⟩, bN⟩, hB0⟩
    (fun x => { tmps := #[.slice A xs.length cap, undef, .slice none 0 0, .int .i64 0, .pointer (some ⟨w.heap.size, 0, none⟩), .int .i64 (x.1 : Int), .string (strOfNums x.2), .slice A xs.length cap, .int .i64 (xs.length : Int), .bool false, .slice A xs.length cap, .func (.func 41) #[] #[.pointer (some ⟨w.heap.size + 1, 0, none⟩)], .int .i64 (x.1 : Int), .string (strOfNums x.2), undef, undef, undef, undef, undef, undef, undef], defers := [] }) ?assign ?body ?done ?stop
  case assign =>
    intro l x W K hK
    gi_wp2
    exact hK
  case body =>
    rintro l pre x W ⟨⟨⟨v, hv, hrow, _⟩, hbx⟩, hB⟩ hlt
    have hc := hv.cell
    gi_wp2_with (gi_at_builtin; go_loud (refine wpListIn_append_own _ rfl _ _ 55 rfl w.heap.size 60 i0 _ 2 24 Try.underlying55 hi hz0 hz1 hz2 rfl (by decide) _ _ _ rfl (hrow.alloc _) ⟨W.heap.size, 0, none⟩ 1 1 [.int .i64 (x.1 : Int), .string (strOfNums x.2)] rfl rfl (cell_two_new _ _ _ _) (by simp [Value.oneCell']) (by unfold maxLen; omega) (by omega) (by have := hB.size; simp; omega) ?_); intro v' w1 hown' hgrow _; obtain ⟨g', cap', rfl⟩ := ownsRow_succ hown'; obtain ⟨hv1, hv2, hr2, hk2, hb2⟩ := hv.appended (by decide) hrow hB.size (Nat.le_refl _) hown' hgrow; have hc1 := hv1.cell; have hf1 := hv1.frozen)

    have hbx1 := (hbx.alloc (.cells #[.int .i64 (x.1 : Int), .string (strOfNums x.2)] 60)).kept hgrow (hbx.not_row (by decide) hrow)
    have hbx2 := hbx1.kept (grownBy_setCell' w1 w.heap.size (.slice (some ⟨g', 0, none⟩) (pre.length + 1) cap')) (by simp)
    exact ⟨hk2.from _, Kp2_of (t := 22) (e := 0) (v := .nilFunc) hb2 hbx hbx2, ⟨⟨⟨_, hv2, by rw [cellsT_snoc]; simpa using hr2, trivial⟩, hbx2⟩, hB.trans hb2⟩⟩
  case done =>
    rintro D ys W hD rfl ⟨⟨⟨v, hv, hrow, _⟩, hbx⟩, hB⟩ hK
    have hc := hv.cell
    gi_wp2
    refine ⟨by simp, .inl ⟨_, _, rfl, run_takeDeferred hK, ?_⟩⟩
    exact ⟨_, results_tmp2 rfl _ _ _, v, rfl, toksR (ownsRow_putObj hrow _ hK rfl), hB.trans (belowK_b (w := w) (Nat.le_refl _) W D _ _ (by simp at hD; omega) hK rfl rfl)⟩
  case stop =>
    rintro D c pre W _ _ h _
    exact h.elim

set_option maxHeartbeats 1000000 in
theorem all_long (A : Option Addr) (n cap : Nat) (w : World) (hlen : 1048576 < n) :
    Calls Try.prog 21 #[.slice A n cap] w fun e W' => e = .returned (.tuple #[.slice none 0 0, .int .i64 3]) ∧ w = W' := by
  have hl0 : decide ((n : Int) > 1048576) = true := by simp; omega
  go_enter Try.func21, Try.ntmps21
  go_wp2
  go_ret2
  exact ⟨rfl, rfl⟩
theorem reads_lt {w : World} {k : IntKind} {A : Option Addr} {n : Nat} {xs : List Int} (hR : ReadsInt w k A n xs) : 0 < n → ∀ ad, A = some ad → ad.block < w.heap.size := by
  intro h ad e
  obtain ⟨ad', e', hc⟩ := hR.2.2 h
  cases e.symm.trans e'
  have h1 := hc 0 h
  have h2 := World.block_lt_of_cell? w _ h1
  unfold Addr.add at h2
  simpa using h2
theorem all_ok (A : Option Addr) (cap : Nat) (xs : List Int) (w : World)
    (hlen : xs.length ≤ 1048576) (hcap : xs.length ≤ cap) (hR : ReadsInt w .u8 A xs.length xs) :
    Calls Try.prog 21 #[.slice A xs.length cap] w fun e W' => ∃ v, e = .returned (.tuple #[v, .int .i64 0]) ∧ Kd.R k37 60 W' w.heap.size (fun _ => True) v (tks xs) ∧ Below w.heap.size w W' :=
  (callsIn_wide (n := 3)).1 (all_in Fence.wide 3 trivial trivial trivial trivial rfl (by omega) A cap xs w hlen hcap (reads_lt hR) hR)
end Go.Proofs.Ytbiafpklgkkoaaa

/- The walks of options' small functions: word, Check, the setters. -/
import Derived.Test.YtbiafpklgkkoaaaProg
import Derived.WalkKit
import Derived.Below
import Derived.Lib.Hide
set_option linter.unusedVariables false
set_option linter.unusedSimpArgs false
namespace Go.Proofs.Ytbiafpklgkkoaaa
open Go Go.Proofs Go.RowKit
def wordS (m : Int) : ByteArray := if m = 1 then ⟨#[116, 114, 105]⟩ else if m = 2 then ⟨#[113, 117, 97, 100]⟩ else if m = 3 then ⟨#[97, 108, 108]⟩ else ⟨#[]⟩
set_option maxHeartbeats 2000000 in
set_option maxRecDepth 100000 in
theorem word_any (m : Int) (w : World) (h0 : 0 ≤ m) (h1 : m ≤ 3) : Calls Try.prog 22 #[.int .i64 m] w fun e w' => e = .returned (.string (wordS m)) ∧ Below w.heap.size w w' := by
  have hix : ∀ (k : Int), 0 ≤ k → k ≤ 3 → ∀ W, (Instr.index 80 (.agg #[.string ⟨#[]⟩, .string ⟨#[116, 114, 105]⟩, .string ⟨#[113, 117, 97, 100]⟩, .string ⟨#[97, 108, 108]⟩]) (.int .i64 k)).run Try.prog W = .ok (.string (wordS k)) W := by
    intro k k0 k1 W
    have hm : k = 0 ∨ k = 1 ∨ k = 2 ∨ k = 3 := by omega
    rcases hm with rfl | rfl | rfl | rfl
    all_goals rfl
  have hx := hix m h0 h1
  go_enter Try.func22, Try.ntmps22
  go_wp2
  go_ret
  exact ⟨rfl, Below.refl _ _⟩
/-- A cell that a setter holds. -/
def SetB (w : World) (b : Nat) (v : Value) (t : TypeId) : Prop := w.heap[b]? = some (.cells #[v] t (0, 0))
theorem SetB.new (w : World) (v : Value) (t : TypeId) : SetB (w.alloc (.cells #[v] t)) w.heap.size v t := by
  show (w.heap.push _)[w.heap.size]? = _
  simp
theorem SetB.cell {w : World} {b : Nat} {v : Value} {t : TypeId} (h : SetB w b v t) : w.cell? ⟨b, 0, none⟩ = some v := by simp [World.cell?, show w.heap[b]? = _ from h]
theorem SetB.later {w w' : World} {b : Nat} {v : Value} {t : TypeId} (h : SetB w b v t) (hb : Below w.heap.size w w') : SetB w' b v t := (hb.block b (Array.getElem?_eq_some_iff.1 h).1).trans h
theorem mode_any (n : Int) (w : World) : Calls Try.prog 20 #[.int .i64 n] w fun e w' => e = .returned (.func (.func 33) #[] #[.pointer (some ⟨w.heap.size, 0, none⟩)]) ∧ SetB w' w.heap.size (.int .i64 n) 3 ∧ Below w.heap.size w w' := by
  have hmf : ∀ (fn : Fn) (first cap : Array Value) (w : World), (Instr.makeFunc fn first cap).run Try.prog w = .ok (.func fn first cap) w := fun _ _ _ _ => rfl
  go_enter Try.func20, Try.ntmps20
  go_wp2
  go_ret
  exact ⟨rfl, SetB.new _ _ _, (Below.refl _ _).alloc (Nat.le_refl _) _⟩
theorem budget_any (n : Int) (w : World) : Calls Try.prog 19 #[.int .i64 n] w fun e w' => e = .returned (.func (.func 32) #[] #[.pointer (some ⟨w.heap.size, 0, none⟩)]) ∧ SetB w' w.heap.size (.int .i64 n) 3 ∧ Below w.heap.size w w' := by
  have hmf : ∀ (fn : Fn) (first cap : Array Value) (w : World), (Instr.makeFunc fn first cap).run Try.prog w = .ok (.func fn first cap) w := fun _ _ _ _ => rfl
  go_enter Try.func19, Try.ntmps19
  go_wp2
  go_ret
  exact ⟨rfl, SetB.new _ _ _, (Below.refl _ _).alloc (Nat.le_refl _) _⟩
theorem refine_any (b : Bool) (w : World) : Calls Try.prog 23 #[.bool b] w fun e w' => e = .returned (.func (.func 35) #[] #[.pointer (some ⟨w.heap.size, 0, none⟩)]) ∧ SetB w' w.heap.size (.bool b) 4 ∧ Below w.heap.size w w' := by
  have hmf : ∀ (fn : Fn) (first cap : Array Value) (w : World), (Instr.makeFunc fn first cap).run Try.prog w = .ok (.func fn first cap) w := fun _ _ _ _ => rfl
  go_enter Try.func23, Try.ntmps23
  go_wp2
  go_ret
  exact ⟨rfl, SetB.new _ _ _, (Below.refl _ _).alloc (Nat.le_refl _) _⟩
/-- The options that a call makes. -/
def OptB (w : World) (b : Nat) (m n : Int) (r : Bool) : Prop := w.heap[b]? = some (.cells #[.int .i64 m, .int .i64 n, .bool r] 25 (0, 0))
theorem OptB.lt {w : World} {o : Nat} {m k : Int} {r : Bool} (h : OptB w o m k r) : o < w.heap.size := (Array.getElem?_eq_some_iff.1 h).1
theorem OptB.later {w w' : World} {o : Nat} {m k : Int} {r : Bool} (h : OptB w o m k r) (hb : Below w.heap.size w w') : OptB w' o m k r := (hb.block o h.lt).trans h
theorem opt_set {w : World} {o i : Nat} {t : TypeId} {cs : Array Value} (h : w.heap[o]? = some (.cells cs t (0, 0))) (v : Value) : (w.setCell ⟨o, i, none⟩ v).heap[o]? = some (.cells (cs.setIfInBounds i v) t (0, 0)) := by
  simp [World.setCell, Array.getElem?_modify, h]
theorem OptB.set0 {w : World} {o : Nat} {m k : Int} {r : Bool} (h : OptB w o m k r) (n : Int) : OptB (w.setCell ⟨o, 0, none⟩ (.int .i64 n)) o n k r := opt_set h _
theorem OptB.set1 {w : World} {o : Nat} {m k : Int} {r : Bool} (h : OptB w o m k r) (n : Int) : OptB (w.setCell ⟨o, 1, none⟩ (.int .i64 n)) o m n r := opt_set h _
theorem OptB.set2 {w : World} {o : Nat} {m k : Int} {r : Bool} (h : OptB w o m k r) (n : Bool) : OptB (w.setCell ⟨o, 2, none⟩ (.bool n)) o m k n := opt_set h _
theorem mode_set (n : Int) (b o : Nat) (m k : Int) (r : Bool) (w : World) (h1 : SetB w b (.int .i64 n) 3) (h2 : OptB w o m k r) :
    Calls Try.prog 33 #[.pointer (some ⟨o, 0, none⟩), .pointer (some ⟨b, 0, none⟩)] w fun e w' => e = .returned (.tuple #[]) ∧ w' = w.setCell ⟨o, 0, none⟩ (.int .i64 n) ∧ OptB w' o n k r := by
  have c := h1.cell
  have d : w.cell? ⟨o, 0, none⟩ = some (.int .i64 m) := by simp [World.cell?, show w.heap[o]? = _ from h2]
  have f : w.frozen? ⟨o, 0, none⟩ = false := by simp [World.frozen?, show w.heap[o]? = _ from h2]
  go_enter Try.func33, Try.ntmps33
  go_wp2
  go_end0
  exact ⟨rfl, rfl, OptB.set0 h2 _⟩
theorem budget_set (n : Int) (b o : Nat) (m k : Int) (r : Bool) (w : World) (h1 : SetB w b (.int .i64 n) 3) (h2 : OptB w o m k r) :
    Calls Try.prog 32 #[.pointer (some ⟨o, 0, none⟩), .pointer (some ⟨b, 0, none⟩)] w fun e w' => e = .returned (.tuple #[]) ∧ w' = w.setCell ⟨o, 1, none⟩ (.int .i64 n) ∧ OptB w' o m n r := by
  have c := h1.cell
  have d : w.cell? ⟨o, 1, none⟩ = some (.int .i64 k) := by simp [World.cell?, show w.heap[o]? = _ from h2]
  have f : w.frozen? ⟨o, 1, none⟩ = false := by simp [World.frozen?, show w.heap[o]? = _ from h2]
  go_enter Try.func32, Try.ntmps32
  go_wp2
  go_end0
  exact ⟨rfl, rfl, OptB.set1 h2 _⟩
theorem refine_set (n : Bool) (b o : Nat) (m k : Int) (r : Bool) (w : World) (h1 : SetB w b (.bool n) 4) (h2 : OptB w o m k r) :
    Calls Try.prog 35 #[.pointer (some ⟨o, 0, none⟩), .pointer (some ⟨b, 0, none⟩)] w fun e w' => e = .returned (.tuple #[]) ∧ w' = w.setCell ⟨o, 2, none⟩ (.bool n) ∧ OptB w' o m k n := by
  have c := h1.cell
  have d : w.cell? ⟨o, 2, none⟩ = some (.bool r) := by simp [World.cell?, show w.heap[o]? = _ from h2]
  have f : w.frozen? ⟨o, 2, none⟩ = false := by simp [World.frozen?, show w.heap[o]? = _ from h2]
  go_enter Try.func35, Try.ntmps35
  go_wp2
  go_end0
  exact ⟨rfl, rfl, OptB.set2 h2 _⟩
end Go.Proofs.Ytbiafpklgkkoaaa

/- The walks of token.blank and token.Words: what they come to, at every argument. -/
import Derived.RangeFuncNested
import Derived.RangeFuncBound
import Derived.RangeFuncCalls
import Derived.RangeFuncLeaves
import Derived.RangeFuncBox
import Derived.Shelf.Abstract
import Derived.Shelf.RegionOpen
import Derived.WalkKit
import Derived.OwnWalkIn
import Derived.TacticsInMore
import Derived.LoopNIn
import Derived.LoopIn
import Derived.Maps.AppendAt
import Derived.Test.YtbiafpklgkkoaaaWWords
import Derived.Test.YtbiafpklgkkoaaaTokSpec
import Derived.Test.YtbiafpklgkkoaaaProg
set_option linter.unusedVariables false
set_option linter.unusedSimpArgs false
namespace Go.Proofs.Ytbiafpklgkkoaaa
open Go Go.Proofs Go.RowKit Go.Shelf Go.Proofs.YtbiafpklgkkoaaaW.PrintWords
attribute [local go_sem] Oper.semAt_some

set_option maxHeartbeats 1000000 in
theorem blank_in (F : Fence) (n : Nat) (hf : F.fn 42) (hro : F.round = none) (c : Int) (w : World) :
    CallsIn F n Try.prog 42 #[.int .u8 c] w fun e w' => e = .returned (.bool (blk c)) ∧ w = w' := by
  refine callsIn_of_wp Try.func42 rfl hf ?_ hro
  simp only [Try.ntmps42, List.size_toArray, List.length_cons, List.length_nil, Nat.reduceAdd, Nat.reduceSub, Array.replicate_succ, Array.replicate_zero, List.push_toArray, List.append_toArray, List.nil_append, List.cons_append]
  by_cases h1 : c = 32
  · subst h1; gi_wp2; go_ret; exact ⟨rfl, rfl⟩
  have b1 : (c == 32) = false := by simpa using h1
  by_cases h2 : c = 9
  · subst h2; gi_wp2; go_ret; exact ⟨rfl, rfl⟩
  have b2 : (c == 9) = false := by simpa using h2
  by_cases h3 : c = 13
  · subst h3; gi_wp2; go_ret; exact ⟨rfl, rfl⟩
  have b3 : (c == 13) = false := by simpa using h3
  have hb : blk c = (c == 10) := by simp [blk, b1, b2, b3]
  gi_wp2
  go_ret
  exact ⟨by rw [hb]; rfl, rfl⟩

set_option maxHeartbeats 1000000 in
theorem words_in (F : Fence) (n : Nat) (hf : F.fn 34) (hro : F.round = none) (A : Option Addr) (m c : Nat) (w : World) :
    CallsIn F n Try.prog 34 #[.slice A m c] w fun e w' => e = .returned (.func (.func 41) #[] #[.pointer (some ⟨w.heap.size, 0, none⟩)]) ∧ w' = w.alloc (.cells #[.slice A m c] 22) := by
  refine callsIn_of_wp Try.func34 rfl hf ?_ hro
  simp only [Try.ntmps34, List.size_toArray, List.length_cons, List.length_nil, Nat.reduceAdd, Nat.reduceSub, Array.replicate_succ, Array.replicate_zero, List.push_toArray, List.append_toArray, List.nil_append, List.cons_append]
  gi_wp2
  go_ret
  exact ⟨rfl, rfl⟩
end Go.Proofs.Ytbiafpklgkkoaaa

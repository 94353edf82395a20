/- A function value held against nil. -/
import Derived.LaidEql
import Derived.Test.YtajfaieiabnknaaProg
namespace Go.Proofs.Ytajfaieiabnknaa
open Go
theorem run_equalIn_func_nil (w : World) (d : Nat) (fn : Fn) (x y : Array Value) : (Op.equalIn (d + 1) 33 (.func fn x y) .nilFunc).run Try.prog w = .ok false w := by
  simp [Op.equalIn, run_underlying Try.underlying33]
theorem run_eql_func_nil (w : World) (fn : Fn) (x y : Array Value) :
    (binOp .eql 33 (.func fn x y) .nilFunc).run Try.prog w = .ok (.bool false) w := by
  simp only [binOp]
  simp [Op.equal, Op.maxDepth, run_equalIn_func_nil w 9999]
end Go.Proofs.Ytajfaieiabnknaa

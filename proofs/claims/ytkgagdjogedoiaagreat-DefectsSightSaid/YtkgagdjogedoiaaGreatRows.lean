/-
  No cell of these rows narrows 'for every input' (looked for: loops, veiled, ifaces, maps, wideKeys, modest, calm, conditions, laid).
  DERIVED. THE GIVEN ROWS OF THIS SEAT. 3 by the template 'for every input the law returns true; each argument reads behind the call as it read before'; 0 by the template 'total and deterministic' (their statements: YtkgagdjogedoiaaGreatTotals.lean).
  GIVEN WITH THE SEED: the statements are not yours to turn. If you find one false, say at which input.
  Laid BY PROGRAM, IN A SANDBOX (cutbox-rows.mjs): the forced cells as the released guide's own fill.sh prints them over the translation b289270540ee6047… (all of the seat's roots in one cut). By AI agents, Wed Nov 11 2026. No macro, syntax, notation, axiom, sorry.
-/
import Derived.Test.YtkgagdjogedoiaaGreatChecked
import GoSem.Claim
import GoSem.ClaimJoined
import GoSem.ClaimMapViews
import Derived.JoinedTies
import Derived.KernelRfl
namespace Go.Proofs.YtkgagdjogedoiaaGreat
/- THE CELL 'sum', in the pinned program and in every row, IS THE sha256 OF THE DUMP (.gsa) THAT YtkgagdjogedoiaaGreatProg.lean LOADS. Nothing in Lean hashes anything: it is a label: what it is worth is what the hold of that sum in a sandbox is worth. -/
noncomputable def Tryz.pinned : Pinned := { name := "ytkgagdjogedoiaagreat", sum := "b289270540ee6047748b542e493b030989c73dfda85987f5f8396f41e3570dbc", checked := Tryz.checked }
namespace Rows
def none {H : Type} : Left H := { results := [], args := [] }

/-- 'parquetlaw15.DefectsTells': WHATEVER THE INPUT: true; the input reads as it did. -/
def defectsTellsSpec : ChangeSpec := { name := "defectsTells", fn := fun _ => fun
  | [d1, d2, d3] => { results := [.lit (.bool true)], args := [d1, d2, d3] }
  | _ => none }
def defectsTellsRow : OpenClaim := { program := "ytkgagdjogedoiaagreat", sum := "b289270540ee6047748b542e493b030989c73dfda85987f5f8396f41e3570dbc", func := "parquet/parquetlaw15.DefectsTells", spec := "defectsTells", inPlace := ["math/bits.Add64", "math/bits.Sub64"], unfollowed := true, recurses := true, plainKeys := false, apart := false }
def DefectsTellsSaid : Prop := defectsTellsRow.holds Tryz.pinned (OpenSpec.ofChange defectsTellsSpec)

/-- ITS FALSE NEIGHBOUR: 'it returns false'. Refute it at one input. -/
def defectsTellsWrong : ChangeSpec := { name := "defectsTells", fn := fun _ => fun
  | [d1, d2, d3] => { results := [.lit (.bool false)], args := [d1, d2, d3] }
  | _ => none }
def DefectsTellsWrongFalsely : Prop := defectsTellsRow.holds Tryz.pinned (OpenSpec.ofChange defectsTellsWrong)

/-- 'parquetlaw15.DefectsSight': WHATEVER THE INPUT: true; the input reads as it did. -/
def defectsSightSpec : ChangeSpec := { name := "defectsSight", fn := fun _ => fun
  | [d] => { results := [.lit (.bool true)], args := [d] }
  | _ => none }
def defectsSightRow : OpenClaim := { program := "ytkgagdjogedoiaagreat", sum := "b289270540ee6047748b542e493b030989c73dfda85987f5f8396f41e3570dbc", func := "parquet/parquetlaw15.DefectsSight", spec := "defectsSight", inPlace := ["math/bits.Add64", "math/bits.Sub64"], unfollowed := true, recurses := true, plainKeys := false, apart := false }
def DefectsSightSaid : Prop := defectsSightRow.holds Tryz.pinned (OpenSpec.ofChange defectsSightSpec)

/-- ITS FALSE NEIGHBOUR: 'it returns false'. Refute it at one input. -/
def defectsSightWrong : ChangeSpec := { name := "defectsSight", fn := fun _ => fun
  | [d] => { results := [.lit (.bool false)], args := [d] }
  | _ => none }
def DefectsSightWrongFalsely : Prop := defectsSightRow.holds Tryz.pinned (OpenSpec.ofChange defectsSightWrong)

/-- 'parquetlaw15.DefectsWhole': WHATEVER THE INPUT: true; the input reads as it did. -/
def defectsWholeSpec : ChangeSpec := { name := "defectsWhole", fn := fun _ => fun
  | [d] => { results := [.lit (.bool true)], args := [d] }
  | _ => none }
def defectsWholeRow : OpenClaim := { program := "ytkgagdjogedoiaagreat", sum := "b289270540ee6047748b542e493b030989c73dfda85987f5f8396f41e3570dbc", func := "parquet/parquetlaw15.DefectsWhole", spec := "defectsWhole", inPlace := ["math/bits.Add64", "math/bits.Sub64"], unfollowed := true, recurses := true, plainKeys := false, apart := false }
def DefectsWholeSaid : Prop := defectsWholeRow.holds Tryz.pinned (OpenSpec.ofChange defectsWholeSpec)

/-- ITS FALSE NEIGHBOUR: 'it returns false'. Refute it at one input. -/
def defectsWholeWrong : ChangeSpec := { name := "defectsWhole", fn := fun _ => fun
  | [d] => { results := [.lit (.bool false)], args := [d] }
  | _ => none }
def DefectsWholeWrongFalsely : Prop := defectsWholeRow.holds Tryz.pinned (OpenSpec.ofChange defectsWholeWrong)

/- THE SECOND FORM. 'bulk': how many values and letters a reading holds, each counted each time it is reached (what is shared counts as often as it is met; a slice's spare places count too). A statement '..UptoSaid' is the law's where the arguments, and the package variables that the reading takes, are together of bulk at most 1048576: NARROWER than '..Said'. Prove '..Said' where nothing that the law and all that it calls make is longer than what came in: it says more and counts as full. Else prove '..UptoSaid'. A law counts once. -/
mutual
def uptoBulk {H : Type} : DataW H → Nat
  | .lit (.string bytes) => bytes.length + 1
  | .lit _ => 1
  | .nil => 1
  | .ptr d => uptoBulk d + 1
  | .slice elems spare => uptoBulkAll elems + uptoBulkAll spare + 1
  | .agg parts => uptoBulkAll parts + 1
  | .iface _ d => uptoBulk d + 1
  | .map entries => uptoBulkEntries entries + 1
  | .held _ => 1
def uptoBulkAll {H : Type} : List (DataW H) → Nat
  | [] => 0
  | d :: r => uptoBulk d + uptoBulkAll r
def uptoBulkEntries {H : Type} : List (Lit × DataW H) → Nat
  | [] => 0
  | x :: r => uptoBulkEntry x + uptoBulkEntries r
def uptoBulkEntry {H : Type} : Lit × DataW H → Nat
  | (.string bytes, d) => bytes.length + uptoBulk d + 1
  | (_, d) => uptoBulk d + 1
 end
def uptoSmall : (H : Type) → List (DataW H) → Bool := fun _ ds => decide (uptoBulkAll ds ≤ 1048576)
def OpenSpec.upto (s : _root_.Go.ChangeSpec) : _root_.Go.OpenSpec := { _root_.Go.OpenSpec.ofChange s with cond := some uptoSmall }

/-- 'parquetlaw15.DefectsTells', WHERE WHAT IT READS IS OF BULK AT MOST 1048576: true; the input reads as it did. -/
def defectsTellsUptoRow : OpenClaim := { program := "ytkgagdjogedoiaagreat", sum := "b289270540ee6047748b542e493b030989c73dfda85987f5f8396f41e3570dbc", func := "parquet/parquetlaw15.DefectsTells", spec := "defectsTells", inPlace := ["math/bits.Add64", "math/bits.Sub64"], unfollowed := true, recurses := true, plainKeys := false, apart := false, narrowed := true }
def DefectsTellsUptoSaid : Prop := defectsTellsUptoRow.holds Tryz.pinned (OpenSpec.upto defectsTellsSpec)

/-- 'parquetlaw15.DefectsSight', WHERE WHAT IT READS IS OF BULK AT MOST 1048576: true; the input reads as it did. -/
def defectsSightUptoRow : OpenClaim := { program := "ytkgagdjogedoiaagreat", sum := "b289270540ee6047748b542e493b030989c73dfda85987f5f8396f41e3570dbc", func := "parquet/parquetlaw15.DefectsSight", spec := "defectsSight", inPlace := ["math/bits.Add64", "math/bits.Sub64"], unfollowed := true, recurses := true, plainKeys := false, apart := false, narrowed := true }
def DefectsSightUptoSaid : Prop := defectsSightUptoRow.holds Tryz.pinned (OpenSpec.upto defectsSightSpec)

/-- 'parquetlaw15.DefectsWhole', WHERE WHAT IT READS IS OF BULK AT MOST 1048576: true; the input reads as it did. -/
def defectsWholeUptoRow : OpenClaim := { program := "ytkgagdjogedoiaagreat", sum := "b289270540ee6047748b542e493b030989c73dfda85987f5f8396f41e3570dbc", func := "parquet/parquetlaw15.DefectsWhole", spec := "defectsWhole", inPlace := ["math/bits.Add64", "math/bits.Sub64"], unfollowed := true, recurses := true, plainKeys := false, apart := false, narrowed := true }
def DefectsWholeUptoSaid : Prop := defectsWholeUptoRow.holds Tryz.pinned (OpenSpec.upto defectsWholeSpec)

end Rows
end Go.Proofs.YtkgagdjogedoiaaGreat

/-
  No cell of these rows narrows 'for every input' (looked for: loops, veiled, ifaces, maps, wideKeys, modest, calm, conditions, laid).
  DERIVED. THE GIVEN ROWS OF THIS SEAT. 6 by the template 'for every input the law returns true; each argument reads behind the call as it read before'; 0 by the template 'total and deterministic' (their statements: YtbiafpklgkkoaaaTotals.lean).
  GIVEN WITH THE SEED: the statements are not yours to turn. If you find one false, say at which input.
  Laid BY PROGRAM, IN A SANDBOX (cutbox-rows.mjs): the forced cells as the released guide's own fill.sh prints them over the translation 6b67e25ebfe66771… (all of the seat's roots in one cut). By AI agents, Wed Nov 11 2026. No macro, syntax, notation, axiom, sorry.
-/
import Derived.Test.YtbiafpklgkkoaaaChecked
import GoSem.Claim
import GoSem.ClaimJoined
import GoSem.ClaimMapViews
import Derived.JoinedTies
import Derived.KernelRfl
namespace Go.Proofs.Ytbiafpklgkkoaaa
/- THE CELL 'sum', in the pinned program and in every row, IS THE sha256 OF THE DUMP (.gsa) THAT YtbiafpklgkkoaaaProg.lean LOADS. Nothing in Lean hashes anything: it is a label: what it is worth is what the hold of that sum in a sandbox is worth. -/
noncomputable def Try.pinned : Pinned := { name := "ytbiafpklgkkoaaa", sum := "6b67e25ebfe667715c7954f83f4aa3bafe47fd360a3ef922fbaac9bce094ad52", checked := Try.checked }
namespace Rows
def none {H : Type} : Left H := { results := [], args := [] }

/-- 'parquetlaw06.OptionsParses': WHATEVER THE INPUT: true; the input reads as it did. -/
def optionsParsesSpec : ChangeSpec := { name := "optionsParses", fn := fun _ => fun
  | [d] => { results := [.lit (.bool true)], args := [d] }
  | _ => none }
def optionsParsesRow : OpenClaim := { program := "ytbiafpklgkkoaaa", sum := "6b67e25ebfe667715c7954f83f4aa3bafe47fd360a3ef922fbaac9bce094ad52", func := "parquet/parquetlaw06.OptionsParses", spec := "optionsParses", unfollowed := true, recurses := true, apart := false }
def OptionsParsesSaid : Prop := optionsParsesRow.holds Try.pinned (OpenSpec.ofChange optionsParsesSpec)

/-- ITS FALSE NEIGHBOUR: 'it returns false'. Refute it at one input. -/
def optionsParsesWrong : ChangeSpec := { name := "optionsParses", fn := fun _ => fun
  | [d] => { results := [.lit (.bool false)], args := [d] }
  | _ => none }
def OptionsParsesWrongFalsely : Prop := optionsParsesRow.holds Try.pinned (OpenSpec.ofChange optionsParsesWrong)

/-- 'parquetlaw06.OptionsMakes': WHATEVER THE INPUT: true; the input reads as it did. -/
def optionsMakesSpec : ChangeSpec := { name := "optionsMakes", fn := fun _ => fun
  | [d] => { results := [.lit (.bool true)], args := [d] }
  | _ => none }
def optionsMakesRow : OpenClaim := { program := "ytbiafpklgkkoaaa", sum := "6b67e25ebfe667715c7954f83f4aa3bafe47fd360a3ef922fbaac9bce094ad52", func := "parquet/parquetlaw06.OptionsMakes", spec := "optionsMakes", unfollowed := true, recurses := true, apart := false }
def OptionsMakesSaid : Prop := optionsMakesRow.holds Try.pinned (OpenSpec.ofChange optionsMakesSpec)

/-- ITS FALSE NEIGHBOUR: 'it returns false'. Refute it at one input. -/
def optionsMakesWrong : ChangeSpec := { name := "optionsMakes", fn := fun _ => fun
  | [d] => { results := [.lit (.bool false)], args := [d] }
  | _ => none }
def OptionsMakesWrongFalsely : Prop := optionsMakesRow.holds Try.pinned (OpenSpec.ofChange optionsMakesWrong)

/-- 'parquetlaw06.OptionsHurt': WHATEVER THE INPUT: true; the input reads as it did. -/
def optionsHurtSpec : ChangeSpec := { name := "optionsHurt", fn := fun _ => fun
  | [d1, d2] => { results := [.lit (.bool true)], args := [d1, d2] }
  | _ => none }
def optionsHurtRow : OpenClaim := { program := "ytbiafpklgkkoaaa", sum := "6b67e25ebfe667715c7954f83f4aa3bafe47fd360a3ef922fbaac9bce094ad52", func := "parquet/parquetlaw06.OptionsHurt", spec := "optionsHurt", unfollowed := true, recurses := true, apart := false }
def OptionsHurtSaid : Prop := optionsHurtRow.holds Try.pinned (OpenSpec.ofChange optionsHurtSpec)

/-- ITS FALSE NEIGHBOUR: 'it returns false'. Refute it at one input. -/
def optionsHurtWrong : ChangeSpec := { name := "optionsHurt", fn := fun _ => fun
  | [d1, d2] => { results := [.lit (.bool false)], args := [d1, d2] }
  | _ => none }
def OptionsHurtWrongFalsely : Prop := optionsHurtRow.holds Try.pinned (OpenSpec.ofChange optionsHurtWrong)

/-- 'parquetlaw06.OptionsPrints': WHATEVER THE INPUT: true; the input reads as it did. -/
def optionsPrintsSpec : ChangeSpec := { name := "optionsPrints", fn := fun _ => fun
  | [d] => { results := [.lit (.bool true)], args := [d] }
  | _ => none }
def optionsPrintsRow : OpenClaim := { program := "ytbiafpklgkkoaaa", sum := "6b67e25ebfe667715c7954f83f4aa3bafe47fd360a3ef922fbaac9bce094ad52", func := "parquet/parquetlaw06.OptionsPrints", spec := "optionsPrints", unfollowed := true, recurses := true, apart := false }
def OptionsPrintsSaid : Prop := optionsPrintsRow.holds Try.pinned (OpenSpec.ofChange optionsPrintsSpec)

/-- ITS FALSE NEIGHBOUR: 'it returns false'. Refute it at one input. -/
def optionsPrintsWrong : ChangeSpec := { name := "optionsPrints", fn := fun _ => fun
  | [d] => { results := [.lit (.bool false)], args := [d] }
  | _ => none }
def OptionsPrintsWrongFalsely : Prop := optionsPrintsRow.holds Try.pinned (OpenSpec.ofChange optionsPrintsWrong)

/-- 'parquetlaw06.OptionsOrder': WHATEVER THE INPUT: true; the input reads as it did. -/
def optionsOrderSpec : ChangeSpec := { name := "optionsOrder", fn := fun _ => fun
  | [d1, d2] => { results := [.lit (.bool true)], args := [d1, d2] }
  | _ => none }
def optionsOrderRow : OpenClaim := { program := "ytbiafpklgkkoaaa", sum := "6b67e25ebfe667715c7954f83f4aa3bafe47fd360a3ef922fbaac9bce094ad52", func := "parquet/parquetlaw06.OptionsOrder", spec := "optionsOrder", unfollowed := true, recurses := true, apart := false }
def OptionsOrderSaid : Prop := optionsOrderRow.holds Try.pinned (OpenSpec.ofChange optionsOrderSpec)

/-- ITS FALSE NEIGHBOUR: 'it returns false'. Refute it at one input. -/
def optionsOrderWrong : ChangeSpec := { name := "optionsOrder", fn := fun _ => fun
  | [d1, d2] => { results := [.lit (.bool false)], args := [d1, d2] }
  | _ => none }
def OptionsOrderWrongFalsely : Prop := optionsOrderRow.holds Try.pinned (OpenSpec.ofChange optionsOrderWrong)

/-- 'parquetlaw06.OptionsApart': WHATEVER THE INPUT: true; the input reads as it did. -/
def optionsApartSpec : ChangeSpec := { name := "optionsApart", fn := fun _ => fun
  | [d1, d2, d3] => { results := [.lit (.bool true)], args := [d1, d2, d3] }
  | _ => none }
def optionsApartRow : OpenClaim := { program := "ytbiafpklgkkoaaa", sum := "6b67e25ebfe667715c7954f83f4aa3bafe47fd360a3ef922fbaac9bce094ad52", func := "parquet/parquetlaw06.OptionsApart", spec := "optionsApart", unfollowed := true, recurses := true, apart := false }
def OptionsApartSaid : Prop := optionsApartRow.holds Try.pinned (OpenSpec.ofChange optionsApartSpec)

/-- ITS FALSE NEIGHBOUR: 'it returns false'. Refute it at one input. -/
def optionsApartWrong : ChangeSpec := { name := "optionsApart", fn := fun _ => fun
  | [d1, d2, d3] => { results := [.lit (.bool false)], args := [d1, d2, d3] }
  | _ => none }
def OptionsApartWrongFalsely : Prop := optionsApartRow.holds Try.pinned (OpenSpec.ofChange optionsApartWrong)

/- THE SECOND FORM. 'bulk': how many values and letters a reading holds, each counted each time it is reached (what is shared counts as often as it is met; a slice's spare places count too). A statement '..UptoSaid' is the law's where the arguments, and the package variables that the reading takes, are together of bulk at most 1048576: NARROWER than '..Said'. Prove '..Said' where nothing that the law and all that it calls make is longer than what came in: it says more and counts as full. Else prove '..UptoSaid'. A law counts once. -/
mutual
def uptoBulk {H : Type} : DataW H → Nat
  | .lit (.string bytes) => bytes.length + 1
  | .lit _ => 1
  | .nil => 1
  | .ptr d => uptoBulk d + 1
  | .slice elems spare => uptoBulkAll elems + uptoBulkAll spare + 1
  | .agg parts => uptoBulkAll parts + 1
  | .iface _ d => uptoBulk d + 1
  | .map entries => uptoBulkEntries entries + 1
  | .held _ => 1
def uptoBulkAll {H : Type} : List (DataW H) → Nat
  | [] => 0
  | d :: r => uptoBulk d + uptoBulkAll r
def uptoBulkEntries {H : Type} : List (Lit × DataW H) → Nat
  | [] => 0
  | x :: r => uptoBulkEntry x + uptoBulkEntries r
def uptoBulkEntry {H : Type} : Lit × DataW H → Nat
  | (.string bytes, d) => bytes.length + uptoBulk d + 1
  | (_, d) => uptoBulk d + 1
 end
def uptoSmall : (H : Type) → List (DataW H) → Bool := fun _ ds => decide (uptoBulkAll ds ≤ 1048576)
def OpenSpec.upto (s : _root_.Go.ChangeSpec) : _root_.Go.OpenSpec := { _root_.Go.OpenSpec.ofChange s with cond := some uptoSmall }

/-- 'parquetlaw06.OptionsParses', WHERE WHAT IT READS IS OF BULK AT MOST 1048576: true; the input reads as it did. -/
def optionsParsesUptoRow : OpenClaim := { program := "ytbiafpklgkkoaaa", sum := "6b67e25ebfe667715c7954f83f4aa3bafe47fd360a3ef922fbaac9bce094ad52", func := "parquet/parquetlaw06.OptionsParses", spec := "optionsParses", unfollowed := true, recurses := true, apart := false, narrowed := true }
def OptionsParsesUptoSaid : Prop := optionsParsesUptoRow.holds Try.pinned (OpenSpec.upto optionsParsesSpec)

/-- 'parquetlaw06.OptionsMakes', WHERE WHAT IT READS IS OF BULK AT MOST 1048576: true; the input reads as it did. -/
def optionsMakesUptoRow : OpenClaim := { program := "ytbiafpklgkkoaaa", sum := "6b67e25ebfe667715c7954f83f4aa3bafe47fd360a3ef922fbaac9bce094ad52", func := "parquet/parquetlaw06.OptionsMakes", spec := "optionsMakes", unfollowed := true, recurses := true, apart := false, narrowed := true }
def OptionsMakesUptoSaid : Prop := optionsMakesUptoRow.holds Try.pinned (OpenSpec.upto optionsMakesSpec)

/-- 'parquetlaw06.OptionsHurt', WHERE WHAT IT READS IS OF BULK AT MOST 1048576: true; the input reads as it did. -/
def optionsHurtUptoRow : OpenClaim := { program := "ytbiafpklgkkoaaa", sum := "6b67e25ebfe667715c7954f83f4aa3bafe47fd360a3ef922fbaac9bce094ad52", func := "parquet/parquetlaw06.OptionsHurt", spec := "optionsHurt", unfollowed := true, recurses := true, apart := false, narrowed := true }
def OptionsHurtUptoSaid : Prop := optionsHurtUptoRow.holds Try.pinned (OpenSpec.upto optionsHurtSpec)

/-- 'parquetlaw06.OptionsPrints', WHERE WHAT IT READS IS OF BULK AT MOST 1048576: true; the input reads as it did. -/
def optionsPrintsUptoRow : OpenClaim := { program := "ytbiafpklgkkoaaa", sum := "6b67e25ebfe667715c7954f83f4aa3bafe47fd360a3ef922fbaac9bce094ad52", func := "parquet/parquetlaw06.OptionsPrints", spec := "optionsPrints", unfollowed := true, recurses := true, apart := false, narrowed := true }
def OptionsPrintsUptoSaid : Prop := optionsPrintsUptoRow.holds Try.pinned (OpenSpec.upto optionsPrintsSpec)

/-- 'parquetlaw06.OptionsOrder', WHERE WHAT IT READS IS OF BULK AT MOST 1048576: true; the input reads as it did. -/
def optionsOrderUptoRow : OpenClaim := { program := "ytbiafpklgkkoaaa", sum := "6b67e25ebfe667715c7954f83f4aa3bafe47fd360a3ef922fbaac9bce094ad52", func := "parquet/parquetlaw06.OptionsOrder", spec := "optionsOrder", unfollowed := true, recurses := true, apart := false, narrowed := true }
def OptionsOrderUptoSaid : Prop := optionsOrderUptoRow.holds Try.pinned (OpenSpec.upto optionsOrderSpec)

/-- 'parquetlaw06.OptionsApart', WHERE WHAT IT READS IS OF BULK AT MOST 1048576: true; the input reads as it did. -/
def optionsApartUptoRow : OpenClaim := { program := "ytbiafpklgkkoaaa", sum := "6b67e25ebfe667715c7954f83f4aa3bafe47fd360a3ef922fbaac9bce094ad52", func := "parquet/parquetlaw06.OptionsApart", spec := "optionsApart", unfollowed := true, recurses := true, apart := false, narrowed := true }
def OptionsApartUptoSaid : Prop := optionsApartUptoRow.holds Try.pinned (OpenSpec.upto optionsApartSpec)

end Rows
end Go.Proofs.Ytbiafpklgkkoaaa

/-
  No cell of these rows narrows 'for every input' (looked for: loops, veiled, ifaces, maps, wideKeys, modest, calm, conditions, laid).
  DERIVED. THE GIVEN ROWS OF THIS SEAT. 17 by the template 'for every input the law returns true; each argument reads behind the call as it read before'; 0 by the template 'total and deterministic' (their statements: YtmpbbodafenonaaTotals.lean).
  GIVEN WITH THE SEED: the statements are not yours to turn. If you find one false, say at which input.
  Laid BY PROGRAM, IN A SANDBOX (cutbox-rows.mjs): the forced cells as the released guide's own fill.sh prints them over the translation 0ce919b33c87c86e… (all of the seat's roots in one cut). By AI agents, Wed Nov 11 2026. No macro, syntax, notation, axiom, sorry.
-/
import Derived.Test.YtmpbbodafenonaaChecked
import GoSem.Claim
import GoSem.ClaimJoined
import GoSem.ClaimMapViews
import Derived.JoinedTies
import Derived.KernelRfl
namespace Go.Proofs.Ytmpbbodafenonaa
/- THE CELL 'sum', in the pinned program and in every row, IS THE sha256 OF THE DUMP (.gsa) THAT YtmpbbodafenonaaProg.lean LOADS. Nothing in Lean hashes anything: it is a label: what it is worth is what the hold of that sum in a sandbox is worth. -/
noncomputable def Try.pinned : Pinned := { name := "ytmpbbodafenonaa", sum := "0ce919b33c87c86eb82a85d7966776d9db0381fce9175f98ecd441d507a067c7", checked := Try.checked }
namespace Rows
def none {H : Type} : Left H := { results := [], args := [] }

/-- 'parquetlaw01.WideMuls': WHATEVER THE INPUT: true; the input reads as it did. -/
def wideMulsSpec : ChangeSpec := { name := "wideMuls", fn := fun _ => fun
  | [d] => { results := [.lit (.bool true)], args := [d] }
  | _ => none }
def wideMulsRow : OpenClaim := { program := "ytmpbbodafenonaa", sum := "0ce919b33c87c86eb82a85d7966776d9db0381fce9175f98ecd441d507a067c7", func := "parquet/parquetlaw01.WideMuls", spec := "wideMuls", inPlace := ["math/bits.Add64", "math/bits.Sub64"], apart := false }
def WideMulsSaid : Prop := wideMulsRow.holds Try.pinned (OpenSpec.ofChange wideMulsSpec)

/-- ITS FALSE NEIGHBOUR: 'it returns false'. Refute it at one input. -/
def wideMulsWrong : ChangeSpec := { name := "wideMuls", fn := fun _ => fun
  | [d] => { results := [.lit (.bool false)], args := [d] }
  | _ => none }
def WideMulsWrongFalsely : Prop := wideMulsRow.holds Try.pinned (OpenSpec.ofChange wideMulsWrong)

/-- 'parquetlaw01.WideDivs': WHATEVER THE INPUT: true; the input reads as it did. -/
def wideDivsSpec : ChangeSpec := { name := "wideDivs", fn := fun _ => fun
  | [d1, d2] => { results := [.lit (.bool true)], args := [d1, d2] }
  | _ => none }
def wideDivsRow : OpenClaim := { program := "ytmpbbodafenonaa", sum := "0ce919b33c87c86eb82a85d7966776d9db0381fce9175f98ecd441d507a067c7", func := "parquet/parquetlaw01.WideDivs", spec := "wideDivs", inPlace := ["math/bits.Sub64", "math/bits.Add64"], apart := false }
def WideDivsSaid : Prop := wideDivsRow.holds Try.pinned (OpenSpec.ofChange wideDivsSpec)

/-- ITS FALSE NEIGHBOUR: 'it returns false'. Refute it at one input. -/
def wideDivsWrong : ChangeSpec := { name := "wideDivs", fn := fun _ => fun
  | [d1, d2] => { results := [.lit (.bool false)], args := [d1, d2] }
  | _ => none }
def WideDivsWrongFalsely : Prop := wideDivsRow.holds Try.pinned (OpenSpec.ofChange wideDivsWrong)

/-- 'parquetlaw01.WideTexts': WHATEVER THE INPUT: true; the input reads as it did. -/
def wideTextsSpec : ChangeSpec := { name := "wideTexts", fn := fun _ => fun
  | [d1, d2] => { results := [.lit (.bool true)], args := [d1, d2] }
  | _ => none }
def wideTextsRow : OpenClaim := { program := "ytmpbbodafenonaa", sum := "0ce919b33c87c86eb82a85d7966776d9db0381fce9175f98ecd441d507a067c7", func := "parquet/parquetlaw01.WideTexts", spec := "wideTexts", inPlace := ["math/bits.Add64", "math/bits.Sub64"], apart := false }
def WideTextsSaid : Prop := wideTextsRow.holds Try.pinned (OpenSpec.ofChange wideTextsSpec)

/-- ITS FALSE NEIGHBOUR: 'it returns false'. Refute it at one input. -/
def wideTextsWrong : ChangeSpec := { name := "wideTexts", fn := fun _ => fun
  | [d1, d2] => { results := [.lit (.bool false)], args := [d1, d2] }
  | _ => none }
def WideTextsWrongFalsely : Prop := wideTextsRow.holds Try.pinned (OpenSpec.ofChange wideTextsWrong)

/-- 'parquetlaw01.WideAdds': WHATEVER THE INPUT: true; the input reads as it did. -/
def wideAddsSpec : ChangeSpec := { name := "wideAdds", fn := fun _ => fun
  | [d1, d2, d3] => { results := [.lit (.bool true)], args := [d1, d2, d3] }
  | _ => none }
def wideAddsRow : OpenClaim := { program := "ytmpbbodafenonaa", sum := "0ce919b33c87c86eb82a85d7966776d9db0381fce9175f98ecd441d507a067c7", func := "parquet/parquetlaw01.WideAdds", spec := "wideAdds", inPlace := ["math/bits.Add64", "math/bits.Sub64"], apart := false }
def WideAddsSaid : Prop := wideAddsRow.holds Try.pinned (OpenSpec.ofChange wideAddsSpec)

/-- ITS FALSE NEIGHBOUR: 'it returns false'. Refute it at one input. -/
def wideAddsWrong : ChangeSpec := { name := "wideAdds", fn := fun _ => fun
  | [d1, d2, d3] => { results := [.lit (.bool false)], args := [d1, d2, d3] }
  | _ => none }
def WideAddsWrongFalsely : Prop := wideAddsRow.holds Try.pinned (OpenSpec.ofChange wideAddsWrong)

/-- 'parquetlaw01.WideOrder': WHATEVER THE INPUT: true; the input reads as it did. -/
def wideOrderSpec : ChangeSpec := { name := "wideOrder", fn := fun _ => fun
  | [d1, d2, d3] => { results := [.lit (.bool true)], args := [d1, d2, d3] }
  | _ => none }
def wideOrderRow : OpenClaim := { program := "ytmpbbodafenonaa", sum := "0ce919b33c87c86eb82a85d7966776d9db0381fce9175f98ecd441d507a067c7", func := "parquet/parquetlaw01.WideOrder", spec := "wideOrder", inPlace := ["math/bits.Add64", "math/bits.Sub64"], apart := false }
def WideOrderSaid : Prop := wideOrderRow.holds Try.pinned (OpenSpec.ofChange wideOrderSpec)

/-- ITS FALSE NEIGHBOUR: 'it returns false'. Refute it at one input. -/
def wideOrderWrong : ChangeSpec := { name := "wideOrder", fn := fun _ => fun
  | [d1, d2, d3] => { results := [.lit (.bool false)], args := [d1, d2, d3] }
  | _ => none }
def WideOrderWrongFalsely : Prop := wideOrderRow.holds Try.pinned (OpenSpec.ofChange wideOrderWrong)

/-- 'parquetlaw01.WideEdges': WHATEVER THE INPUT: true; the input reads as it did. -/
def wideEdgesSpec : ChangeSpec := { name := "wideEdges", fn := fun _ => fun
  | [d] => { results := [.lit (.bool true)], args := [d] }
  | _ => none }
def wideEdgesRow : OpenClaim := { program := "ytmpbbodafenonaa", sum := "0ce919b33c87c86eb82a85d7966776d9db0381fce9175f98ecd441d507a067c7", func := "parquet/parquetlaw01.WideEdges", spec := "wideEdges", inPlace := ["math/bits.Add64", "math/bits.Sub64"], apart := false }
def WideEdgesSaid : Prop := wideEdgesRow.holds Try.pinned (OpenSpec.ofChange wideEdgesSpec)

/-- ITS FALSE NEIGHBOUR: 'it returns false'. Refute it at one input. -/
def wideEdgesWrong : ChangeSpec := { name := "wideEdges", fn := fun _ => fun
  | [d] => { results := [.lit (.bool false)], args := [d] }
  | _ => none }
def WideEdgesWrongFalsely : Prop := wideEdgesRow.holds Try.pinned (OpenSpec.ofChange wideEdgesWrong)

/-- 'parquetlaw01.WideCmps': WHATEVER THE INPUT: true; the input reads as it did. -/
def wideCmpsSpec : ChangeSpec := { name := "wideCmps", fn := fun _ => fun
  | [d1, d2] => { results := [.lit (.bool true)], args := [d1, d2] }
  | _ => none }
def wideCmpsRow : OpenClaim := { program := "ytmpbbodafenonaa", sum := "0ce919b33c87c86eb82a85d7966776d9db0381fce9175f98ecd441d507a067c7", func := "parquet/parquetlaw01.WideCmps", spec := "wideCmps", inPlace := ["math/bits.Add64", "math/bits.Sub64"], apart := false }
def WideCmpsSaid : Prop := wideCmpsRow.holds Try.pinned (OpenSpec.ofChange wideCmpsSpec)

/-- ITS FALSE NEIGHBOUR: 'it returns false'. Refute it at one input. -/
def wideCmpsWrong : ChangeSpec := { name := "wideCmps", fn := fun _ => fun
  | [d1, d2] => { results := [.lit (.bool false)], args := [d1, d2] }
  | _ => none }
def WideCmpsWrongFalsely : Prop := wideCmpsRow.holds Try.pinned (OpenSpec.ofChange wideCmpsWrong)

/-- 'parquetlaw01.WideOnes': WHATEVER THE INPUT: true; the input reads as it did. -/
def wideOnesSpec : ChangeSpec := { name := "wideOnes", fn := fun _ => fun
  | [d1, d2] => { results := [.lit (.bool true)], args := [d1, d2] }
  | _ => none }
def wideOnesRow : OpenClaim := { program := "ytmpbbodafenonaa", sum := "0ce919b33c87c86eb82a85d7966776d9db0381fce9175f98ecd441d507a067c7", func := "parquet/parquetlaw01.WideOnes", spec := "wideOnes", inPlace := ["math/bits.Sub64", "math/bits.Add64"], apart := false }
def WideOnesSaid : Prop := wideOnesRow.holds Try.pinned (OpenSpec.ofChange wideOnesSpec)

/-- ITS FALSE NEIGHBOUR: 'it returns false'. Refute it at one input. -/
def wideOnesWrong : ChangeSpec := { name := "wideOnes", fn := fun _ => fun
  | [d1, d2] => { results := [.lit (.bool false)], args := [d1, d2] }
  | _ => none }
def WideOnesWrongFalsely : Prop := wideOnesRow.holds Try.pinned (OpenSpec.ofChange wideOnesWrong)

/-- 'parquetlaw03.PredOrients': WHATEVER THE INPUT: true; the input reads as it did. -/
def predOrientsSpec : ChangeSpec := { name := "predOrients", fn := fun _ => fun
  | [d1, d2, d3] => { results := [.lit (.bool true)], args := [d1, d2, d3] }
  | _ => none }
def predOrientsRow : OpenClaim := { program := "ytmpbbodafenonaa", sum := "0ce919b33c87c86eb82a85d7966776d9db0381fce9175f98ecd441d507a067c7", func := "parquet/parquetlaw03.PredOrients", spec := "predOrients", inPlace := ["math/bits.Add64", "math/bits.Sub64"], apart := false }
def PredOrientsSaid : Prop := predOrientsRow.holds Try.pinned (OpenSpec.ofChange predOrientsSpec)

/-- ITS FALSE NEIGHBOUR: 'it returns false'. Refute it at one input. -/
def predOrientsWrong : ChangeSpec := { name := "predOrients", fn := fun _ => fun
  | [d1, d2, d3] => { results := [.lit (.bool false)], args := [d1, d2, d3] }
  | _ => none }
def PredOrientsWrongFalsely : Prop := predOrientsRow.holds Try.pinned (OpenSpec.ofChange predOrientsWrong)

/-- 'parquetlaw03.PredCircles': WHATEVER THE INPUT: true; the input reads as it did. -/
def predCirclesSpec : ChangeSpec := { name := "predCircles", fn := fun _ => fun
  | [d1, d2, d3, d4] => { results := [.lit (.bool true)], args := [d1, d2, d3, d4] }
  | _ => none }
def predCirclesRow : OpenClaim := { program := "ytmpbbodafenonaa", sum := "0ce919b33c87c86eb82a85d7966776d9db0381fce9175f98ecd441d507a067c7", func := "parquet/parquetlaw03.PredCircles", spec := "predCircles", inPlace := ["math/bits.Add64", "math/bits.Sub64"], apart := false }
def PredCirclesSaid : Prop := predCirclesRow.holds Try.pinned (OpenSpec.ofChange predCirclesSpec)

/-- ITS FALSE NEIGHBOUR: 'it returns false'. Refute it at one input. -/
def predCirclesWrong : ChangeSpec := { name := "predCircles", fn := fun _ => fun
  | [d1, d2, d3, d4] => { results := [.lit (.bool false)], args := [d1, d2, d3, d4] }
  | _ => none }
def PredCirclesWrongFalsely : Prop := predCirclesRow.holds Try.pinned (OpenSpec.ofChange predCirclesWrong)

/-- 'parquetlaw03.PredDiscs': WHATEVER THE INPUT: true; the input reads as it did. -/
def predDiscsSpec : ChangeSpec := { name := "predDiscs", fn := fun _ => fun
  | [d1, d2, d3] => { results := [.lit (.bool true)], args := [d1, d2, d3] }
  | _ => none }
def predDiscsRow : OpenClaim := { program := "ytmpbbodafenonaa", sum := "0ce919b33c87c86eb82a85d7966776d9db0381fce9175f98ecd441d507a067c7", func := "parquet/parquetlaw03.PredDiscs", spec := "predDiscs", inPlace := ["math/bits.Add64", "math/bits.Sub64"], apart := false }
def PredDiscsSaid : Prop := predDiscsRow.holds Try.pinned (OpenSpec.ofChange predDiscsSpec)

/-- ITS FALSE NEIGHBOUR: 'it returns false'. Refute it at one input. -/
def predDiscsWrong : ChangeSpec := { name := "predDiscs", fn := fun _ => fun
  | [d1, d2, d3] => { results := [.lit (.bool false)], args := [d1, d2, d3] }
  | _ => none }
def PredDiscsWrongFalsely : Prop := predDiscsRow.holds Try.pinned (OpenSpec.ofChange predDiscsWrong)

/-- 'parquetlaw03.PredConvexes': WHATEVER THE INPUT: true; the input reads as it did. -/
def predConvexesSpec : ChangeSpec := { name := "predConvexes", fn := fun _ => fun
  | [d1, d2] => { results := [.lit (.bool true)], args := [d1, d2] }
  | _ => none }
def predConvexesRow : OpenClaim := { program := "ytmpbbodafenonaa", sum := "0ce919b33c87c86eb82a85d7966776d9db0381fce9175f98ecd441d507a067c7", func := "parquet/parquetlaw03.PredConvexes", spec := "predConvexes", inPlace := ["math/bits.Add64", "math/bits.Sub64"], apart := false }
def PredConvexesSaid : Prop := predConvexesRow.holds Try.pinned (OpenSpec.ofChange predConvexesSpec)

/-- ITS FALSE NEIGHBOUR: 'it returns false'. Refute it at one input. -/
def predConvexesWrong : ChangeSpec := { name := "predConvexes", fn := fun _ => fun
  | [d1, d2] => { results := [.lit (.bool false)], args := [d1, d2] }
  | _ => none }
def PredConvexesWrongFalsely : Prop := predConvexesRow.holds Try.pinned (OpenSpec.ofChange predConvexesWrong)

/-- 'parquetlaw03.PredCentres': WHATEVER THE INPUT: true; the input reads as it did. -/
def predCentresSpec : ChangeSpec := { name := "predCentres", fn := fun _ => fun
  | [d1, d2, d3] => { results := [.lit (.bool true)], args := [d1, d2, d3] }
  | _ => none }
def predCentresRow : OpenClaim := { program := "ytmpbbodafenonaa", sum := "0ce919b33c87c86eb82a85d7966776d9db0381fce9175f98ecd441d507a067c7", func := "parquet/parquetlaw03.PredCentres", spec := "predCentres", inPlace := ["math/bits.Add64", "math/bits.Sub64"], apart := false }
def PredCentresSaid : Prop := predCentresRow.holds Try.pinned (OpenSpec.ofChange predCentresSpec)

/-- ITS FALSE NEIGHBOUR: 'it returns false'. Refute it at one input. -/
def predCentresWrong : ChangeSpec := { name := "predCentres", fn := fun _ => fun
  | [d1, d2, d3] => { results := [.lit (.bool false)], args := [d1, d2, d3] }
  | _ => none }
def PredCentresWrongFalsely : Prop := predCentresRow.holds Try.pinned (OpenSpec.ofChange predCentresWrong)

/-- 'parquetlaw03.PredMoved': WHATEVER THE INPUT: true; the input reads as it did. -/
def predMovedSpec : ChangeSpec := { name := "predMoved", fn := fun _ => fun
  | [d1, d2, d3, d4, d5] => { results := [.lit (.bool true)], args := [d1, d2, d3, d4, d5] }
  | _ => none }
def predMovedRow : OpenClaim := { program := "ytmpbbodafenonaa", sum := "0ce919b33c87c86eb82a85d7966776d9db0381fce9175f98ecd441d507a067c7", func := "parquet/parquetlaw03.PredMoved", spec := "predMoved", inPlace := ["math/bits.Add64", "math/bits.Sub64"], apart := false }
def PredMovedSaid : Prop := predMovedRow.holds Try.pinned (OpenSpec.ofChange predMovedSpec)

/-- ITS FALSE NEIGHBOUR: 'it returns false'. Refute it at one input. -/
def predMovedWrong : ChangeSpec := { name := "predMoved", fn := fun _ => fun
  | [d1, d2, d3, d4, d5] => { results := [.lit (.bool false)], args := [d1, d2, d3, d4, d5] }
  | _ => none }
def PredMovedWrongFalsely : Prop := predMovedRow.holds Try.pinned (OpenSpec.ofChange predMovedWrong)

/-- 'parquetlaw03.PredSkinny': WHATEVER THE INPUT: true; the input reads as it did. -/
def predSkinnySpec : ChangeSpec := { name := "predSkinny", fn := fun _ => fun
  | [d1, d2, d3] => { results := [.lit (.bool true)], args := [d1, d2, d3] }
  | _ => none }
def predSkinnyRow : OpenClaim := { program := "ytmpbbodafenonaa", sum := "0ce919b33c87c86eb82a85d7966776d9db0381fce9175f98ecd441d507a067c7", func := "parquet/parquetlaw03.PredSkinny", spec := "predSkinny", inPlace := ["math/bits.Add64", "math/bits.Sub64"], apart := false }
def PredSkinnySaid : Prop := predSkinnyRow.holds Try.pinned (OpenSpec.ofChange predSkinnySpec)

/-- ITS FALSE NEIGHBOUR: 'it returns false'. Refute it at one input. -/
def predSkinnyWrong : ChangeSpec := { name := "predSkinny", fn := fun _ => fun
  | [d1, d2, d3] => { results := [.lit (.bool false)], args := [d1, d2, d3] }
  | _ => none }
def PredSkinnyWrongFalsely : Prop := predSkinnyRow.holds Try.pinned (OpenSpec.ofChange predSkinnyWrong)

/-- 'parquetlaw03.PredTells': WHATEVER THE INPUT: true; the input reads as it did. -/
def predTellsSpec : ChangeSpec := { name := "predTells", fn := fun _ => fun
  | [d1, d2, d3] => { results := [.lit (.bool true)], args := [d1, d2, d3] }
  | _ => none }
def predTellsRow : OpenClaim := { program := "ytmpbbodafenonaa", sum := "0ce919b33c87c86eb82a85d7966776d9db0381fce9175f98ecd441d507a067c7", func := "parquet/parquetlaw03.PredTells", spec := "predTells", inPlace := ["math/bits.Add64", "math/bits.Sub64"], apart := false }
def PredTellsSaid : Prop := predTellsRow.holds Try.pinned (OpenSpec.ofChange predTellsSpec)

/-- ITS FALSE NEIGHBOUR: 'it returns false'. Refute it at one input. -/
def predTellsWrong : ChangeSpec := { name := "predTells", fn := fun _ => fun
  | [d1, d2, d3] => { results := [.lit (.bool false)], args := [d1, d2, d3] }
  | _ => none }
def PredTellsWrongFalsely : Prop := predTellsRow.holds Try.pinned (OpenSpec.ofChange predTellsWrong)

/-- 'parquetlaw03.PredRight': WHATEVER THE INPUT: true; the input reads as it did. -/
def predRightSpec : ChangeSpec := { name := "predRight", fn := fun _ => fun
  | [d1, d2, d3] => { results := [.lit (.bool true)], args := [d1, d2, d3] }
  | _ => none }
def predRightRow : OpenClaim := { program := "ytmpbbodafenonaa", sum := "0ce919b33c87c86eb82a85d7966776d9db0381fce9175f98ecd441d507a067c7", func := "parquet/parquetlaw03.PredRight", spec := "predRight", inPlace := ["math/bits.Add64", "math/bits.Sub64"], apart := false }
def PredRightSaid : Prop := predRightRow.holds Try.pinned (OpenSpec.ofChange predRightSpec)

/-- ITS FALSE NEIGHBOUR: 'it returns false'. Refute it at one input. -/
def predRightWrong : ChangeSpec := { name := "predRight", fn := fun _ => fun
  | [d1, d2, d3] => { results := [.lit (.bool false)], args := [d1, d2, d3] }
  | _ => none }
def PredRightWrongFalsely : Prop := predRightRow.holds Try.pinned (OpenSpec.ofChange predRightWrong)

/- THE SECOND FORM. 'bulk': how many values and letters a reading holds, each counted each time it is reached (what is shared counts as often as it is met; a slice's spare places count too). A statement '..UptoSaid' is the law's where the arguments, and the package variables that the reading takes, are together of bulk at most 1048576: NARROWER than '..Said'. Prove '..Said' where nothing that the law and all that it calls make is longer than what came in: it says more and counts as full. Else prove '..UptoSaid'. A law counts once. -/
mutual
def uptoBulk {H : Type} : DataW H → Nat
  | .lit (.string bytes) => bytes.length + 1
  | .lit _ => 1
  | .nil => 1
  | .ptr d => uptoBulk d + 1
  | .slice elems spare => uptoBulkAll elems + uptoBulkAll spare + 1
  | .agg parts => uptoBulkAll parts + 1
  | .iface _ d => uptoBulk d + 1
  | .map entries => uptoBulkEntries entries + 1
  | .held _ => 1
def uptoBulkAll {H : Type} : List (DataW H) → Nat
  | [] => 0
  | d :: r => uptoBulk d + uptoBulkAll r
def uptoBulkEntries {H : Type} : List (Lit × DataW H) → Nat
  | [] => 0
  | x :: r => uptoBulkEntry x + uptoBulkEntries r
def uptoBulkEntry {H : Type} : Lit × DataW H → Nat
  | (.string bytes, d) => bytes.length + uptoBulk d + 1
  | (_, d) => uptoBulk d + 1
 end
def uptoSmall : (H : Type) → List (DataW H) → Bool := fun _ ds => decide (uptoBulkAll ds ≤ 1048576)
def OpenSpec.upto (s : _root_.Go.ChangeSpec) : _root_.Go.OpenSpec := { _root_.Go.OpenSpec.ofChange s with cond := some uptoSmall }

/-- 'parquetlaw01.WideMuls', WHERE WHAT IT READS IS OF BULK AT MOST 1048576: true; the input reads as it did. -/
def wideMulsUptoRow : OpenClaim := { program := "ytmpbbodafenonaa", sum := "0ce919b33c87c86eb82a85d7966776d9db0381fce9175f98ecd441d507a067c7", func := "parquet/parquetlaw01.WideMuls", spec := "wideMuls", inPlace := ["math/bits.Add64", "math/bits.Sub64"], apart := false, narrowed := true }
def WideMulsUptoSaid : Prop := wideMulsUptoRow.holds Try.pinned (OpenSpec.upto wideMulsSpec)

/-- 'parquetlaw01.WideDivs', WHERE WHAT IT READS IS OF BULK AT MOST 1048576: true; the input reads as it did. -/
def wideDivsUptoRow : OpenClaim := { program := "ytmpbbodafenonaa", sum := "0ce919b33c87c86eb82a85d7966776d9db0381fce9175f98ecd441d507a067c7", func := "parquet/parquetlaw01.WideDivs", spec := "wideDivs", inPlace := ["math/bits.Sub64", "math/bits.Add64"], apart := false, narrowed := true }
def WideDivsUptoSaid : Prop := wideDivsUptoRow.holds Try.pinned (OpenSpec.upto wideDivsSpec)

/-- 'parquetlaw01.WideTexts', WHERE WHAT IT READS IS OF BULK AT MOST 1048576: true; the input reads as it did. -/
def wideTextsUptoRow : OpenClaim := { program := "ytmpbbodafenonaa", sum := "0ce919b33c87c86eb82a85d7966776d9db0381fce9175f98ecd441d507a067c7", func := "parquet/parquetlaw01.WideTexts", spec := "wideTexts", inPlace := ["math/bits.Add64", "math/bits.Sub64"], apart := false, narrowed := true }
def WideTextsUptoSaid : Prop := wideTextsUptoRow.holds Try.pinned (OpenSpec.upto wideTextsSpec)

/-- 'parquetlaw01.WideAdds', WHERE WHAT IT READS IS OF BULK AT MOST 1048576: true; the input reads as it did. -/
def wideAddsUptoRow : OpenClaim := { program := "ytmpbbodafenonaa", sum := "0ce919b33c87c86eb82a85d7966776d9db0381fce9175f98ecd441d507a067c7", func := "parquet/parquetlaw01.WideAdds", spec := "wideAdds", inPlace := ["math/bits.Add64", "math/bits.Sub64"], apart := false, narrowed := true }
def WideAddsUptoSaid : Prop := wideAddsUptoRow.holds Try.pinned (OpenSpec.upto wideAddsSpec)

/-- 'parquetlaw01.WideOrder', WHERE WHAT IT READS IS OF BULK AT MOST 1048576: true; the input reads as it did. -/
def wideOrderUptoRow : OpenClaim := { program := "ytmpbbodafenonaa", sum := "0ce919b33c87c86eb82a85d7966776d9db0381fce9175f98ecd441d507a067c7", func := "parquet/parquetlaw01.WideOrder", spec := "wideOrder", inPlace := ["math/bits.Add64", "math/bits.Sub64"], apart := false, narrowed := true }
def WideOrderUptoSaid : Prop := wideOrderUptoRow.holds Try.pinned (OpenSpec.upto wideOrderSpec)

/-- 'parquetlaw01.WideEdges', WHERE WHAT IT READS IS OF BULK AT MOST 1048576: true; the input reads as it did. -/
def wideEdgesUptoRow : OpenClaim := { program := "ytmpbbodafenonaa", sum := "0ce919b33c87c86eb82a85d7966776d9db0381fce9175f98ecd441d507a067c7", func := "parquet/parquetlaw01.WideEdges", spec := "wideEdges", inPlace := ["math/bits.Add64", "math/bits.Sub64"], apart := false, narrowed := true }
def WideEdgesUptoSaid : Prop := wideEdgesUptoRow.holds Try.pinned (OpenSpec.upto wideEdgesSpec)

/-- 'parquetlaw01.WideCmps', WHERE WHAT IT READS IS OF BULK AT MOST 1048576: true; the input reads as it did. -/
def wideCmpsUptoRow : OpenClaim := { program := "ytmpbbodafenonaa", sum := "0ce919b33c87c86eb82a85d7966776d9db0381fce9175f98ecd441d507a067c7", func := "parquet/parquetlaw01.WideCmps", spec := "wideCmps", inPlace := ["math/bits.Add64", "math/bits.Sub64"], apart := false, narrowed := true }
def WideCmpsUptoSaid : Prop := wideCmpsUptoRow.holds Try.pinned (OpenSpec.upto wideCmpsSpec)

/-- 'parquetlaw01.WideOnes', WHERE WHAT IT READS IS OF BULK AT MOST 1048576: true; the input reads as it did. -/
def wideOnesUptoRow : OpenClaim := { program := "ytmpbbodafenonaa", sum := "0ce919b33c87c86eb82a85d7966776d9db0381fce9175f98ecd441d507a067c7", func := "parquet/parquetlaw01.WideOnes", spec := "wideOnes", inPlace := ["math/bits.Sub64", "math/bits.Add64"], apart := false, narrowed := true }
def WideOnesUptoSaid : Prop := wideOnesUptoRow.holds Try.pinned (OpenSpec.upto wideOnesSpec)

/-- 'parquetlaw03.PredOrients', WHERE WHAT IT READS IS OF BULK AT MOST 1048576: true; the input reads as it did. -/
def predOrientsUptoRow : OpenClaim := { program := "ytmpbbodafenonaa", sum := "0ce919b33c87c86eb82a85d7966776d9db0381fce9175f98ecd441d507a067c7", func := "parquet/parquetlaw03.PredOrients", spec := "predOrients", inPlace := ["math/bits.Add64", "math/bits.Sub64"], apart := false, narrowed := true }
def PredOrientsUptoSaid : Prop := predOrientsUptoRow.holds Try.pinned (OpenSpec.upto predOrientsSpec)

/-- 'parquetlaw03.PredCircles', WHERE WHAT IT READS IS OF BULK AT MOST 1048576: true; the input reads as it did. -/
def predCirclesUptoRow : OpenClaim := { program := "ytmpbbodafenonaa", sum := "0ce919b33c87c86eb82a85d7966776d9db0381fce9175f98ecd441d507a067c7", func := "parquet/parquetlaw03.PredCircles", spec := "predCircles", inPlace := ["math/bits.Add64", "math/bits.Sub64"], apart := false, narrowed := true }
def PredCirclesUptoSaid : Prop := predCirclesUptoRow.holds Try.pinned (OpenSpec.upto predCirclesSpec)

/-- 'parquetlaw03.PredDiscs', WHERE WHAT IT READS IS OF BULK AT MOST 1048576: true; the input reads as it did. -/
def predDiscsUptoRow : OpenClaim := { program := "ytmpbbodafenonaa", sum := "0ce919b33c87c86eb82a85d7966776d9db0381fce9175f98ecd441d507a067c7", func := "parquet/parquetlaw03.PredDiscs", spec := "predDiscs", inPlace := ["math/bits.Add64", "math/bits.Sub64"], apart := false, narrowed := true }
def PredDiscsUptoSaid : Prop := predDiscsUptoRow.holds Try.pinned (OpenSpec.upto predDiscsSpec)

/-- 'parquetlaw03.PredConvexes', WHERE WHAT IT READS IS OF BULK AT MOST 1048576: true; the input reads as it did. -/
def predConvexesUptoRow : OpenClaim := { program := "ytmpbbodafenonaa", sum := "0ce919b33c87c86eb82a85d7966776d9db0381fce9175f98ecd441d507a067c7", func := "parquet/parquetlaw03.PredConvexes", spec := "predConvexes", inPlace := ["math/bits.Add64", "math/bits.Sub64"], apart := false, narrowed := true }
def PredConvexesUptoSaid : Prop := predConvexesUptoRow.holds Try.pinned (OpenSpec.upto predConvexesSpec)

/-- 'parquetlaw03.PredCentres', WHERE WHAT IT READS IS OF BULK AT MOST 1048576: true; the input reads as it did. -/
def predCentresUptoRow : OpenClaim := { program := "ytmpbbodafenonaa", sum := "0ce919b33c87c86eb82a85d7966776d9db0381fce9175f98ecd441d507a067c7", func := "parquet/parquetlaw03.PredCentres", spec := "predCentres", inPlace := ["math/bits.Add64", "math/bits.Sub64"], apart := false, narrowed := true }
def PredCentresUptoSaid : Prop := predCentresUptoRow.holds Try.pinned (OpenSpec.upto predCentresSpec)

/-- 'parquetlaw03.PredMoved', WHERE WHAT IT READS IS OF BULK AT MOST 1048576: true; the input reads as it did. -/
def predMovedUptoRow : OpenClaim := { program := "ytmpbbodafenonaa", sum := "0ce919b33c87c86eb82a85d7966776d9db0381fce9175f98ecd441d507a067c7", func := "parquet/parquetlaw03.PredMoved", spec := "predMoved", inPlace := ["math/bits.Add64", "math/bits.Sub64"], apart := false, narrowed := true }
def PredMovedUptoSaid : Prop := predMovedUptoRow.holds Try.pinned (OpenSpec.upto predMovedSpec)

/-- 'parquetlaw03.PredSkinny', WHERE WHAT IT READS IS OF BULK AT MOST 1048576: true; the input reads as it did. -/
def predSkinnyUptoRow : OpenClaim := { program := "ytmpbbodafenonaa", sum := "0ce919b33c87c86eb82a85d7966776d9db0381fce9175f98ecd441d507a067c7", func := "parquet/parquetlaw03.PredSkinny", spec := "predSkinny", inPlace := ["math/bits.Add64", "math/bits.Sub64"], apart := false, narrowed := true }
def PredSkinnyUptoSaid : Prop := predSkinnyUptoRow.holds Try.pinned (OpenSpec.upto predSkinnySpec)

/-- 'parquetlaw03.PredTells', WHERE WHAT IT READS IS OF BULK AT MOST 1048576: true; the input reads as it did. -/
def predTellsUptoRow : OpenClaim := { program := "ytmpbbodafenonaa", sum := "0ce919b33c87c86eb82a85d7966776d9db0381fce9175f98ecd441d507a067c7", func := "parquet/parquetlaw03.PredTells", spec := "predTells", inPlace := ["math/bits.Add64", "math/bits.Sub64"], apart := false, narrowed := true }
def PredTellsUptoSaid : Prop := predTellsUptoRow.holds Try.pinned (OpenSpec.upto predTellsSpec)

/-- 'parquetlaw03.PredRight', WHERE WHAT IT READS IS OF BULK AT MOST 1048576: true; the input reads as it did. -/
def predRightUptoRow : OpenClaim := { program := "ytmpbbodafenonaa", sum := "0ce919b33c87c86eb82a85d7966776d9db0381fce9175f98ecd441d507a067c7", func := "parquet/parquetlaw03.PredRight", spec := "predRight", inPlace := ["math/bits.Add64", "math/bits.Sub64"], apart := false, narrowed := true }
def PredRightUptoSaid : Prop := predRightUptoRow.holds Try.pinned (OpenSpec.upto predRightSpec)

end Rows
end Go.Proofs.Ytmpbbodafenonaa

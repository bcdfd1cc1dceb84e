/-
  No cell of these rows narrows 'for every input' (looked for: loops, veiled, ifaces, maps, wideKeys, modest, calm, conditions, laid).
  DERIVED. THE GIVEN ROWS OF THIS SEAT. 12 by the template 'for every input the law returns true; each argument reads behind the call as it read before'; 0 by the template 'total and deterministic' (their statements: YtlaaeighanknpaaTotals.lean).
  GIVEN WITH THE SEED: the statements are not yours to turn. If you find one false, say at which input.
  Laid BY PROGRAM, IN A SANDBOX (cutbox-rows.mjs): the forced cells as the released guide's own fill.sh prints them over the translation 02625cfbe0d6c5e7… (all of the seat's roots in one cut). By AI agents, Wed Nov 11 2026. No macro, syntax, notation, axiom, sorry.
-/
import Derived.Test.YtlaaeighanknpaaChecked
import GoSem.Claim
import GoSem.ClaimJoined
import GoSem.ClaimMapViews
import Derived.JoinedTies
import Derived.KernelRfl
namespace Go.Proofs.Ytlaaeighanknpaa
/- THE CELL 'sum', in the pinned program and in every row, IS THE sha256 OF THE DUMP (.gsa) THAT YtlaaeighanknpaaProg.lean LOADS. Nothing in Lean hashes anything: it is a label: what it is worth is what the hold of that sum in a sandbox is worth. -/
noncomputable def Try.pinned : Pinned := { name := "ytlaaeighanknpaa", sum := "02625cfbe0d6c5e7c5f8ed77c24768f11e10cc7881bd45f80ab7519932f7ad45", checked := Try.checked }
namespace Rows
def none {H : Type} : Left H := { results := [], args := [] }

/-- 'skywaylaw2.GrayOctals': WHATEVER THE INPUT: true; the input reads as it did. -/
def grayOctalsSpec : ChangeSpec := { name := "grayOctals", fn := fun _ => fun
  | [d1, d2] => { results := [.lit (.bool true)], args := [d1, d2] }
  | _ => none }
def grayOctalsRow : OpenClaim := { program := "ytlaaeighanknpaa", sum := "02625cfbe0d6c5e7c5f8ed77c24768f11e10cc7881bd45f80ab7519932f7ad45", func := "skyway/skywaylaw2.GrayOctals", spec := "grayOctals", apart := false }
def GrayOctalsSaid : Prop := grayOctalsRow.holds Try.pinned (OpenSpec.ofChange grayOctalsSpec)

/-- ITS FALSE NEIGHBOUR: 'it returns false'. Refute it at one input. -/
def grayOctalsWrong : ChangeSpec := { name := "grayOctals", fn := fun _ => fun
  | [d1, d2] => { results := [.lit (.bool false)], args := [d1, d2] }
  | _ => none }
def GrayOctalsWrongFalsely : Prop := grayOctalsRow.holds Try.pinned (OpenSpec.ofChange grayOctalsWrong)

/-- 'skywaylaw2.GrayCodes': WHATEVER THE INPUT: true; the input reads as it did. -/
def grayCodesSpec : ChangeSpec := { name := "grayCodes", fn := fun _ => fun
  | [d1, d2] => { results := [.lit (.bool true)], args := [d1, d2] }
  | _ => none }
def grayCodesRow : OpenClaim := { program := "ytlaaeighanknpaa", sum := "02625cfbe0d6c5e7c5f8ed77c24768f11e10cc7881bd45f80ab7519932f7ad45", func := "skyway/skywaylaw2.GrayCodes", spec := "grayCodes", apart := false }
def GrayCodesSaid : Prop := grayCodesRow.holds Try.pinned (OpenSpec.ofChange grayCodesSpec)

/-- ITS FALSE NEIGHBOUR: 'it returns false'. Refute it at one input. -/
def grayCodesWrong : ChangeSpec := { name := "grayCodes", fn := fun _ => fun
  | [d1, d2] => { results := [.lit (.bool false)], args := [d1, d2] }
  | _ => none }
def GrayCodesWrongFalsely : Prop := grayCodesRow.holds Try.pinned (OpenSpec.ofChange grayCodesWrong)

/-- 'skywaylaw4.ApproachSpeeds': WHATEVER THE INPUT: true; the input reads as it did. -/
def approachSpeedsSpec : ChangeSpec := { name := "approachSpeeds", fn := fun _ => fun
  | [d1, d2, d3, d4] => { results := [.lit (.bool true)], args := [d1, d2, d3, d4] }
  | _ => none }
def approachSpeedsRow : OpenClaim := { program := "ytlaaeighanknpaa", sum := "02625cfbe0d6c5e7c5f8ed77c24768f11e10cc7881bd45f80ab7519932f7ad45", func := "skyway/skywaylaw4.ApproachSpeeds", spec := "approachSpeeds", apart := false }
def ApproachSpeedsSaid : Prop := approachSpeedsRow.holds Try.pinned (OpenSpec.ofChange approachSpeedsSpec)

/-- ITS FALSE NEIGHBOUR: 'it returns false'. Refute it at one input. -/
def approachSpeedsWrong : ChangeSpec := { name := "approachSpeeds", fn := fun _ => fun
  | [d1, d2, d3, d4] => { results := [.lit (.bool false)], args := [d1, d2, d3, d4] }
  | _ => none }
def ApproachSpeedsWrongFalsely : Prop := approachSpeedsRow.holds Try.pinned (OpenSpec.ofChange approachSpeedsWrong)

/-- 'skywaylaw4.Names': WHATEVER THE INPUT: true; the input reads as it did. -/
def namesSpec : ChangeSpec := { name := "names", fn := fun _ => fun
  | [] => { results := [.lit (.bool true)], args := [] }
  | _ => none }
def namesRow : OpenClaim := { program := "ytlaaeighanknpaa", sum := "02625cfbe0d6c5e7c5f8ed77c24768f11e10cc7881bd45f80ab7519932f7ad45", func := "skyway/skywaylaw4.Names", spec := "names", apart := false }
def NamesSaid : Prop := namesRow.holds Try.pinned (OpenSpec.ofChange namesSpec)

/-- ITS FALSE NEIGHBOUR: 'it returns false'. Refute it at one input. -/
def namesWrong : ChangeSpec := { name := "names", fn := fun _ => fun
  | [] => { results := [.lit (.bool false)], args := [] }
  | _ => none }
def NamesWrongFalsely : Prop := namesRow.holds Try.pinned (OpenSpec.ofChange namesWrong)

/-- 'skywaylaw4.ScreenLines': WHATEVER THE INPUT: true; the input reads as it did. -/
def screenLinesSpec : ChangeSpec := { name := "screenLines", fn := fun _ => fun
  | [d1, d2] => { results := [.lit (.bool true)], args := [d1, d2] }
  | _ => none }
def screenLinesRow : OpenClaim := { program := "ytlaaeighanknpaa", sum := "02625cfbe0d6c5e7c5f8ed77c24768f11e10cc7881bd45f80ab7519932f7ad45", func := "skyway/skywaylaw4.ScreenLines", spec := "screenLines", apart := false }
def ScreenLinesSaid : Prop := screenLinesRow.holds Try.pinned (OpenSpec.ofChange screenLinesSpec)

/-- ITS FALSE NEIGHBOUR: 'it returns false'. Refute it at one input. -/
def screenLinesWrong : ChangeSpec := { name := "screenLines", fn := fun _ => fun
  | [d1, d2] => { results := [.lit (.bool false)], args := [d1, d2] }
  | _ => none }
def ScreenLinesWrongFalsely : Prop := screenLinesRow.holds Try.pinned (OpenSpec.ofChange screenLinesWrong)

/-- 'skywaylaw4.ScreenCells': WHATEVER THE INPUT: true; the input reads as it did. -/
def screenCellsSpec : ChangeSpec := { name := "screenCells", fn := fun _ => fun
  | [d1, d2] => { results := [.lit (.bool true)], args := [d1, d2] }
  | _ => none }
def screenCellsRow : OpenClaim := { program := "ytlaaeighanknpaa", sum := "02625cfbe0d6c5e7c5f8ed77c24768f11e10cc7881bd45f80ab7519932f7ad45", func := "skyway/skywaylaw4.ScreenCells", spec := "screenCells", apart := false }
def ScreenCellsSaid : Prop := screenCellsRow.holds Try.pinned (OpenSpec.ofChange screenCellsSpec)

/-- ITS FALSE NEIGHBOUR: 'it returns false'. Refute it at one input. -/
def screenCellsWrong : ChangeSpec := { name := "screenCells", fn := fun _ => fun
  | [d1, d2] => { results := [.lit (.bool false)], args := [d1, d2] }
  | _ => none }
def ScreenCellsWrongFalsely : Prop := screenCellsRow.holds Try.pinned (OpenSpec.ofChange screenCellsWrong)

/-- 'skywaylaw4.LabelBoxes': WHATEVER THE INPUT: true; the input reads as it did. -/
def labelBoxesSpec : ChangeSpec := { name := "labelBoxes", fn := fun _ => fun
  | [d1, d2] => { results := [.lit (.bool true)], args := [d1, d2] }
  | _ => none }
def labelBoxesRow : OpenClaim := { program := "ytlaaeighanknpaa", sum := "02625cfbe0d6c5e7c5f8ed77c24768f11e10cc7881bd45f80ab7519932f7ad45", func := "skyway/skywaylaw4.LabelBoxes", spec := "labelBoxes", apart := false }
def LabelBoxesSaid : Prop := labelBoxesRow.holds Try.pinned (OpenSpec.ofChange labelBoxesSpec)

/-- ITS FALSE NEIGHBOUR: 'it returns false'. Refute it at one input. -/
def labelBoxesWrong : ChangeSpec := { name := "labelBoxes", fn := fun _ => fun
  | [d1, d2] => { results := [.lit (.bool false)], args := [d1, d2] }
  | _ => none }
def LabelBoxesWrongFalsely : Prop := labelBoxesRow.holds Try.pinned (OpenSpec.ofChange labelBoxesWrong)

/-- 'skywaylaw2.GateFits': WHATEVER THE INPUT: true; the input reads as it did. -/
def gateFitsSpec : ChangeSpec := { name := "gateFits", fn := fun _ => fun
  | [d1, d2, d3, d4, d5, d6] => { results := [.lit (.bool true)], args := [d1, d2, d3, d4, d5, d6] }
  | _ => none }
def gateFitsRow : OpenClaim := { program := "ytlaaeighanknpaa", sum := "02625cfbe0d6c5e7c5f8ed77c24768f11e10cc7881bd45f80ab7519932f7ad45", func := "skyway/skywaylaw2.GateFits", spec := "gateFits", apart := false }
def GateFitsSaid : Prop := gateFitsRow.holds Try.pinned (OpenSpec.ofChange gateFitsSpec)

/-- ITS FALSE NEIGHBOUR: 'it returns false'. Refute it at one input. -/
def gateFitsWrong : ChangeSpec := { name := "gateFits", fn := fun _ => fun
  | [d1, d2, d3, d4, d5, d6] => { results := [.lit (.bool false)], args := [d1, d2, d3, d4, d5, d6] }
  | _ => none }
def GateFitsWrongFalsely : Prop := gateFitsRow.holds Try.pinned (OpenSpec.ofChange gateFitsWrong)

/-- 'skywaylaw2.CoastCounts': WHATEVER THE INPUT: true; the input reads as it did. -/
def coastCountsSpec : ChangeSpec := { name := "coastCounts", fn := fun _ => fun
  | [d1, d2] => { results := [.lit (.bool true)], args := [d1, d2] }
  | _ => none }
def coastCountsRow : OpenClaim := { program := "ytlaaeighanknpaa", sum := "02625cfbe0d6c5e7c5f8ed77c24768f11e10cc7881bd45f80ab7519932f7ad45", func := "skyway/skywaylaw2.CoastCounts", spec := "coastCounts", unfollowed := true, recurses := true, apart := false }
def CoastCountsSaid : Prop := coastCountsRow.holds Try.pinned (OpenSpec.ofChange coastCountsSpec)

/-- ITS FALSE NEIGHBOUR: 'it returns false'. Refute it at one input. -/
def coastCountsWrong : ChangeSpec := { name := "coastCounts", fn := fun _ => fun
  | [d1, d2] => { results := [.lit (.bool false)], args := [d1, d2] }
  | _ => none }
def CoastCountsWrongFalsely : Prop := coastCountsRow.holds Try.pinned (OpenSpec.ofChange coastCountsWrong)

/-- 'skywaylaw4.ConsoleSays': WHATEVER THE INPUT: true; the input reads as it did. -/
def consoleSaysSpec : ChangeSpec := { name := "consoleSays", fn := fun _ => fun
  | [d] => { results := [.lit (.bool true)], args := [d] }
  | _ => none }
def consoleSaysRow : OpenClaim := { program := "ytlaaeighanknpaa", sum := "02625cfbe0d6c5e7c5f8ed77c24768f11e10cc7881bd45f80ab7519932f7ad45", func := "skyway/skywaylaw4.ConsoleSays", spec := "consoleSays", unfollowed := true, recurses := true, apart := false }
def ConsoleSaysSaid : Prop := consoleSaysRow.holds Try.pinned (OpenSpec.ofChange consoleSaysSpec)

/-- ITS FALSE NEIGHBOUR: 'it returns false'. Refute it at one input. -/
def consoleSaysWrong : ChangeSpec := { name := "consoleSays", fn := fun _ => fun
  | [d] => { results := [.lit (.bool false)], args := [d] }
  | _ => none }
def ConsoleSaysWrongFalsely : Prop := consoleSaysRow.holds Try.pinned (OpenSpec.ofChange consoleSaysWrong)

/-- 'skywaylaw4.ApproachSays': WHATEVER THE INPUT: true; the input reads as it did. -/
def approachSaysSpec : ChangeSpec := { name := "approachSays", fn := fun _ => fun
  | [d1, d2] => { results := [.lit (.bool true)], args := [d1, d2] }
  | _ => none }
def approachSaysRow : OpenClaim := { program := "ytlaaeighanknpaa", sum := "02625cfbe0d6c5e7c5f8ed77c24768f11e10cc7881bd45f80ab7519932f7ad45", func := "skyway/skywaylaw4.ApproachSays", spec := "approachSays", apart := false }
def ApproachSaysSaid : Prop := approachSaysRow.holds Try.pinned (OpenSpec.ofChange approachSaysSpec)

/-- ITS FALSE NEIGHBOUR: 'it returns false'. Refute it at one input. -/
def approachSaysWrong : ChangeSpec := { name := "approachSays", fn := fun _ => fun
  | [d1, d2] => { results := [.lit (.bool false)], args := [d1, d2] }
  | _ => none }
def ApproachSaysWrongFalsely : Prop := approachSaysRow.holds Try.pinned (OpenSpec.ofChange approachSaysWrong)

/-- 'skywaylaw2.RadarChecks': WHATEVER THE INPUT: true; the input reads as it did. -/
def radarChecksSpec : ChangeSpec := { name := "radarChecks", fn := fun _ => fun
  | [d1, d2, d3, d4, d5] => { results := [.lit (.bool true)], args := [d1, d2, d3, d4, d5] }
  | _ => none }
def radarChecksRow : OpenClaim := { program := "ytlaaeighanknpaa", sum := "02625cfbe0d6c5e7c5f8ed77c24768f11e10cc7881bd45f80ab7519932f7ad45", func := "skyway/skywaylaw2.RadarChecks", spec := "radarChecks", apart := false }
def RadarChecksSaid : Prop := radarChecksRow.holds Try.pinned (OpenSpec.ofChange radarChecksSpec)

/-- ITS FALSE NEIGHBOUR: 'it returns false'. Refute it at one input. -/
def radarChecksWrong : ChangeSpec := { name := "radarChecks", fn := fun _ => fun
  | [d1, d2, d3, d4, d5] => { results := [.lit (.bool false)], args := [d1, d2, d3, d4, d5] }
  | _ => none }
def RadarChecksWrongFalsely : Prop := radarChecksRow.holds Try.pinned (OpenSpec.ofChange radarChecksWrong)

/- THE SECOND FORM. 'bulk': how many values and letters a reading holds, each counted each time it is reached (what is shared counts as often as it is met; a slice's spare places count too). A statement '..UptoSaid' is the law's where the arguments, and the package variables that the reading takes, are together of bulk at most 1048576: NARROWER than '..Said'. Prove '..Said' where nothing that the law and all that it calls make is longer than what came in: it says more and counts as full. Else prove '..UptoSaid'. A law counts once. -/
mutual
def uptoBulk {H : Type} : DataW H → Nat
  | .lit (.string bytes) => bytes.length + 1
  | .lit _ => 1
  | .nil => 1
  | .ptr d => uptoBulk d + 1
  | .slice elems spare => uptoBulkAll elems + uptoBulkAll spare + 1
  | .agg parts => uptoBulkAll parts + 1
  | .iface _ d => uptoBulk d + 1
  | .map entries => uptoBulkEntries entries + 1
  | .held _ => 1
def uptoBulkAll {H : Type} : List (DataW H) → Nat
  | [] => 0
  | d :: r => uptoBulk d + uptoBulkAll r
def uptoBulkEntries {H : Type} : List (Lit × DataW H) → Nat
  | [] => 0
  | x :: r => uptoBulkEntry x + uptoBulkEntries r
def uptoBulkEntry {H : Type} : Lit × DataW H → Nat
  | (.string bytes, d) => bytes.length + uptoBulk d + 1
  | (_, d) => uptoBulk d + 1
 end
def uptoSmall : (H : Type) → List (DataW H) → Bool := fun _ ds => decide (uptoBulkAll ds ≤ 1048576)
def OpenSpec.upto (s : _root_.Go.ChangeSpec) : _root_.Go.OpenSpec := { _root_.Go.OpenSpec.ofChange s with cond := some uptoSmall }

/-- 'skywaylaw2.GrayOctals', WHERE WHAT IT READS IS OF BULK AT MOST 1048576: true; the input reads as it did. -/
def grayOctalsUptoRow : OpenClaim := { program := "ytlaaeighanknpaa", sum := "02625cfbe0d6c5e7c5f8ed77c24768f11e10cc7881bd45f80ab7519932f7ad45", func := "skyway/skywaylaw2.GrayOctals", spec := "grayOctals", apart := false, narrowed := true }
def GrayOctalsUptoSaid : Prop := grayOctalsUptoRow.holds Try.pinned (OpenSpec.upto grayOctalsSpec)

/-- 'skywaylaw2.GrayCodes', WHERE WHAT IT READS IS OF BULK AT MOST 1048576: true; the input reads as it did. -/
def grayCodesUptoRow : OpenClaim := { program := "ytlaaeighanknpaa", sum := "02625cfbe0d6c5e7c5f8ed77c24768f11e10cc7881bd45f80ab7519932f7ad45", func := "skyway/skywaylaw2.GrayCodes", spec := "grayCodes", apart := false, narrowed := true }
def GrayCodesUptoSaid : Prop := grayCodesUptoRow.holds Try.pinned (OpenSpec.upto grayCodesSpec)

/-- 'skywaylaw4.ApproachSpeeds', WHERE WHAT IT READS IS OF BULK AT MOST 1048576: true; the input reads as it did. -/
def approachSpeedsUptoRow : OpenClaim := { program := "ytlaaeighanknpaa", sum := "02625cfbe0d6c5e7c5f8ed77c24768f11e10cc7881bd45f80ab7519932f7ad45", func := "skyway/skywaylaw4.ApproachSpeeds", spec := "approachSpeeds", apart := false, narrowed := true }
def ApproachSpeedsUptoSaid : Prop := approachSpeedsUptoRow.holds Try.pinned (OpenSpec.upto approachSpeedsSpec)

/-- 'skywaylaw4.Names', WHERE WHAT IT READS IS OF BULK AT MOST 1048576: true; the input reads as it did. -/
def namesUptoRow : OpenClaim := { program := "ytlaaeighanknpaa", sum := "02625cfbe0d6c5e7c5f8ed77c24768f11e10cc7881bd45f80ab7519932f7ad45", func := "skyway/skywaylaw4.Names", spec := "names", apart := false, narrowed := true }
def NamesUptoSaid : Prop := namesUptoRow.holds Try.pinned (OpenSpec.upto namesSpec)

/-- 'skywaylaw4.ScreenLines', WHERE WHAT IT READS IS OF BULK AT MOST 1048576: true; the input reads as it did. -/
def screenLinesUptoRow : OpenClaim := { program := "ytlaaeighanknpaa", sum := "02625cfbe0d6c5e7c5f8ed77c24768f11e10cc7881bd45f80ab7519932f7ad45", func := "skyway/skywaylaw4.ScreenLines", spec := "screenLines", apart := false, narrowed := true }
def ScreenLinesUptoSaid : Prop := screenLinesUptoRow.holds Try.pinned (OpenSpec.upto screenLinesSpec)

/-- 'skywaylaw4.ScreenCells', WHERE WHAT IT READS IS OF BULK AT MOST 1048576: true; the input reads as it did. -/
def screenCellsUptoRow : OpenClaim := { program := "ytlaaeighanknpaa", sum := "02625cfbe0d6c5e7c5f8ed77c24768f11e10cc7881bd45f80ab7519932f7ad45", func := "skyway/skywaylaw4.ScreenCells", spec := "screenCells", apart := false, narrowed := true }
def ScreenCellsUptoSaid : Prop := screenCellsUptoRow.holds Try.pinned (OpenSpec.upto screenCellsSpec)

/-- 'skywaylaw4.LabelBoxes', WHERE WHAT IT READS IS OF BULK AT MOST 1048576: true; the input reads as it did. -/
def labelBoxesUptoRow : OpenClaim := { program := "ytlaaeighanknpaa", sum := "02625cfbe0d6c5e7c5f8ed77c24768f11e10cc7881bd45f80ab7519932f7ad45", func := "skyway/skywaylaw4.LabelBoxes", spec := "labelBoxes", apart := false, narrowed := true }
def LabelBoxesUptoSaid : Prop := labelBoxesUptoRow.holds Try.pinned (OpenSpec.upto labelBoxesSpec)

/-- 'skywaylaw2.GateFits', WHERE WHAT IT READS IS OF BULK AT MOST 1048576: true; the input reads as it did. -/
def gateFitsUptoRow : OpenClaim := { program := "ytlaaeighanknpaa", sum := "02625cfbe0d6c5e7c5f8ed77c24768f11e10cc7881bd45f80ab7519932f7ad45", func := "skyway/skywaylaw2.GateFits", spec := "gateFits", apart := false, narrowed := true }
def GateFitsUptoSaid : Prop := gateFitsUptoRow.holds Try.pinned (OpenSpec.upto gateFitsSpec)

/-- 'skywaylaw2.CoastCounts', WHERE WHAT IT READS IS OF BULK AT MOST 1048576: true; the input reads as it did. -/
def coastCountsUptoRow : OpenClaim := { program := "ytlaaeighanknpaa", sum := "02625cfbe0d6c5e7c5f8ed77c24768f11e10cc7881bd45f80ab7519932f7ad45", func := "skyway/skywaylaw2.CoastCounts", spec := "coastCounts", unfollowed := true, recurses := true, apart := false, narrowed := true }
def CoastCountsUptoSaid : Prop := coastCountsUptoRow.holds Try.pinned (OpenSpec.upto coastCountsSpec)

/-- 'skywaylaw4.ConsoleSays', WHERE WHAT IT READS IS OF BULK AT MOST 1048576: true; the input reads as it did. -/
def consoleSaysUptoRow : OpenClaim := { program := "ytlaaeighanknpaa", sum := "02625cfbe0d6c5e7c5f8ed77c24768f11e10cc7881bd45f80ab7519932f7ad45", func := "skyway/skywaylaw4.ConsoleSays", spec := "consoleSays", unfollowed := true, recurses := true, apart := false, narrowed := true }
def ConsoleSaysUptoSaid : Prop := consoleSaysUptoRow.holds Try.pinned (OpenSpec.upto consoleSaysSpec)

/-- 'skywaylaw4.ApproachSays', WHERE WHAT IT READS IS OF BULK AT MOST 1048576: true; the input reads as it did. -/
def approachSaysUptoRow : OpenClaim := { program := "ytlaaeighanknpaa", sum := "02625cfbe0d6c5e7c5f8ed77c24768f11e10cc7881bd45f80ab7519932f7ad45", func := "skyway/skywaylaw4.ApproachSays", spec := "approachSays", apart := false, narrowed := true }
def ApproachSaysUptoSaid : Prop := approachSaysUptoRow.holds Try.pinned (OpenSpec.upto approachSaysSpec)

/-- 'skywaylaw2.RadarChecks', WHERE WHAT IT READS IS OF BULK AT MOST 1048576: true; the input reads as it did. -/
def radarChecksUptoRow : OpenClaim := { program := "ytlaaeighanknpaa", sum := "02625cfbe0d6c5e7c5f8ed77c24768f11e10cc7881bd45f80ab7519932f7ad45", func := "skyway/skywaylaw2.RadarChecks", spec := "radarChecks", apart := false, narrowed := true }
def RadarChecksUptoSaid : Prop := radarChecksUptoRow.holds Try.pinned (OpenSpec.upto radarChecksSpec)

end Rows
end Go.Proofs.Ytlaaeighanknpaa

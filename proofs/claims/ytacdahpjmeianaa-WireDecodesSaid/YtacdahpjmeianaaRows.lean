/-
  No cell of these rows narrows 'for every input' (looked for: loops, veiled, ifaces, maps, wideKeys, modest, calm, conditions, laid).
  DERIVED. THE GIVEN ROWS OF THIS SEAT. 10 by the template 'for every input the law returns true; each argument reads behind the call as it read before'; 0 by the template 'total and deterministic' (their statements: YtacdahpjmeianaaTotals.lean).
  GIVEN WITH THE SEED: the statements are not yours to turn. If you find one false, say at which input.
  Laid BY PROGRAM, IN A SANDBOX (cutbox-rows.mjs): the forced cells as the released guide's own fill.sh prints them over the translation 21bb2307ba38e277… (all of the seat's roots in one cut). By AI agents, Wed Nov 11 2026. No macro, syntax, notation, axiom, sorry.
-/
import Derived.Test.YtacdahpjmeianaaChecked
import GoSem.Claim
import GoSem.ClaimJoined
import GoSem.ClaimMapViews
import Derived.JoinedTies
import Derived.KernelRfl
namespace Go.Proofs.Ytacdahpjmeianaa
/- THE CELL 'sum', in the pinned program and in every row, IS THE sha256 OF THE DUMP (.gsa) THAT YtacdahpjmeianaaProg.lean LOADS. Nothing in Lean hashes anything: it is a label: what it is worth is what the hold of that sum in a sandbox is worth. -/
noncomputable def Try.pinned : Pinned := { name := "ytacdahpjmeianaa", sum := "21bb2307ba38e2775e686c8cb72790c76b4de5acc2da0d04482ed2c68c97c392", checked := Try.checked }
namespace Rows
def none {H : Type} : Left H := { results := [], args := [] }

/-- 'skywaytop.TopLabels': WHATEVER THE INPUT: true; the input reads as it did. -/
def topLabelsSpec : ChangeSpec := { name := "topLabels", fn := fun _ => fun
  | [d1, d2, d3, d4] => { results := [.lit (.bool true)], args := [d1, d2, d3, d4] }
  | _ => none }
def topLabelsRow : OpenClaim := { program := "ytacdahpjmeianaa", sum := "21bb2307ba38e2775e686c8cb72790c76b4de5acc2da0d04482ed2c68c97c392", func := "skyway/skywaytop.TopLabels", spec := "topLabels", unfollowed := true, recurses := true, apart := false }
def TopLabelsSaid : Prop := topLabelsRow.holds Try.pinned (OpenSpec.ofChange topLabelsSpec)

/-- ITS FALSE NEIGHBOUR: 'it returns false'. Refute it at one input. -/
def topLabelsWrong : ChangeSpec := { name := "topLabels", fn := fun _ => fun
  | [d1, d2, d3, d4] => { results := [.lit (.bool false)], args := [d1, d2, d3, d4] }
  | _ => none }
def TopLabelsWrongFalsely : Prop := topLabelsRow.holds Try.pinned (OpenSpec.ofChange topLabelsWrong)

/-- 'skywaylaw4.ClockCuts': WHATEVER THE INPUT: true; the input reads as it did. -/
def clockCutsSpec : ChangeSpec := { name := "clockCuts", fn := fun _ => fun
  | [d1, d2] => { results := [.lit (.bool true)], args := [d1, d2] }
  | _ => none }
def clockCutsRow : OpenClaim := { program := "ytacdahpjmeianaa", sum := "21bb2307ba38e2775e686c8cb72790c76b4de5acc2da0d04482ed2c68c97c392", func := "skyway/skywaylaw4.ClockCuts", spec := "clockCuts", unfollowed := true, recurses := true, apart := false }
def ClockCutsSaid : Prop := clockCutsRow.holds Try.pinned (OpenSpec.ofChange clockCutsSpec)

/-- ITS FALSE NEIGHBOUR: 'it returns false'. Refute it at one input. -/
def clockCutsWrong : ChangeSpec := { name := "clockCuts", fn := fun _ => fun
  | [d1, d2] => { results := [.lit (.bool false)], args := [d1, d2] }
  | _ => none }
def ClockCutsWrongFalsely : Prop := clockCutsRow.holds Try.pinned (OpenSpec.ofChange clockCutsWrong)

/-- 'skywaylaw4.LabelPlaces': WHATEVER THE INPUT: true; the input reads as it did. -/
def labelPlacesSpec : ChangeSpec := { name := "labelPlaces", fn := fun _ => fun
  | [d] => { results := [.lit (.bool true)], args := [d] }
  | _ => none }
def labelPlacesRow : OpenClaim := { program := "ytacdahpjmeianaa", sum := "21bb2307ba38e2775e686c8cb72790c76b4de5acc2da0d04482ed2c68c97c392", func := "skyway/skywaylaw4.LabelPlaces", spec := "labelPlaces", unfollowed := true, recurses := true, apart := false }
def LabelPlacesSaid : Prop := labelPlacesRow.holds Try.pinned (OpenSpec.ofChange labelPlacesSpec)

/-- ITS FALSE NEIGHBOUR: 'it returns false'. Refute it at one input. -/
def labelPlacesWrong : ChangeSpec := { name := "labelPlaces", fn := fun _ => fun
  | [d] => { results := [.lit (.bool false)], args := [d] }
  | _ => none }
def LabelPlacesWrongFalsely : Prop := labelPlacesRow.holds Try.pinned (OpenSpec.ofChange labelPlacesWrong)

/-- 'skywaylaw4.ClockSays': WHATEVER THE INPUT: true; the input reads as it did. -/
def clockSaysSpec : ChangeSpec := { name := "clockSays", fn := fun _ => fun
  | [d] => { results := [.lit (.bool true)], args := [d] }
  | _ => none }
def clockSaysRow : OpenClaim := { program := "ytacdahpjmeianaa", sum := "21bb2307ba38e2775e686c8cb72790c76b4de5acc2da0d04482ed2c68c97c392", func := "skyway/skywaylaw4.ClockSays", spec := "clockSays", unfollowed := true, recurses := true, apart := false }
def ClockSaysSaid : Prop := clockSaysRow.holds Try.pinned (OpenSpec.ofChange clockSaysSpec)

/-- ITS FALSE NEIGHBOUR: 'it returns false'. Refute it at one input. -/
def clockSaysWrong : ChangeSpec := { name := "clockSays", fn := fun _ => fun
  | [d] => { results := [.lit (.bool false)], args := [d] }
  | _ => none }
def ClockSaysWrongFalsely : Prop := clockSaysRow.holds Try.pinned (OpenSpec.ofChange clockSaysWrong)

/-- 'skywaylaw4.ApproachOrders': WHATEVER THE INPUT: true; the input reads as it did. -/
def approachOrdersSpec : ChangeSpec := { name := "approachOrders", fn := fun _ => fun
  | [d1, d2] => { results := [.lit (.bool true)], args := [d1, d2] }
  | _ => none }
def approachOrdersRow : OpenClaim := { program := "ytacdahpjmeianaa", sum := "21bb2307ba38e2775e686c8cb72790c76b4de5acc2da0d04482ed2c68c97c392", func := "skyway/skywaylaw4.ApproachOrders", spec := "approachOrders", unfollowed := true, recurses := true, apart := false }
def ApproachOrdersSaid : Prop := approachOrdersRow.holds Try.pinned (OpenSpec.ofChange approachOrdersSpec)

/-- ITS FALSE NEIGHBOUR: 'it returns false'. Refute it at one input. -/
def approachOrdersWrong : ChangeSpec := { name := "approachOrders", fn := fun _ => fun
  | [d1, d2] => { results := [.lit (.bool false)], args := [d1, d2] }
  | _ => none }
def ApproachOrdersWrongFalsely : Prop := approachOrdersRow.holds Try.pinned (OpenSpec.ofChange approachOrdersWrong)

/-- 'skywaylaw4.HoldSays': WHATEVER THE INPUT: true; the input reads as it did. -/
def holdSaysSpec : ChangeSpec := { name := "holdSays", fn := fun _ => fun
  | [d1, d2] => { results := [.lit (.bool true)], args := [d1, d2] }
  | _ => none }
def holdSaysRow : OpenClaim := { program := "ytacdahpjmeianaa", sum := "21bb2307ba38e2775e686c8cb72790c76b4de5acc2da0d04482ed2c68c97c392", func := "skyway/skywaylaw4.HoldSays", spec := "holdSays", unfollowed := true, recurses := true, apart := false }
def HoldSaysSaid : Prop := holdSaysRow.holds Try.pinned (OpenSpec.ofChange holdSaysSpec)

/-- ITS FALSE NEIGHBOUR: 'it returns false'. Refute it at one input. -/
def holdSaysWrong : ChangeSpec := { name := "holdSays", fn := fun _ => fun
  | [d1, d2] => { results := [.lit (.bool false)], args := [d1, d2] }
  | _ => none }
def HoldSaysWrongFalsely : Prop := holdSaysRow.holds Try.pinned (OpenSpec.ofChange holdSaysWrong)

/-- 'skywaylaw2.WireEncodes': WHATEVER THE INPUT: true; the input reads as it did. -/
def wireEncodesSpec : ChangeSpec := { name := "wireEncodes", fn := fun _ => fun
  | [d1, d2] => { results := [.lit (.bool true)], args := [d1, d2] }
  | _ => none }
def wireEncodesRow : OpenClaim := { program := "ytacdahpjmeianaa", sum := "21bb2307ba38e2775e686c8cb72790c76b4de5acc2da0d04482ed2c68c97c392", func := "skyway/skywaylaw2.WireEncodes", spec := "wireEncodes", inPlace := ["math.Float64bits", "math.Float64frombits"], recurses := true, apart := false }
def WireEncodesSaid : Prop := wireEncodesRow.holds Try.pinned (OpenSpec.ofChange wireEncodesSpec)

/-- ITS FALSE NEIGHBOUR: 'it returns false'. Refute it at one input. -/
def wireEncodesWrong : ChangeSpec := { name := "wireEncodes", fn := fun _ => fun
  | [d1, d2] => { results := [.lit (.bool false)], args := [d1, d2] }
  | _ => none }
def WireEncodesWrongFalsely : Prop := wireEncodesRow.holds Try.pinned (OpenSpec.ofChange wireEncodesWrong)

/-- 'skywaylaw2.AssignBest': WHATEVER THE INPUT: true; the input reads as it did. -/
def assignBestSpec : ChangeSpec := { name := "assignBest", fn := fun _ => fun
  | [d1, d2] => { results := [.lit (.bool true)], args := [d1, d2] }
  | _ => none }
def assignBestRow : OpenClaim := { program := "ytacdahpjmeianaa", sum := "21bb2307ba38e2775e686c8cb72790c76b4de5acc2da0d04482ed2c68c97c392", func := "skyway/skywaylaw2.AssignBest", spec := "assignBest", apart := false }
def AssignBestSaid : Prop := assignBestRow.holds Try.pinned (OpenSpec.ofChange assignBestSpec)

/-- ITS FALSE NEIGHBOUR: 'it returns false'. Refute it at one input. -/
def assignBestWrong : ChangeSpec := { name := "assignBest", fn := fun _ => fun
  | [d1, d2] => { results := [.lit (.bool false)], args := [d1, d2] }
  | _ => none }
def AssignBestWrongFalsely : Prop := assignBestRow.holds Try.pinned (OpenSpec.ofChange assignBestWrong)

/-- 'skywaylaw4.ScreenPictures': WHATEVER THE INPUT: true; the input reads as it did. -/
def screenPicturesSpec : ChangeSpec := { name := "screenPictures", fn := fun _ => fun
  | [d1, d2, d3] => { results := [.lit (.bool true)], args := [d1, d2, d3] }
  | _ => none }
def screenPicturesRow : OpenClaim := { program := "ytacdahpjmeianaa", sum := "21bb2307ba38e2775e686c8cb72790c76b4de5acc2da0d04482ed2c68c97c392", func := "skyway/skywaylaw4.ScreenPictures", spec := "screenPictures", unfollowed := true, recurses := true, apart := false }
def ScreenPicturesSaid : Prop := screenPicturesRow.holds Try.pinned (OpenSpec.ofChange screenPicturesSpec)

/-- ITS FALSE NEIGHBOUR: 'it returns false'. Refute it at one input. -/
def screenPicturesWrong : ChangeSpec := { name := "screenPictures", fn := fun _ => fun
  | [d1, d2, d3] => { results := [.lit (.bool false)], args := [d1, d2, d3] }
  | _ => none }
def ScreenPicturesWrongFalsely : Prop := screenPicturesRow.holds Try.pinned (OpenSpec.ofChange screenPicturesWrong)

/-- 'skywaylaw2.WireDecodes': WHATEVER THE INPUT: true; the input reads as it did. -/
def wireDecodesSpec : ChangeSpec := { name := "wireDecodes", fn := fun _ => fun
  | [d] => { results := [.lit (.bool true)], args := [d] }
  | _ => none }
def wireDecodesRow : OpenClaim := { program := "ytacdahpjmeianaa", sum := "21bb2307ba38e2775e686c8cb72790c76b4de5acc2da0d04482ed2c68c97c392", func := "skyway/skywaylaw2.WireDecodes", spec := "wireDecodes", inPlace := ["math.Float64bits", "math.Float64frombits"], recurses := true, apart := false }
def WireDecodesSaid : Prop := wireDecodesRow.holds Try.pinned (OpenSpec.ofChange wireDecodesSpec)

/-- ITS FALSE NEIGHBOUR: 'it returns false'. Refute it at one input. -/
def wireDecodesWrong : ChangeSpec := { name := "wireDecodes", fn := fun _ => fun
  | [d] => { results := [.lit (.bool false)], args := [d] }
  | _ => none }
def WireDecodesWrongFalsely : Prop := wireDecodesRow.holds Try.pinned (OpenSpec.ofChange wireDecodesWrong)

/- THE SECOND FORM. 'bulk': how many values and letters a reading holds, each counted each time it is reached (what is shared counts as often as it is met; a slice's spare places count too). A statement '..UptoSaid' is the law's where the arguments, and the package variables that the reading takes, are together of bulk at most 1048576: NARROWER than '..Said'. Prove '..Said' where nothing that the law and all that it calls make is longer than what came in: it says more and counts as full. Else prove '..UptoSaid'. A law counts once. -/
mutual
def uptoBulk {H : Type} : DataW H → Nat
  | .lit (.string bytes) => bytes.length + 1
  | .lit _ => 1
  | .nil => 1
  | .ptr d => uptoBulk d + 1
  | .slice elems spare => uptoBulkAll elems + uptoBulkAll spare + 1
  | .agg parts => uptoBulkAll parts + 1
  | .iface _ d => uptoBulk d + 1
  | .map entries => uptoBulkEntries entries + 1
  | .held _ => 1
def uptoBulkAll {H : Type} : List (DataW H) → Nat
  | [] => 0
  | d :: r => uptoBulk d + uptoBulkAll r
def uptoBulkEntries {H : Type} : List (Lit × DataW H) → Nat
  | [] => 0
  | x :: r => uptoBulkEntry x + uptoBulkEntries r
def uptoBulkEntry {H : Type} : Lit × DataW H → Nat
  | (.string bytes, d) => bytes.length + uptoBulk d + 1
  | (_, d) => uptoBulk d + 1
 end
def uptoSmall : (H : Type) → List (DataW H) → Bool := fun _ ds => decide (uptoBulkAll ds ≤ 1048576)
def OpenSpec.upto (s : _root_.Go.ChangeSpec) : _root_.Go.OpenSpec := { _root_.Go.OpenSpec.ofChange s with cond := some uptoSmall }

/-- 'skywaytop.TopLabels', WHERE WHAT IT READS IS OF BULK AT MOST 1048576: true; the input reads as it did. -/
def topLabelsUptoRow : OpenClaim := { program := "ytacdahpjmeianaa", sum := "21bb2307ba38e2775e686c8cb72790c76b4de5acc2da0d04482ed2c68c97c392", func := "skyway/skywaytop.TopLabels", spec := "topLabels", unfollowed := true, recurses := true, apart := false, narrowed := true }
def TopLabelsUptoSaid : Prop := topLabelsUptoRow.holds Try.pinned (OpenSpec.upto topLabelsSpec)

/-- 'skywaylaw4.ClockCuts', WHERE WHAT IT READS IS OF BULK AT MOST 1048576: true; the input reads as it did. -/
def clockCutsUptoRow : OpenClaim := { program := "ytacdahpjmeianaa", sum := "21bb2307ba38e2775e686c8cb72790c76b4de5acc2da0d04482ed2c68c97c392", func := "skyway/skywaylaw4.ClockCuts", spec := "clockCuts", unfollowed := true, recurses := true, apart := false, narrowed := true }
def ClockCutsUptoSaid : Prop := clockCutsUptoRow.holds Try.pinned (OpenSpec.upto clockCutsSpec)

/-- 'skywaylaw4.LabelPlaces', WHERE WHAT IT READS IS OF BULK AT MOST 1048576: true; the input reads as it did. -/
def labelPlacesUptoRow : OpenClaim := { program := "ytacdahpjmeianaa", sum := "21bb2307ba38e2775e686c8cb72790c76b4de5acc2da0d04482ed2c68c97c392", func := "skyway/skywaylaw4.LabelPlaces", spec := "labelPlaces", unfollowed := true, recurses := true, apart := false, narrowed := true }
def LabelPlacesUptoSaid : Prop := labelPlacesUptoRow.holds Try.pinned (OpenSpec.upto labelPlacesSpec)

/-- 'skywaylaw4.ClockSays', WHERE WHAT IT READS IS OF BULK AT MOST 1048576: true; the input reads as it did. -/
def clockSaysUptoRow : OpenClaim := { program := "ytacdahpjmeianaa", sum := "21bb2307ba38e2775e686c8cb72790c76b4de5acc2da0d04482ed2c68c97c392", func := "skyway/skywaylaw4.ClockSays", spec := "clockSays", unfollowed := true, recurses := true, apart := false, narrowed := true }
def ClockSaysUptoSaid : Prop := clockSaysUptoRow.holds Try.pinned (OpenSpec.upto clockSaysSpec)

/-- 'skywaylaw4.ApproachOrders', WHERE WHAT IT READS IS OF BULK AT MOST 1048576: true; the input reads as it did. -/
def approachOrdersUptoRow : OpenClaim := { program := "ytacdahpjmeianaa", sum := "21bb2307ba38e2775e686c8cb72790c76b4de5acc2da0d04482ed2c68c97c392", func := "skyway/skywaylaw4.ApproachOrders", spec := "approachOrders", unfollowed := true, recurses := true, apart := false, narrowed := true }
def ApproachOrdersUptoSaid : Prop := approachOrdersUptoRow.holds Try.pinned (OpenSpec.upto approachOrdersSpec)

/-- 'skywaylaw4.HoldSays', WHERE WHAT IT READS IS OF BULK AT MOST 1048576: true; the input reads as it did. -/
def holdSaysUptoRow : OpenClaim := { program := "ytacdahpjmeianaa", sum := "21bb2307ba38e2775e686c8cb72790c76b4de5acc2da0d04482ed2c68c97c392", func := "skyway/skywaylaw4.HoldSays", spec := "holdSays", unfollowed := true, recurses := true, apart := false, narrowed := true }
def HoldSaysUptoSaid : Prop := holdSaysUptoRow.holds Try.pinned (OpenSpec.upto holdSaysSpec)

/-- 'skywaylaw2.WireEncodes', WHERE WHAT IT READS IS OF BULK AT MOST 1048576: true; the input reads as it did. -/
def wireEncodesUptoRow : OpenClaim := { program := "ytacdahpjmeianaa", sum := "21bb2307ba38e2775e686c8cb72790c76b4de5acc2da0d04482ed2c68c97c392", func := "skyway/skywaylaw2.WireEncodes", spec := "wireEncodes", inPlace := ["math.Float64bits", "math.Float64frombits"], recurses := true, apart := false, narrowed := true }
def WireEncodesUptoSaid : Prop := wireEncodesUptoRow.holds Try.pinned (OpenSpec.upto wireEncodesSpec)

/-- 'skywaylaw2.AssignBest', WHERE WHAT IT READS IS OF BULK AT MOST 1048576: true; the input reads as it did. -/
def assignBestUptoRow : OpenClaim := { program := "ytacdahpjmeianaa", sum := "21bb2307ba38e2775e686c8cb72790c76b4de5acc2da0d04482ed2c68c97c392", func := "skyway/skywaylaw2.AssignBest", spec := "assignBest", apart := false, narrowed := true }
def AssignBestUptoSaid : Prop := assignBestUptoRow.holds Try.pinned (OpenSpec.upto assignBestSpec)

/-- 'skywaylaw4.ScreenPictures', WHERE WHAT IT READS IS OF BULK AT MOST 1048576: true; the input reads as it did. -/
def screenPicturesUptoRow : OpenClaim := { program := "ytacdahpjmeianaa", sum := "21bb2307ba38e2775e686c8cb72790c76b4de5acc2da0d04482ed2c68c97c392", func := "skyway/skywaylaw4.ScreenPictures", spec := "screenPictures", unfollowed := true, recurses := true, apart := false, narrowed := true }
def ScreenPicturesUptoSaid : Prop := screenPicturesUptoRow.holds Try.pinned (OpenSpec.upto screenPicturesSpec)

/-- 'skywaylaw2.WireDecodes', WHERE WHAT IT READS IS OF BULK AT MOST 1048576: true; the input reads as it did. -/
def wireDecodesUptoRow : OpenClaim := { program := "ytacdahpjmeianaa", sum := "21bb2307ba38e2775e686c8cb72790c76b4de5acc2da0d04482ed2c68c97c392", func := "skyway/skywaylaw2.WireDecodes", spec := "wireDecodes", inPlace := ["math.Float64bits", "math.Float64frombits"], recurses := true, apart := false, narrowed := true }
def WireDecodesUptoSaid : Prop := wireDecodesUptoRow.holds Try.pinned (OpenSpec.upto wireDecodesSpec)

end Rows
end Go.Proofs.Ytacdahpjmeianaa

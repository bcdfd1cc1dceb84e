/-
  No cell of these rows narrows 'for every input' (looked for: loops, veiled, ifaces, maps, wideKeys, modest, calm, conditions, laid).
  DERIVED. THE GIVEN ROWS OF THIS SEAT. 12 by the template 'for every input the law returns true; each argument reads behind the call as it read before'; 0 by the template 'total and deterministic' (their statements: YtpndjpjpmcehbaaTotals.lean).
  GIVEN WITH THE SEED: the statements are not yours to turn. If you find one false, say at which input.
  Laid BY PROGRAM, IN A SANDBOX (cutbox-rows.mjs): the forced cells as the released guide's own fill.sh prints them over the translation 6fef3016e72c4826… (all of the seat's roots in one cut). By AI agents, Wed Nov 11 2026. No macro, syntax, notation, axiom, sorry.
-/
import Derived.Test.YtpndjpjpmcehbaaChecked
import GoSem.Claim
import GoSem.ClaimJoined
import GoSem.ClaimMapViews
import Derived.JoinedTies
import Derived.KernelRfl
namespace Go.Proofs.Ytpndjpjpmcehbaa
/- THE CELL 'sum', in the pinned program and in every row, IS THE sha256 OF THE DUMP (.gsa) THAT YtpndjpjpmcehbaaProg.lean LOADS. Nothing in Lean hashes anything: it is a label: what it is worth is what the hold of that sum in a sandbox is worth. -/
noncomputable def Try.pinned : Pinned := { name := "ytpndjpjpmcehbaa", sum := "6fef3016e72c4826c96e5ff45ccacab592c4a0fd684826301fb84f329862bea6", checked := Try.checked }
namespace Rows
def none {H : Type} : Left H := { results := [], args := [] }

/-- 'skywaylaw2.TerrainPoints': WHATEVER THE INPUT: true; the input reads as it did. -/
def terrainPointsSpec : ChangeSpec := { name := "terrainPoints", fn := fun _ => fun
  | [d1, d2, d3] => { results := [.lit (.bool true)], args := [d1, d2, d3] }
  | _ => none }
def terrainPointsRow : OpenClaim := { program := "ytpndjpjpmcehbaa", sum := "6fef3016e72c4826c96e5ff45ccacab592c4a0fd684826301fb84f329862bea6", func := "skyway/skywaylaw2.TerrainPoints", spec := "terrainPoints", apart := false }
def TerrainPointsSaid : Prop := terrainPointsRow.holds Try.pinned (OpenSpec.ofChange terrainPointsSpec)

/-- ITS FALSE NEIGHBOUR: 'it returns false'. Refute it at one input. -/
def terrainPointsWrong : ChangeSpec := { name := "terrainPoints", fn := fun _ => fun
  | [d1, d2, d3] => { results := [.lit (.bool false)], args := [d1, d2, d3] }
  | _ => none }
def TerrainPointsWrongFalsely : Prop := terrainPointsRow.holds Try.pinned (OpenSpec.ofChange terrainPointsWrong)

/-- 'skywaylaw2.ClimbBounds': WHATEVER THE INPUT: true; the input reads as it did. -/
def climbBoundsSpec : ChangeSpec := { name := "climbBounds", fn := fun _ => fun
  | [d1, d2] => { results := [.lit (.bool true)], args := [d1, d2] }
  | _ => none }
def climbBoundsRow : OpenClaim := { program := "ytpndjpjpmcehbaa", sum := "6fef3016e72c4826c96e5ff45ccacab592c4a0fd684826301fb84f329862bea6", func := "skyway/skywaylaw2.ClimbBounds", spec := "climbBounds", apart := false }
def ClimbBoundsSaid : Prop := climbBoundsRow.holds Try.pinned (OpenSpec.ofChange climbBoundsSpec)

/-- ITS FALSE NEIGHBOUR: 'it returns false'. Refute it at one input. -/
def climbBoundsWrong : ChangeSpec := { name := "climbBounds", fn := fun _ => fun
  | [d1, d2] => { results := [.lit (.bool false)], args := [d1, d2] }
  | _ => none }
def ClimbBoundsWrongFalsely : Prop := climbBoundsRow.holds Try.pinned (OpenSpec.ofChange climbBoundsWrong)

/-- 'skywaylaw2.FilterPredicts': WHATEVER THE INPUT: true; the input reads as it did. -/
def filterPredictsSpec : ChangeSpec := { name := "filterPredicts", fn := fun _ => fun
  | [d1, d2, d3] => { results := [.lit (.bool true)], args := [d1, d2, d3] }
  | _ => none }
def filterPredictsRow : OpenClaim := { program := "ytpndjpjpmcehbaa", sum := "6fef3016e72c4826c96e5ff45ccacab592c4a0fd684826301fb84f329862bea6", func := "skyway/skywaylaw2.FilterPredicts", spec := "filterPredicts", unfollowed := true, recurses := true, apart := false }
def FilterPredictsSaid : Prop := filterPredictsRow.holds Try.pinned (OpenSpec.ofChange filterPredictsSpec)

/-- ITS FALSE NEIGHBOUR: 'it returns false'. Refute it at one input. -/
def filterPredictsWrong : ChangeSpec := { name := "filterPredicts", fn := fun _ => fun
  | [d1, d2, d3] => { results := [.lit (.bool false)], args := [d1, d2, d3] }
  | _ => none }
def FilterPredictsWrongFalsely : Prop := filterPredictsRow.holds Try.pinned (OpenSpec.ofChange filterPredictsWrong)

/-- 'skywaylaw2.BeginRuns': WHATEVER THE INPUT: true; the input reads as it did. -/
def beginRunsSpec : ChangeSpec := { name := "beginRuns", fn := fun _ => fun
  | [d1, d2, d3] => { results := [.lit (.bool true)], args := [d1, d2, d3] }
  | _ => none }
def beginRunsRow : OpenClaim := { program := "ytpndjpjpmcehbaa", sum := "6fef3016e72c4826c96e5ff45ccacab592c4a0fd684826301fb84f329862bea6", func := "skyway/skywaylaw2.BeginRuns", spec := "beginRuns", unfollowed := true, recurses := true, apart := false }
def BeginRunsSaid : Prop := beginRunsRow.holds Try.pinned (OpenSpec.ofChange beginRunsSpec)

/-- ITS FALSE NEIGHBOUR: 'it returns false'. Refute it at one input. -/
def beginRunsWrong : ChangeSpec := { name := "beginRuns", fn := fun _ => fun
  | [d1, d2, d3] => { results := [.lit (.bool false)], args := [d1, d2, d3] }
  | _ => none }
def BeginRunsWrongFalsely : Prop := beginRunsRow.holds Try.pinned (OpenSpec.ofChange beginRunsWrong)

/-- 'skywaylaw2.FilterUpdates': WHATEVER THE INPUT: true; the input reads as it did. -/
def filterUpdatesSpec : ChangeSpec := { name := "filterUpdates", fn := fun _ => fun
  | [d1, d2, d3, d4, d5] => { results := [.lit (.bool true)], args := [d1, d2, d3, d4, d5] }
  | _ => none }
def filterUpdatesRow : OpenClaim := { program := "ytpndjpjpmcehbaa", sum := "6fef3016e72c4826c96e5ff45ccacab592c4a0fd684826301fb84f329862bea6", func := "skyway/skywaylaw2.FilterUpdates", spec := "filterUpdates", unfollowed := true, recurses := true, apart := false }
def FilterUpdatesSaid : Prop := filterUpdatesRow.holds Try.pinned (OpenSpec.ofChange filterUpdatesSpec)

/-- ITS FALSE NEIGHBOUR: 'it returns false'. Refute it at one input. -/
def filterUpdatesWrong : ChangeSpec := { name := "filterUpdates", fn := fun _ => fun
  | [d1, d2, d3, d4, d5] => { results := [.lit (.bool false)], args := [d1, d2, d3, d4, d5] }
  | _ => none }
def FilterUpdatesWrongFalsely : Prop := filterUpdatesRow.holds Try.pinned (OpenSpec.ofChange filterUpdatesWrong)

/-- 'skywaylaw2.AlertFirst': WHATEVER THE INPUT: true; the input reads as it did. -/
def alertFirstSpec : ChangeSpec := { name := "alertFirst", fn := fun _ => fun
  | [d1, d2, d3, d4, d5, d6] => { results := [.lit (.bool true)], args := [d1, d2, d3, d4, d5, d6] }
  | _ => none }
def alertFirstRow : OpenClaim := { program := "ytpndjpjpmcehbaa", sum := "6fef3016e72c4826c96e5ff45ccacab592c4a0fd684826301fb84f329862bea6", func := "skyway/skywaylaw2.AlertFirst", spec := "alertFirst", unfollowed := true, recurses := true, apart := false }
def AlertFirstSaid : Prop := alertFirstRow.holds Try.pinned (OpenSpec.ofChange alertFirstSpec)

/-- ITS FALSE NEIGHBOUR: 'it returns false'. Refute it at one input. -/
def alertFirstWrong : ChangeSpec := { name := "alertFirst", fn := fun _ => fun
  | [d1, d2, d3, d4, d5, d6] => { results := [.lit (.bool false)], args := [d1, d2, d3, d4, d5, d6] }
  | _ => none }
def AlertFirstWrongFalsely : Prop := alertFirstRow.holds Try.pinned (OpenSpec.ofChange alertFirstWrong)

/-- 'skywaylaw2.PairCosts': WHATEVER THE INPUT: true; the input reads as it did. -/
def pairCostsSpec : ChangeSpec := { name := "pairCosts", fn := fun _ => fun
  | [d1, d2, d3] => { results := [.lit (.bool true)], args := [d1, d2, d3] }
  | _ => none }
def pairCostsRow : OpenClaim := { program := "ytpndjpjpmcehbaa", sum := "6fef3016e72c4826c96e5ff45ccacab592c4a0fd684826301fb84f329862bea6", func := "skyway/skywaylaw2.PairCosts", spec := "pairCosts", apart := false }
def PairCostsSaid : Prop := pairCostsRow.holds Try.pinned (OpenSpec.ofChange pairCostsSpec)

/-- ITS FALSE NEIGHBOUR: 'it returns false'. Refute it at one input. -/
def pairCostsWrong : ChangeSpec := { name := "pairCosts", fn := fun _ => fun
  | [d1, d2, d3] => { results := [.lit (.bool false)], args := [d1, d2, d3] }
  | _ => none }
def PairCostsWrongFalsely : Prop := pairCostsRow.holds Try.pinned (OpenSpec.ofChange pairCostsWrong)

/-- 'skywaylaw2.ConformCompares': WHATEVER THE INPUT: true; the input reads as it did. -/
def conformComparesSpec : ChangeSpec := { name := "conformCompares", fn := fun _ => fun
  | [d1, d2] => { results := [.lit (.bool true)], args := [d1, d2] }
  | _ => none }
def conformComparesRow : OpenClaim := { program := "ytpndjpjpmcehbaa", sum := "6fef3016e72c4826c96e5ff45ccacab592c4a0fd684826301fb84f329862bea6", func := "skyway/skywaylaw2.ConformCompares", spec := "conformCompares", inPlace := ["math.sqrt"], apart := false }
def ConformComparesSaid : Prop := conformComparesRow.holds Try.pinned (OpenSpec.ofChange conformComparesSpec)

/-- ITS FALSE NEIGHBOUR: 'it returns false'. Refute it at one input. -/
def conformComparesWrong : ChangeSpec := { name := "conformCompares", fn := fun _ => fun
  | [d1, d2] => { results := [.lit (.bool false)], args := [d1, d2] }
  | _ => none }
def ConformComparesWrongFalsely : Prop := conformComparesRow.holds Try.pinned (OpenSpec.ofChange conformComparesWrong)

/-- 'skywaylaw2.BiasMedians': WHATEVER THE INPUT: true; the input reads as it did. -/
def biasMediansSpec : ChangeSpec := { name := "biasMedians", fn := fun _ => fun
  | [d1, d2] => { results := [.lit (.bool true)], args := [d1, d2] }
  | _ => none }
def biasMediansRow : OpenClaim := { program := "ytpndjpjpmcehbaa", sum := "6fef3016e72c4826c96e5ff45ccacab592c4a0fd684826301fb84f329862bea6", func := "skyway/skywaylaw2.BiasMedians", spec := "biasMedians", recurses := true, apart := false }
def BiasMediansSaid : Prop := biasMediansRow.holds Try.pinned (OpenSpec.ofChange biasMediansSpec)

/-- ITS FALSE NEIGHBOUR: 'it returns false'. Refute it at one input. -/
def biasMediansWrong : ChangeSpec := { name := "biasMedians", fn := fun _ => fun
  | [d1, d2] => { results := [.lit (.bool false)], args := [d1, d2] }
  | _ => none }
def BiasMediansWrongFalsely : Prop := biasMediansRow.holds Try.pinned (OpenSpec.ofChange biasMediansWrong)

/-- 'skywaylaw2.MosaicSees': WHATEVER THE INPUT: true; the input reads as it did. -/
def mosaicSeesSpec : ChangeSpec := { name := "mosaicSees", fn := fun _ => fun
  | [d1, d2] => { results := [.lit (.bool true)], args := [d1, d2] }
  | _ => none }
def mosaicSeesRow : OpenClaim := { program := "ytpndjpjpmcehbaa", sum := "6fef3016e72c4826c96e5ff45ccacab592c4a0fd684826301fb84f329862bea6", func := "skyway/skywaylaw2.MosaicSees", spec := "mosaicSees", unfollowed := true, recurses := true, apart := false }
def MosaicSeesSaid : Prop := mosaicSeesRow.holds Try.pinned (OpenSpec.ofChange mosaicSeesSpec)

/-- ITS FALSE NEIGHBOUR: 'it returns false'. Refute it at one input. -/
def mosaicSeesWrong : ChangeSpec := { name := "mosaicSees", fn := fun _ => fun
  | [d1, d2] => { results := [.lit (.bool false)], args := [d1, d2] }
  | _ => none }
def MosaicSeesWrongFalsely : Prop := mosaicSeesRow.holds Try.pinned (OpenSpec.ofChange mosaicSeesWrong)

/-- 'skywaylaw2.MosaicMerges': WHATEVER THE INPUT: true; the input reads as it did. -/
def mosaicMergesSpec : ChangeSpec := { name := "mosaicMerges", fn := fun _ => fun
  | [d] => { results := [.lit (.bool true)], args := [d] }
  | _ => none }
def mosaicMergesRow : OpenClaim := { program := "ytpndjpjpmcehbaa", sum := "6fef3016e72c4826c96e5ff45ccacab592c4a0fd684826301fb84f329862bea6", func := "skyway/skywaylaw2.MosaicMerges", spec := "mosaicMerges", unfollowed := true, recurses := true, apart := false }
def MosaicMergesSaid : Prop := mosaicMergesRow.holds Try.pinned (OpenSpec.ofChange mosaicMergesSpec)

/-- ITS FALSE NEIGHBOUR: 'it returns false'. Refute it at one input. -/
def mosaicMergesWrong : ChangeSpec := { name := "mosaicMerges", fn := fun _ => fun
  | [d] => { results := [.lit (.bool false)], args := [d] }
  | _ => none }
def MosaicMergesWrongFalsely : Prop := mosaicMergesRow.holds Try.pinned (OpenSpec.ofChange mosaicMergesWrong)

/-- 'skywaylaw2.FuseSpots': WHATEVER THE INPUT: true; the input reads as it did. -/
def fuseSpotsSpec : ChangeSpec := { name := "fuseSpots", fn := fun _ => fun
  | [d1, d2] => { results := [.lit (.bool true)], args := [d1, d2] }
  | _ => none }
def fuseSpotsRow : OpenClaim := { program := "ytpndjpjpmcehbaa", sum := "6fef3016e72c4826c96e5ff45ccacab592c4a0fd684826301fb84f329862bea6", func := "skyway/skywaylaw2.FuseSpots", spec := "fuseSpots", unfollowed := true, recurses := true, apart := false }
def FuseSpotsSaid : Prop := fuseSpotsRow.holds Try.pinned (OpenSpec.ofChange fuseSpotsSpec)

/-- ITS FALSE NEIGHBOUR: 'it returns false'. Refute it at one input. -/
def fuseSpotsWrong : ChangeSpec := { name := "fuseSpots", fn := fun _ => fun
  | [d1, d2] => { results := [.lit (.bool false)], args := [d1, d2] }
  | _ => none }
def FuseSpotsWrongFalsely : Prop := fuseSpotsRow.holds Try.pinned (OpenSpec.ofChange fuseSpotsWrong)

/- THE SECOND FORM. 'bulk': how many values and letters a reading holds, each counted each time it is reached (what is shared counts as often as it is met; a slice's spare places count too). A statement '..UptoSaid' is the law's where the arguments, and the package variables that the reading takes, are together of bulk at most 1048576: NARROWER than '..Said'. Prove '..Said' where nothing that the law and all that it calls make is longer than what came in: it says more and counts as full. Else prove '..UptoSaid'. A law counts once. -/
mutual
def uptoBulk {H : Type} : DataW H → Nat
  | .lit (.string bytes) => bytes.length + 1
  | .lit _ => 1
  | .nil => 1
  | .ptr d => uptoBulk d + 1
  | .slice elems spare => uptoBulkAll elems + uptoBulkAll spare + 1
  | .agg parts => uptoBulkAll parts + 1
  | .iface _ d => uptoBulk d + 1
  | .map entries => uptoBulkEntries entries + 1
  | .held _ => 1
def uptoBulkAll {H : Type} : List (DataW H) → Nat
  | [] => 0
  | d :: r => uptoBulk d + uptoBulkAll r
def uptoBulkEntries {H : Type} : List (Lit × DataW H) → Nat
  | [] => 0
  | x :: r => uptoBulkEntry x + uptoBulkEntries r
def uptoBulkEntry {H : Type} : Lit × DataW H → Nat
  | (.string bytes, d) => bytes.length + uptoBulk d + 1
  | (_, d) => uptoBulk d + 1
 end
def uptoSmall : (H : Type) → List (DataW H) → Bool := fun _ ds => decide (uptoBulkAll ds ≤ 1048576)
def OpenSpec.upto (s : _root_.Go.ChangeSpec) : _root_.Go.OpenSpec := { _root_.Go.OpenSpec.ofChange s with cond := some uptoSmall }

/-- 'skywaylaw2.TerrainPoints', WHERE WHAT IT READS IS OF BULK AT MOST 1048576: true; the input reads as it did. -/
def terrainPointsUptoRow : OpenClaim := { program := "ytpndjpjpmcehbaa", sum := "6fef3016e72c4826c96e5ff45ccacab592c4a0fd684826301fb84f329862bea6", func := "skyway/skywaylaw2.TerrainPoints", spec := "terrainPoints", apart := false, narrowed := true }
def TerrainPointsUptoSaid : Prop := terrainPointsUptoRow.holds Try.pinned (OpenSpec.upto terrainPointsSpec)

/-- 'skywaylaw2.ClimbBounds', WHERE WHAT IT READS IS OF BULK AT MOST 1048576: true; the input reads as it did. -/
def climbBoundsUptoRow : OpenClaim := { program := "ytpndjpjpmcehbaa", sum := "6fef3016e72c4826c96e5ff45ccacab592c4a0fd684826301fb84f329862bea6", func := "skyway/skywaylaw2.ClimbBounds", spec := "climbBounds", apart := false, narrowed := true }
def ClimbBoundsUptoSaid : Prop := climbBoundsUptoRow.holds Try.pinned (OpenSpec.upto climbBoundsSpec)

/-- 'skywaylaw2.FilterPredicts', WHERE WHAT IT READS IS OF BULK AT MOST 1048576: true; the input reads as it did. -/
def filterPredictsUptoRow : OpenClaim := { program := "ytpndjpjpmcehbaa", sum := "6fef3016e72c4826c96e5ff45ccacab592c4a0fd684826301fb84f329862bea6", func := "skyway/skywaylaw2.FilterPredicts", spec := "filterPredicts", unfollowed := true, recurses := true, apart := false, narrowed := true }
def FilterPredictsUptoSaid : Prop := filterPredictsUptoRow.holds Try.pinned (OpenSpec.upto filterPredictsSpec)

/-- 'skywaylaw2.BeginRuns', WHERE WHAT IT READS IS OF BULK AT MOST 1048576: true; the input reads as it did. -/
def beginRunsUptoRow : OpenClaim := { program := "ytpndjpjpmcehbaa", sum := "6fef3016e72c4826c96e5ff45ccacab592c4a0fd684826301fb84f329862bea6", func := "skyway/skywaylaw2.BeginRuns", spec := "beginRuns", unfollowed := true, recurses := true, apart := false, narrowed := true }
def BeginRunsUptoSaid : Prop := beginRunsUptoRow.holds Try.pinned (OpenSpec.upto beginRunsSpec)

/-- 'skywaylaw2.FilterUpdates', WHERE WHAT IT READS IS OF BULK AT MOST 1048576: true; the input reads as it did. -/
def filterUpdatesUptoRow : OpenClaim := { program := "ytpndjpjpmcehbaa", sum := "6fef3016e72c4826c96e5ff45ccacab592c4a0fd684826301fb84f329862bea6", func := "skyway/skywaylaw2.FilterUpdates", spec := "filterUpdates", unfollowed := true, recurses := true, apart := false, narrowed := true }
def FilterUpdatesUptoSaid : Prop := filterUpdatesUptoRow.holds Try.pinned (OpenSpec.upto filterUpdatesSpec)

/-- 'skywaylaw2.AlertFirst', WHERE WHAT IT READS IS OF BULK AT MOST 1048576: true; the input reads as it did. -/
def alertFirstUptoRow : OpenClaim := { program := "ytpndjpjpmcehbaa", sum := "6fef3016e72c4826c96e5ff45ccacab592c4a0fd684826301fb84f329862bea6", func := "skyway/skywaylaw2.AlertFirst", spec := "alertFirst", unfollowed := true, recurses := true, apart := false, narrowed := true }
def AlertFirstUptoSaid : Prop := alertFirstUptoRow.holds Try.pinned (OpenSpec.upto alertFirstSpec)

/-- 'skywaylaw2.PairCosts', WHERE WHAT IT READS IS OF BULK AT MOST 1048576: true; the input reads as it did. -/
def pairCostsUptoRow : OpenClaim := { program := "ytpndjpjpmcehbaa", sum := "6fef3016e72c4826c96e5ff45ccacab592c4a0fd684826301fb84f329862bea6", func := "skyway/skywaylaw2.PairCosts", spec := "pairCosts", apart := false, narrowed := true }
def PairCostsUptoSaid : Prop := pairCostsUptoRow.holds Try.pinned (OpenSpec.upto pairCostsSpec)

/-- 'skywaylaw2.ConformCompares', WHERE WHAT IT READS IS OF BULK AT MOST 1048576: true; the input reads as it did. -/
def conformComparesUptoRow : OpenClaim := { program := "ytpndjpjpmcehbaa", sum := "6fef3016e72c4826c96e5ff45ccacab592c4a0fd684826301fb84f329862bea6", func := "skyway/skywaylaw2.ConformCompares", spec := "conformCompares", inPlace := ["math.sqrt"], apart := false, narrowed := true }
def ConformComparesUptoSaid : Prop := conformComparesUptoRow.holds Try.pinned (OpenSpec.upto conformComparesSpec)

/-- 'skywaylaw2.BiasMedians', WHERE WHAT IT READS IS OF BULK AT MOST 1048576: true; the input reads as it did. -/
def biasMediansUptoRow : OpenClaim := { program := "ytpndjpjpmcehbaa", sum := "6fef3016e72c4826c96e5ff45ccacab592c4a0fd684826301fb84f329862bea6", func := "skyway/skywaylaw2.BiasMedians", spec := "biasMedians", recurses := true, apart := false, narrowed := true }
def BiasMediansUptoSaid : Prop := biasMediansUptoRow.holds Try.pinned (OpenSpec.upto biasMediansSpec)

/-- 'skywaylaw2.MosaicSees', WHERE WHAT IT READS IS OF BULK AT MOST 1048576: true; the input reads as it did. -/
def mosaicSeesUptoRow : OpenClaim := { program := "ytpndjpjpmcehbaa", sum := "6fef3016e72c4826c96e5ff45ccacab592c4a0fd684826301fb84f329862bea6", func := "skyway/skywaylaw2.MosaicSees", spec := "mosaicSees", unfollowed := true, recurses := true, apart := false, narrowed := true }
def MosaicSeesUptoSaid : Prop := mosaicSeesUptoRow.holds Try.pinned (OpenSpec.upto mosaicSeesSpec)

/-- 'skywaylaw2.MosaicMerges', WHERE WHAT IT READS IS OF BULK AT MOST 1048576: true; the input reads as it did. -/
def mosaicMergesUptoRow : OpenClaim := { program := "ytpndjpjpmcehbaa", sum := "6fef3016e72c4826c96e5ff45ccacab592c4a0fd684826301fb84f329862bea6", func := "skyway/skywaylaw2.MosaicMerges", spec := "mosaicMerges", unfollowed := true, recurses := true, apart := false, narrowed := true }
def MosaicMergesUptoSaid : Prop := mosaicMergesUptoRow.holds Try.pinned (OpenSpec.upto mosaicMergesSpec)

/-- 'skywaylaw2.FuseSpots', WHERE WHAT IT READS IS OF BULK AT MOST 1048576: true; the input reads as it did. -/
def fuseSpotsUptoRow : OpenClaim := { program := "ytpndjpjpmcehbaa", sum := "6fef3016e72c4826c96e5ff45ccacab592c4a0fd684826301fb84f329862bea6", func := "skyway/skywaylaw2.FuseSpots", spec := "fuseSpots", unfollowed := true, recurses := true, apart := false, narrowed := true }
def FuseSpotsUptoSaid : Prop := fuseSpotsUptoRow.holds Try.pinned (OpenSpec.upto fuseSpotsSpec)

end Rows
end Go.Proofs.Ytpndjpjpmcehbaa

/-
  No cell of these rows narrows 'for every input' (looked for: loops, veiled, ifaces, maps, wideKeys, modest, calm, conditions, laid).
  DERIVED. THE GIVEN ROWS OF THIS SEAT. 23 by the template 'for every input the law returns true; each argument reads behind the call as it read before'; 0 by the template 'total and deterministic' (their statements: YtknhlpmmalcchaaTotals.lean).
  GIVEN WITH THE SEED: the statements are not yours to turn. If you find one false, say at which input.
  Laid BY PROGRAM, IN A SANDBOX (cutbox-rows.mjs): the forced cells as the released guide's own fill.sh prints them over the translation f0cca2196f725e6d… (all of the seat's roots in one cut). By AI agents, Wed Nov 11 2026. No macro, syntax, notation, axiom, sorry.
-/
import Derived.Test.YtknhlpmmalcchaaChecked
import GoSem.Claim
import GoSem.ClaimJoined
import GoSem.ClaimMapViews
import Derived.JoinedTies
import Derived.KernelRfl
namespace Go.Proofs.Ytknhlpmmalcchaa
/- THE CELL 'sum', in the pinned program and in every row, IS THE sha256 OF THE DUMP (.gsa) THAT YtknhlpmmalcchaaProg.lean LOADS. Nothing in Lean hashes anything: it is a label: what it is worth is what the hold of that sum in a sandbox is worth. -/
noncomputable def Try.pinned : Pinned := { name := "ytknhlpmmalcchaa", sum := "f0cca2196f725e6d7730bfa8b6b0ab65dcc60b42c1ef711cded925807637a5a0", checked := Try.checked }
namespace Rows
def none {H : Type} : Left H := { results := [], args := [] }

/-- 'milestonelaw12.IndexBack': WHATEVER THE INPUT: true; the input reads as it did. -/
def indexBackSpec : ChangeSpec := { name := "indexBack", fn := fun _ => fun
  | [d1, d2, d3] => { results := [.lit (.bool true)], args := [d1, d2, d3] }
  | _ => none }
def indexBackRow : OpenClaim := { program := "ytknhlpmmalcchaa", sum := "f0cca2196f725e6d7730bfa8b6b0ab65dcc60b42c1ef711cded925807637a5a0", func := "milestone/milestonelaw12.IndexBack", spec := "indexBack", unfollowed := true, recurses := true, plainKeys := false, apart := false }
def IndexBackSaid : Prop := indexBackRow.holds Try.pinned (OpenSpec.ofChange indexBackSpec)

/-- ITS FALSE NEIGHBOUR: 'it returns false'. Refute it at one input. -/
def indexBackWrong : ChangeSpec := { name := "indexBack", fn := fun _ => fun
  | [d1, d2, d3] => { results := [.lit (.bool false)], args := [d1, d2, d3] }
  | _ => none }
def IndexBackWrongFalsely : Prop := indexBackRow.holds Try.pinned (OpenSpec.ofChange indexBackWrong)

/-- 'milestonelaw12.IndexReads': WHATEVER THE INPUT: true; the input reads as it did. -/
def indexReadsSpec : ChangeSpec := { name := "indexReads", fn := fun _ => fun
  | [d1, d2, d3, d4, d5, d6, d7] => { results := [.lit (.bool true)], args := [d1, d2, d3, d4, d5, d6, d7] }
  | _ => none }
def indexReadsRow : OpenClaim := { program := "ytknhlpmmalcchaa", sum := "f0cca2196f725e6d7730bfa8b6b0ab65dcc60b42c1ef711cded925807637a5a0", func := "milestone/milestonelaw12.IndexReads", spec := "indexReads", unfollowed := true, recurses := true, plainKeys := false, apart := false }
def IndexReadsSaid : Prop := indexReadsRow.holds Try.pinned (OpenSpec.ofChange indexReadsSpec)

/-- ITS FALSE NEIGHBOUR: 'it returns false'. Refute it at one input. -/
def indexReadsWrong : ChangeSpec := { name := "indexReads", fn := fun _ => fun
  | [d1, d2, d3, d4, d5, d6, d7] => { results := [.lit (.bool false)], args := [d1, d2, d3, d4, d5, d6, d7] }
  | _ => none }
def IndexReadsWrongFalsely : Prop := indexReadsRow.holds Try.pinned (OpenSpec.ofChange indexReadsWrong)

/-- 'milestonelaw12.IndexSpoilt': WHATEVER THE INPUT: true; the input reads as it did. -/
def indexSpoiltSpec : ChangeSpec := { name := "indexSpoilt", fn := fun _ => fun
  | [d1, d2, d3, d4, d5, d6] => { results := [.lit (.bool true)], args := [d1, d2, d3, d4, d5, d6] }
  | _ => none }
def indexSpoiltRow : OpenClaim := { program := "ytknhlpmmalcchaa", sum := "f0cca2196f725e6d7730bfa8b6b0ab65dcc60b42c1ef711cded925807637a5a0", func := "milestone/milestonelaw12.IndexSpoilt", spec := "indexSpoilt", unfollowed := true, recurses := true, plainKeys := false, apart := false }
def IndexSpoiltSaid : Prop := indexSpoiltRow.holds Try.pinned (OpenSpec.ofChange indexSpoiltSpec)

/-- ITS FALSE NEIGHBOUR: 'it returns false'. Refute it at one input. -/
def indexSpoiltWrong : ChangeSpec := { name := "indexSpoilt", fn := fun _ => fun
  | [d1, d2, d3, d4, d5, d6] => { results := [.lit (.bool false)], args := [d1, d2, d3, d4, d5, d6] }
  | _ => none }
def IndexSpoiltWrongFalsely : Prop := indexSpoiltRow.holds Try.pinned (OpenSpec.ofChange indexSpoiltWrong)

/-- 'milestonelaw12.IndexOnly': WHATEVER THE INPUT: true; the input reads as it did. -/
def indexOnlySpec : ChangeSpec := { name := "indexOnly", fn := fun _ => fun
  | [d1, d2, d3, d4] => { results := [.lit (.bool true)], args := [d1, d2, d3, d4] }
  | _ => none }
def indexOnlyRow : OpenClaim := { program := "ytknhlpmmalcchaa", sum := "f0cca2196f725e6d7730bfa8b6b0ab65dcc60b42c1ef711cded925807637a5a0", func := "milestone/milestonelaw12.IndexOnly", spec := "indexOnly", unfollowed := true, recurses := true, plainKeys := false, apart := false }
def IndexOnlySaid : Prop := indexOnlyRow.holds Try.pinned (OpenSpec.ofChange indexOnlySpec)

/-- ITS FALSE NEIGHBOUR: 'it returns false'. Refute it at one input. -/
def indexOnlyWrong : ChangeSpec := { name := "indexOnly", fn := fun _ => fun
  | [d1, d2, d3, d4] => { results := [.lit (.bool false)], args := [d1, d2, d3, d4] }
  | _ => none }
def IndexOnlyWrongFalsely : Prop := indexOnlyRow.holds Try.pinned (OpenSpec.ofChange indexOnlyWrong)

/-- 'milestonelaw12.IndexSize': WHATEVER THE INPUT: true; the input reads as it did. -/
def indexSizeSpec : ChangeSpec := { name := "indexSize", fn := fun _ => fun
  | [d1, d2, d3] => { results := [.lit (.bool true)], args := [d1, d2, d3] }
  | _ => none }
def indexSizeRow : OpenClaim := { program := "ytknhlpmmalcchaa", sum := "f0cca2196f725e6d7730bfa8b6b0ab65dcc60b42c1ef711cded925807637a5a0", func := "milestone/milestonelaw12.IndexSize", spec := "indexSize", unfollowed := true, recurses := true, plainKeys := false, apart := false }
def IndexSizeSaid : Prop := indexSizeRow.holds Try.pinned (OpenSpec.ofChange indexSizeSpec)

/-- ITS FALSE NEIGHBOUR: 'it returns false'. Refute it at one input. -/
def indexSizeWrong : ChangeSpec := { name := "indexSize", fn := fun _ => fun
  | [d1, d2, d3] => { results := [.lit (.bool false)], args := [d1, d2, d3] }
  | _ => none }
def IndexSizeWrongFalsely : Prop := indexSizeRow.holds Try.pinned (OpenSpec.ofChange indexSizeWrong)

/-- 'milestonelaw12.IndexApart': WHATEVER THE INPUT: true; the input reads as it did. -/
def indexApartSpec : ChangeSpec := { name := "indexApart", fn := fun _ => fun
  | [d1, d2, d3, d4, d5] => { results := [.lit (.bool true)], args := [d1, d2, d3, d4, d5] }
  | _ => none }
def indexApartRow : OpenClaim := { program := "ytknhlpmmalcchaa", sum := "f0cca2196f725e6d7730bfa8b6b0ab65dcc60b42c1ef711cded925807637a5a0", func := "milestone/milestonelaw12.IndexApart", spec := "indexApart", unfollowed := true, recurses := true, plainKeys := false, apart := false }
def IndexApartSaid : Prop := indexApartRow.holds Try.pinned (OpenSpec.ofChange indexApartSpec)

/-- ITS FALSE NEIGHBOUR: 'it returns false'. Refute it at one input. -/
def indexApartWrong : ChangeSpec := { name := "indexApart", fn := fun _ => fun
  | [d1, d2, d3, d4, d5] => { results := [.lit (.bool false)], args := [d1, d2, d3, d4, d5] }
  | _ => none }
def IndexApartWrongFalsely : Prop := indexApartRow.holds Try.pinned (OpenSpec.ofChange indexApartWrong)

/-- 'milestonelaw12.IndexCut': WHATEVER THE INPUT: true; the input reads as it did. -/
def indexCutSpec : ChangeSpec := { name := "indexCut", fn := fun _ => fun
  | [d1, d2, d3, d4] => { results := [.lit (.bool true)], args := [d1, d2, d3, d4] }
  | _ => none }
def indexCutRow : OpenClaim := { program := "ytknhlpmmalcchaa", sum := "f0cca2196f725e6d7730bfa8b6b0ab65dcc60b42c1ef711cded925807637a5a0", func := "milestone/milestonelaw12.IndexCut", spec := "indexCut", unfollowed := true, recurses := true, plainKeys := false, apart := false }
def IndexCutSaid : Prop := indexCutRow.holds Try.pinned (OpenSpec.ofChange indexCutSpec)

/-- ITS FALSE NEIGHBOUR: 'it returns false'. Refute it at one input. -/
def indexCutWrong : ChangeSpec := { name := "indexCut", fn := fun _ => fun
  | [d1, d2, d3, d4] => { results := [.lit (.bool false)], args := [d1, d2, d3, d4] }
  | _ => none }
def IndexCutWrongFalsely : Prop := indexCutRow.holds Try.pinned (OpenSpec.ofChange indexCutWrong)

/-- 'milestonelaw12.IndexCounts': WHATEVER THE INPUT: true; the input reads as it did. -/
def indexCountsSpec : ChangeSpec := { name := "indexCounts", fn := fun _ => fun
  | [d1, d2, d3] => { results := [.lit (.bool true)], args := [d1, d2, d3] }
  | _ => none }
def indexCountsRow : OpenClaim := { program := "ytknhlpmmalcchaa", sum := "f0cca2196f725e6d7730bfa8b6b0ab65dcc60b42c1ef711cded925807637a5a0", func := "milestone/milestonelaw12.IndexCounts", spec := "indexCounts", unfollowed := true, recurses := true, plainKeys := false, apart := false }
def IndexCountsSaid : Prop := indexCountsRow.holds Try.pinned (OpenSpec.ofChange indexCountsSpec)

/-- ITS FALSE NEIGHBOUR: 'it returns false'. Refute it at one input. -/
def indexCountsWrong : ChangeSpec := { name := "indexCounts", fn := fun _ => fun
  | [d1, d2, d3] => { results := [.lit (.bool false)], args := [d1, d2, d3] }
  | _ => none }
def IndexCountsWrongFalsely : Prop := indexCountsRow.holds Try.pinned (OpenSpec.ofChange indexCountsWrong)

/-- 'milestonelaw12.IndexHead': WHATEVER THE INPUT: true; the input reads as it did. -/
def indexHeadSpec : ChangeSpec := { name := "indexHead", fn := fun _ => fun
  | [d1, d2, d3, d4] => { results := [.lit (.bool true)], args := [d1, d2, d3, d4] }
  | _ => none }
def indexHeadRow : OpenClaim := { program := "ytknhlpmmalcchaa", sum := "f0cca2196f725e6d7730bfa8b6b0ab65dcc60b42c1ef711cded925807637a5a0", func := "milestone/milestonelaw12.IndexHead", spec := "indexHead", unfollowed := true, recurses := true, plainKeys := false, apart := false }
def IndexHeadSaid : Prop := indexHeadRow.holds Try.pinned (OpenSpec.ofChange indexHeadSpec)

/-- ITS FALSE NEIGHBOUR: 'it returns false'. Refute it at one input. -/
def indexHeadWrong : ChangeSpec := { name := "indexHead", fn := fun _ => fun
  | [d1, d2, d3, d4] => { results := [.lit (.bool false)], args := [d1, d2, d3, d4] }
  | _ => none }
def IndexHeadWrongFalsely : Prop := indexHeadRow.holds Try.pinned (OpenSpec.ofChange indexHeadWrong)

/-- 'milestonelaw10.OrderAll': WHATEVER THE INPUT: true; the input reads as it did. -/
def orderAllSpec : ChangeSpec := { name := "orderAll", fn := fun _ => fun
  | [d1, d2, d3] => { results := [.lit (.bool true)], args := [d1, d2, d3] }
  | _ => none }
def orderAllRow : OpenClaim := { program := "ytknhlpmmalcchaa", sum := "f0cca2196f725e6d7730bfa8b6b0ab65dcc60b42c1ef711cded925807637a5a0", func := "milestone/milestonelaw10.OrderAll", spec := "orderAll", unfollowed := true, recurses := true, plainKeys := false, apart := false }
def OrderAllSaid : Prop := orderAllRow.holds Try.pinned (OpenSpec.ofChange orderAllSpec)

/-- ITS FALSE NEIGHBOUR: 'it returns false'. Refute it at one input. -/
def orderAllWrong : ChangeSpec := { name := "orderAll", fn := fun _ => fun
  | [d1, d2, d3] => { results := [.lit (.bool false)], args := [d1, d2, d3] }
  | _ => none }
def OrderAllWrongFalsely : Prop := orderAllRow.holds Try.pinned (OpenSpec.ofChange orderAllWrong)

/-- 'milestonelaw10.OrderEach': WHATEVER THE INPUT: true; the input reads as it did. -/
def orderEachSpec : ChangeSpec := { name := "orderEach", fn := fun _ => fun
  | [d1, d2, d3] => { results := [.lit (.bool true)], args := [d1, d2, d3] }
  | _ => none }
def orderEachRow : OpenClaim := { program := "ytknhlpmmalcchaa", sum := "f0cca2196f725e6d7730bfa8b6b0ab65dcc60b42c1ef711cded925807637a5a0", func := "milestone/milestonelaw10.OrderEach", spec := "orderEach", unfollowed := true, recurses := true, plainKeys := false, apart := false }
def OrderEachSaid : Prop := orderEachRow.holds Try.pinned (OpenSpec.ofChange orderEachSpec)

/-- ITS FALSE NEIGHBOUR: 'it returns false'. Refute it at one input. -/
def orderEachWrong : ChangeSpec := { name := "orderEach", fn := fun _ => fun
  | [d1, d2, d3] => { results := [.lit (.bool false)], args := [d1, d2, d3] }
  | _ => none }
def OrderEachWrongFalsely : Prop := orderEachRow.holds Try.pinned (OpenSpec.ofChange orderEachWrong)

/-- 'milestonelaw10.OrderCosts': WHATEVER THE INPUT: true; the input reads as it did. -/
def orderCostsSpec : ChangeSpec := { name := "orderCosts", fn := fun _ => fun
  | [d1, d2, d3, d4] => { results := [.lit (.bool true)], args := [d1, d2, d3, d4] }
  | _ => none }
def orderCostsRow : OpenClaim := { program := "ytknhlpmmalcchaa", sum := "f0cca2196f725e6d7730bfa8b6b0ab65dcc60b42c1ef711cded925807637a5a0", func := "milestone/milestonelaw10.OrderCosts", spec := "orderCosts", unfollowed := true, recurses := true, plainKeys := false, apart := false }
def OrderCostsSaid : Prop := orderCostsRow.holds Try.pinned (OpenSpec.ofChange orderCostsSpec)

/-- ITS FALSE NEIGHBOUR: 'it returns false'. Refute it at one input. -/
def orderCostsWrong : ChangeSpec := { name := "orderCosts", fn := fun _ => fun
  | [d1, d2, d3, d4] => { results := [.lit (.bool false)], args := [d1, d2, d3, d4] }
  | _ => none }
def OrderCostsWrongFalsely : Prop := orderCostsRow.holds Try.pinned (OpenSpec.ofChange orderCostsWrong)

/-- 'milestonelaw10.OrderKnown': WHATEVER THE INPUT: true; the input reads as it did. -/
def orderKnownSpec : ChangeSpec := { name := "orderKnown", fn := fun _ => fun
  | [d] => { results := [.lit (.bool true)], args := [d] }
  | _ => none }
def orderKnownRow : OpenClaim := { program := "ytknhlpmmalcchaa", sum := "f0cca2196f725e6d7730bfa8b6b0ab65dcc60b42c1ef711cded925807637a5a0", func := "milestone/milestonelaw10.OrderKnown", spec := "orderKnown", unfollowed := true, recurses := true, plainKeys := false, apart := false }
def OrderKnownSaid : Prop := orderKnownRow.holds Try.pinned (OpenSpec.ofChange orderKnownSpec)

/-- ITS FALSE NEIGHBOUR: 'it returns false'. Refute it at one input. -/
def orderKnownWrong : ChangeSpec := { name := "orderKnown", fn := fun _ => fun
  | [d] => { results := [.lit (.bool false)], args := [d] }
  | _ => none }
def OrderKnownWrongFalsely : Prop := orderKnownRow.holds Try.pinned (OpenSpec.ofChange orderKnownWrong)

/-- 'milestonelaw10.OrderMode': WHATEVER THE INPUT: true; the input reads as it did. -/
def orderModeSpec : ChangeSpec := { name := "orderMode", fn := fun _ => fun
  | [d1, d2, d3, d4] => { results := [.lit (.bool true)], args := [d1, d2, d3, d4] }
  | _ => none }
def orderModeRow : OpenClaim := { program := "ytknhlpmmalcchaa", sum := "f0cca2196f725e6d7730bfa8b6b0ab65dcc60b42c1ef711cded925807637a5a0", func := "milestone/milestonelaw10.OrderMode", spec := "orderMode", unfollowed := true, recurses := true, plainKeys := false, apart := false }
def OrderModeSaid : Prop := orderModeRow.holds Try.pinned (OpenSpec.ofChange orderModeSpec)

/-- ITS FALSE NEIGHBOUR: 'it returns false'. Refute it at one input. -/
def orderModeWrong : ChangeSpec := { name := "orderMode", fn := fun _ => fun
  | [d1, d2, d3, d4] => { results := [.lit (.bool false)], args := [d1, d2, d3, d4] }
  | _ => none }
def OrderModeWrongFalsely : Prop := orderModeRow.holds Try.pinned (OpenSpec.ofChange orderModeWrong)

/-- 'milestonelaw11.HierBuilds': WHATEVER THE INPUT: true; the input reads as it did. -/
def hierBuildsSpec : ChangeSpec := { name := "hierBuilds", fn := fun _ => fun
  | [d1, d2, d3] => { results := [.lit (.bool true)], args := [d1, d2, d3] }
  | _ => none }
def hierBuildsRow : OpenClaim := { program := "ytknhlpmmalcchaa", sum := "f0cca2196f725e6d7730bfa8b6b0ab65dcc60b42c1ef711cded925807637a5a0", func := "milestone/milestonelaw11.HierBuilds", spec := "hierBuilds", unfollowed := true, recurses := true, plainKeys := false, apart := false }
def HierBuildsSaid : Prop := hierBuildsRow.holds Try.pinned (OpenSpec.ofChange hierBuildsSpec)

/-- ITS FALSE NEIGHBOUR: 'it returns false'. Refute it at one input. -/
def hierBuildsWrong : ChangeSpec := { name := "hierBuilds", fn := fun _ => fun
  | [d1, d2, d3] => { results := [.lit (.bool false)], args := [d1, d2, d3] }
  | _ => none }
def HierBuildsWrongFalsely : Prop := hierBuildsRow.holds Try.pinned (OpenSpec.ofChange hierBuildsWrong)

/-- 'milestonelaw11.HierRanks': WHATEVER THE INPUT: true; the input reads as it did. -/
def hierRanksSpec : ChangeSpec := { name := "hierRanks", fn := fun _ => fun
  | [d1, d2, d3] => { results := [.lit (.bool true)], args := [d1, d2, d3] }
  | _ => none }
def hierRanksRow : OpenClaim := { program := "ytknhlpmmalcchaa", sum := "f0cca2196f725e6d7730bfa8b6b0ab65dcc60b42c1ef711cded925807637a5a0", func := "milestone/milestonelaw11.HierRanks", spec := "hierRanks", unfollowed := true, recurses := true, plainKeys := false, apart := false }
def HierRanksSaid : Prop := hierRanksRow.holds Try.pinned (OpenSpec.ofChange hierRanksSpec)

/-- ITS FALSE NEIGHBOUR: 'it returns false'. Refute it at one input. -/
def hierRanksWrong : ChangeSpec := { name := "hierRanks", fn := fun _ => fun
  | [d1, d2, d3] => { results := [.lit (.bool false)], args := [d1, d2, d3] }
  | _ => none }
def HierRanksWrongFalsely : Prop := hierRanksRow.holds Try.pinned (OpenSpec.ofChange hierRanksWrong)

/-- 'milestonelaw11.HierKeeps': WHATEVER THE INPUT: true; the input reads as it did. -/
def hierKeepsSpec : ChangeSpec := { name := "hierKeeps", fn := fun _ => fun
  | [d1, d2, d3] => { results := [.lit (.bool true)], args := [d1, d2, d3] }
  | _ => none }
def hierKeepsRow : OpenClaim := { program := "ytknhlpmmalcchaa", sum := "f0cca2196f725e6d7730bfa8b6b0ab65dcc60b42c1ef711cded925807637a5a0", func := "milestone/milestonelaw11.HierKeeps", spec := "hierKeeps", unfollowed := true, recurses := true, plainKeys := false, apart := false }
def HierKeepsSaid : Prop := hierKeepsRow.holds Try.pinned (OpenSpec.ofChange hierKeepsSpec)

/-- ITS FALSE NEIGHBOUR: 'it returns false'. Refute it at one input. -/
def hierKeepsWrong : ChangeSpec := { name := "hierKeeps", fn := fun _ => fun
  | [d1, d2, d3] => { results := [.lit (.bool false)], args := [d1, d2, d3] }
  | _ => none }
def HierKeepsWrongFalsely : Prop := hierKeepsRow.holds Try.pinned (OpenSpec.ofChange hierKeepsWrong)

/-- 'milestonelaw11.HierCore': WHATEVER THE INPUT: true; the input reads as it did. -/
def hierCoreSpec : ChangeSpec := { name := "hierCore", fn := fun _ => fun
  | [d1, d2] => { results := [.lit (.bool true)], args := [d1, d2] }
  | _ => none }
def hierCoreRow : OpenClaim := { program := "ytknhlpmmalcchaa", sum := "f0cca2196f725e6d7730bfa8b6b0ab65dcc60b42c1ef711cded925807637a5a0", func := "milestone/milestonelaw11.HierCore", spec := "hierCore", unfollowed := true, recurses := true, plainKeys := false, apart := false }
def HierCoreSaid : Prop := hierCoreRow.holds Try.pinned (OpenSpec.ofChange hierCoreSpec)

/-- ITS FALSE NEIGHBOUR: 'it returns false'. Refute it at one input. -/
def hierCoreWrong : ChangeSpec := { name := "hierCore", fn := fun _ => fun
  | [d1, d2] => { results := [.lit (.bool false)], args := [d1, d2] }
  | _ => none }
def HierCoreWrongFalsely : Prop := hierCoreRow.holds Try.pinned (OpenSpec.ofChange hierCoreWrong)

/-- 'milestonelaw11.HierCosts': WHATEVER THE INPUT: true; the input reads as it did. -/
def hierCostsSpec : ChangeSpec := { name := "hierCosts", fn := fun _ => fun
  | [d1, d2, d3] => { results := [.lit (.bool true)], args := [d1, d2, d3] }
  | _ => none }
def hierCostsRow : OpenClaim := { program := "ytknhlpmmalcchaa", sum := "f0cca2196f725e6d7730bfa8b6b0ab65dcc60b42c1ef711cded925807637a5a0", func := "milestone/milestonelaw11.HierCosts", spec := "hierCosts", unfollowed := true, recurses := true, plainKeys := false, apart := false }
def HierCostsSaid : Prop := hierCostsRow.holds Try.pinned (OpenSpec.ofChange hierCostsSpec)

/-- ITS FALSE NEIGHBOUR: 'it returns false'. Refute it at one input. -/
def hierCostsWrong : ChangeSpec := { name := "hierCosts", fn := fun _ => fun
  | [d1, d2, d3] => { results := [.lit (.bool false)], args := [d1, d2, d3] }
  | _ => none }
def HierCostsWrongFalsely : Prop := hierCostsRow.holds Try.pinned (OpenSpec.ofChange hierCostsWrong)

/-- 'milestonelaw11.HierArcs': WHATEVER THE INPUT: true; the input reads as it did. -/
def hierArcsSpec : ChangeSpec := { name := "hierArcs", fn := fun _ => fun
  | [d1, d2, d3] => { results := [.lit (.bool true)], args := [d1, d2, d3] }
  | _ => none }
def hierArcsRow : OpenClaim := { program := "ytknhlpmmalcchaa", sum := "f0cca2196f725e6d7730bfa8b6b0ab65dcc60b42c1ef711cded925807637a5a0", func := "milestone/milestonelaw11.HierArcs", spec := "hierArcs", unfollowed := true, recurses := true, plainKeys := false, apart := false }
def HierArcsSaid : Prop := hierArcsRow.holds Try.pinned (OpenSpec.ofChange hierArcsSpec)

/-- ITS FALSE NEIGHBOUR: 'it returns false'. Refute it at one input. -/
def hierArcsWrong : ChangeSpec := { name := "hierArcs", fn := fun _ => fun
  | [d1, d2, d3] => { results := [.lit (.bool false)], args := [d1, d2, d3] }
  | _ => none }
def HierArcsWrongFalsely : Prop := hierArcsRow.holds Try.pinned (OpenSpec.ofChange hierArcsWrong)

/-- 'milestonelaw11.HierShort': WHATEVER THE INPUT: true; the input reads as it did. -/
def hierShortSpec : ChangeSpec := { name := "hierShort", fn := fun _ => fun
  | [d1, d2, d3] => { results := [.lit (.bool true)], args := [d1, d2, d3] }
  | _ => none }
def hierShortRow : OpenClaim := { program := "ytknhlpmmalcchaa", sum := "f0cca2196f725e6d7730bfa8b6b0ab65dcc60b42c1ef711cded925807637a5a0", func := "milestone/milestonelaw11.HierShort", spec := "hierShort", unfollowed := true, recurses := true, plainKeys := false, apart := false }
def HierShortSaid : Prop := hierShortRow.holds Try.pinned (OpenSpec.ofChange hierShortSpec)

/-- ITS FALSE NEIGHBOUR: 'it returns false'. Refute it at one input. -/
def hierShortWrong : ChangeSpec := { name := "hierShort", fn := fun _ => fun
  | [d1, d2, d3] => { results := [.lit (.bool false)], args := [d1, d2, d3] }
  | _ => none }
def HierShortWrongFalsely : Prop := hierShortRow.holds Try.pinned (OpenSpec.ofChange hierShortWrong)

/-- 'milestonelaw11.HierOwn': WHATEVER THE INPUT: true; the input reads as it did. -/
def hierOwnSpec : ChangeSpec := { name := "hierOwn", fn := fun _ => fun
  | [d1, d2, d3] => { results := [.lit (.bool true)], args := [d1, d2, d3] }
  | _ => none }
def hierOwnRow : OpenClaim := { program := "ytknhlpmmalcchaa", sum := "f0cca2196f725e6d7730bfa8b6b0ab65dcc60b42c1ef711cded925807637a5a0", func := "milestone/milestonelaw11.HierOwn", spec := "hierOwn", unfollowed := true, recurses := true, plainKeys := false, apart := false }
def HierOwnSaid : Prop := hierOwnRow.holds Try.pinned (OpenSpec.ofChange hierOwnSpec)

/-- ITS FALSE NEIGHBOUR: 'it returns false'. Refute it at one input. -/
def hierOwnWrong : ChangeSpec := { name := "hierOwn", fn := fun _ => fun
  | [d1, d2, d3] => { results := [.lit (.bool false)], args := [d1, d2, d3] }
  | _ => none }
def HierOwnWrongFalsely : Prop := hierOwnRow.holds Try.pinned (OpenSpec.ofChange hierOwnWrong)

/-- 'milestonelaw11.HierLong': WHATEVER THE INPUT: true; the input reads as it did. -/
def hierLongSpec : ChangeSpec := { name := "hierLong", fn := fun _ => fun
  | [d] => { results := [.lit (.bool true)], args := [d] }
  | _ => none }
def hierLongRow : OpenClaim := { program := "ytknhlpmmalcchaa", sum := "f0cca2196f725e6d7730bfa8b6b0ab65dcc60b42c1ef711cded925807637a5a0", func := "milestone/milestonelaw11.HierLong", spec := "hierLong", unfollowed := true, recurses := true, plainKeys := false, apart := false }
def HierLongSaid : Prop := hierLongRow.holds Try.pinned (OpenSpec.ofChange hierLongSpec)

/-- ITS FALSE NEIGHBOUR: 'it returns false'. Refute it at one input. -/
def hierLongWrong : ChangeSpec := { name := "hierLong", fn := fun _ => fun
  | [d] => { results := [.lit (.bool false)], args := [d] }
  | _ => none }
def HierLongWrongFalsely : Prop := hierLongRow.holds Try.pinned (OpenSpec.ofChange hierLongWrong)

/- THE SECOND FORM. 'bulk': how many values and letters a reading holds, each counted each time it is reached (what is shared counts as often as it is met; a slice's spare places count too). A statement '..UptoSaid' is the law's where the arguments, and the package variables that the reading takes, are together of bulk at most 1048576: NARROWER than '..Said'. Prove '..Said' where nothing that the law and all that it calls make is longer than what came in: it says more and counts as full. Else prove '..UptoSaid'. A law counts once. -/
mutual
def uptoBulk {H : Type} : DataW H → Nat
  | .lit (.string bytes) => bytes.length + 1
  | .lit _ => 1
  | .nil => 1
  | .ptr d => uptoBulk d + 1
  | .slice elems spare => uptoBulkAll elems + uptoBulkAll spare + 1
  | .agg parts => uptoBulkAll parts + 1
  | .iface _ d => uptoBulk d + 1
  | .map entries => uptoBulkEntries entries + 1
  | .held _ => 1
def uptoBulkAll {H : Type} : List (DataW H) → Nat
  | [] => 0
  | d :: r => uptoBulk d + uptoBulkAll r
def uptoBulkEntries {H : Type} : List (Lit × DataW H) → Nat
  | [] => 0
  | x :: r => uptoBulkEntry x + uptoBulkEntries r
def uptoBulkEntry {H : Type} : Lit × DataW H → Nat
  | (.string bytes, d) => bytes.length + uptoBulk d + 1
  | (_, d) => uptoBulk d + 1
 end
def uptoSmall : (H : Type) → List (DataW H) → Bool := fun _ ds => decide (uptoBulkAll ds ≤ 1048576)
def OpenSpec.upto (s : _root_.Go.ChangeSpec) : _root_.Go.OpenSpec := { _root_.Go.OpenSpec.ofChange s with cond := some uptoSmall }

/-- 'milestonelaw12.IndexBack', WHERE WHAT IT READS IS OF BULK AT MOST 1048576: true; the input reads as it did. -/
def indexBackUptoRow : OpenClaim := { program := "ytknhlpmmalcchaa", sum := "f0cca2196f725e6d7730bfa8b6b0ab65dcc60b42c1ef711cded925807637a5a0", func := "milestone/milestonelaw12.IndexBack", spec := "indexBack", unfollowed := true, recurses := true, plainKeys := false, apart := false, narrowed := true }
def IndexBackUptoSaid : Prop := indexBackUptoRow.holds Try.pinned (OpenSpec.upto indexBackSpec)

/-- 'milestonelaw12.IndexReads', WHERE WHAT IT READS IS OF BULK AT MOST 1048576: true; the input reads as it did. -/
def indexReadsUptoRow : OpenClaim := { program := "ytknhlpmmalcchaa", sum := "f0cca2196f725e6d7730bfa8b6b0ab65dcc60b42c1ef711cded925807637a5a0", func := "milestone/milestonelaw12.IndexReads", spec := "indexReads", unfollowed := true, recurses := true, plainKeys := false, apart := false, narrowed := true }
def IndexReadsUptoSaid : Prop := indexReadsUptoRow.holds Try.pinned (OpenSpec.upto indexReadsSpec)

/-- 'milestonelaw12.IndexSpoilt', WHERE WHAT IT READS IS OF BULK AT MOST 1048576: true; the input reads as it did. -/
def indexSpoiltUptoRow : OpenClaim := { program := "ytknhlpmmalcchaa", sum := "f0cca2196f725e6d7730bfa8b6b0ab65dcc60b42c1ef711cded925807637a5a0", func := "milestone/milestonelaw12.IndexSpoilt", spec := "indexSpoilt", unfollowed := true, recurses := true, plainKeys := false, apart := false, narrowed := true }
def IndexSpoiltUptoSaid : Prop := indexSpoiltUptoRow.holds Try.pinned (OpenSpec.upto indexSpoiltSpec)

/-- 'milestonelaw12.IndexOnly', WHERE WHAT IT READS IS OF BULK AT MOST 1048576: true; the input reads as it did. -/
def indexOnlyUptoRow : OpenClaim := { program := "ytknhlpmmalcchaa", sum := "f0cca2196f725e6d7730bfa8b6b0ab65dcc60b42c1ef711cded925807637a5a0", func := "milestone/milestonelaw12.IndexOnly", spec := "indexOnly", unfollowed := true, recurses := true, plainKeys := false, apart := false, narrowed := true }
def IndexOnlyUptoSaid : Prop := indexOnlyUptoRow.holds Try.pinned (OpenSpec.upto indexOnlySpec)

/-- 'milestonelaw12.IndexSize', WHERE WHAT IT READS IS OF BULK AT MOST 1048576: true; the input reads as it did. -/
def indexSizeUptoRow : OpenClaim := { program := "ytknhlpmmalcchaa", sum := "f0cca2196f725e6d7730bfa8b6b0ab65dcc60b42c1ef711cded925807637a5a0", func := "milestone/milestonelaw12.IndexSize", spec := "indexSize", unfollowed := true, recurses := true, plainKeys := false, apart := false, narrowed := true }
def IndexSizeUptoSaid : Prop := indexSizeUptoRow.holds Try.pinned (OpenSpec.upto indexSizeSpec)

/-- 'milestonelaw12.IndexApart', WHERE WHAT IT READS IS OF BULK AT MOST 1048576: true; the input reads as it did. -/
def indexApartUptoRow : OpenClaim := { program := "ytknhlpmmalcchaa", sum := "f0cca2196f725e6d7730bfa8b6b0ab65dcc60b42c1ef711cded925807637a5a0", func := "milestone/milestonelaw12.IndexApart", spec := "indexApart", unfollowed := true, recurses := true, plainKeys := false, apart := false, narrowed := true }
def IndexApartUptoSaid : Prop := indexApartUptoRow.holds Try.pinned (OpenSpec.upto indexApartSpec)

/-- 'milestonelaw12.IndexCut', WHERE WHAT IT READS IS OF BULK AT MOST 1048576: true; the input reads as it did. -/
def indexCutUptoRow : OpenClaim := { program := "ytknhlpmmalcchaa", sum := "f0cca2196f725e6d7730bfa8b6b0ab65dcc60b42c1ef711cded925807637a5a0", func := "milestone/milestonelaw12.IndexCut", spec := "indexCut", unfollowed := true, recurses := true, plainKeys := false, apart := false, narrowed := true }
def IndexCutUptoSaid : Prop := indexCutUptoRow.holds Try.pinned (OpenSpec.upto indexCutSpec)

/-- 'milestonelaw12.IndexCounts', WHERE WHAT IT READS IS OF BULK AT MOST 1048576: true; the input reads as it did. -/
def indexCountsUptoRow : OpenClaim := { program := "ytknhlpmmalcchaa", sum := "f0cca2196f725e6d7730bfa8b6b0ab65dcc60b42c1ef711cded925807637a5a0", func := "milestone/milestonelaw12.IndexCounts", spec := "indexCounts", unfollowed := true, recurses := true, plainKeys := false, apart := false, narrowed := true }
def IndexCountsUptoSaid : Prop := indexCountsUptoRow.holds Try.pinned (OpenSpec.upto indexCountsSpec)

/-- 'milestonelaw12.IndexHead', WHERE WHAT IT READS IS OF BULK AT MOST 1048576: true; the input reads as it did. -/
def indexHeadUptoRow : OpenClaim := { program := "ytknhlpmmalcchaa", sum := "f0cca2196f725e6d7730bfa8b6b0ab65dcc60b42c1ef711cded925807637a5a0", func := "milestone/milestonelaw12.IndexHead", spec := "indexHead", unfollowed := true, recurses := true, plainKeys := false, apart := false, narrowed := true }
def IndexHeadUptoSaid : Prop := indexHeadUptoRow.holds Try.pinned (OpenSpec.upto indexHeadSpec)

/-- 'milestonelaw10.OrderAll', WHERE WHAT IT READS IS OF BULK AT MOST 1048576: true; the input reads as it did. -/
def orderAllUptoRow : OpenClaim := { program := "ytknhlpmmalcchaa", sum := "f0cca2196f725e6d7730bfa8b6b0ab65dcc60b42c1ef711cded925807637a5a0", func := "milestone/milestonelaw10.OrderAll", spec := "orderAll", unfollowed := true, recurses := true, plainKeys := false, apart := false, narrowed := true }
def OrderAllUptoSaid : Prop := orderAllUptoRow.holds Try.pinned (OpenSpec.upto orderAllSpec)

/-- 'milestonelaw10.OrderEach', WHERE WHAT IT READS IS OF BULK AT MOST 1048576: true; the input reads as it did. -/
def orderEachUptoRow : OpenClaim := { program := "ytknhlpmmalcchaa", sum := "f0cca2196f725e6d7730bfa8b6b0ab65dcc60b42c1ef711cded925807637a5a0", func := "milestone/milestonelaw10.OrderEach", spec := "orderEach", unfollowed := true, recurses := true, plainKeys := false, apart := false, narrowed := true }
def OrderEachUptoSaid : Prop := orderEachUptoRow.holds Try.pinned (OpenSpec.upto orderEachSpec)

/-- 'milestonelaw10.OrderCosts', WHERE WHAT IT READS IS OF BULK AT MOST 1048576: true; the input reads as it did. -/
def orderCostsUptoRow : OpenClaim := { program := "ytknhlpmmalcchaa", sum := "f0cca2196f725e6d7730bfa8b6b0ab65dcc60b42c1ef711cded925807637a5a0", func := "milestone/milestonelaw10.OrderCosts", spec := "orderCosts", unfollowed := true, recurses := true, plainKeys := false, apart := false, narrowed := true }
def OrderCostsUptoSaid : Prop := orderCostsUptoRow.holds Try.pinned (OpenSpec.upto orderCostsSpec)

/-- 'milestonelaw10.OrderKnown', WHERE WHAT IT READS IS OF BULK AT MOST 1048576: true; the input reads as it did. -/
def orderKnownUptoRow : OpenClaim := { program := "ytknhlpmmalcchaa", sum := "f0cca2196f725e6d7730bfa8b6b0ab65dcc60b42c1ef711cded925807637a5a0", func := "milestone/milestonelaw10.OrderKnown", spec := "orderKnown", unfollowed := true, recurses := true, plainKeys := false, apart := false, narrowed := true }
def OrderKnownUptoSaid : Prop := orderKnownUptoRow.holds Try.pinned (OpenSpec.upto orderKnownSpec)

/-- 'milestonelaw10.OrderMode', WHERE WHAT IT READS IS OF BULK AT MOST 1048576: true; the input reads as it did. -/
def orderModeUptoRow : OpenClaim := { program := "ytknhlpmmalcchaa", sum := "f0cca2196f725e6d7730bfa8b6b0ab65dcc60b42c1ef711cded925807637a5a0", func := "milestone/milestonelaw10.OrderMode", spec := "orderMode", unfollowed := true, recurses := true, plainKeys := false, apart := false, narrowed := true }
def OrderModeUptoSaid : Prop := orderModeUptoRow.holds Try.pinned (OpenSpec.upto orderModeSpec)

/-- 'milestonelaw11.HierBuilds', WHERE WHAT IT READS IS OF BULK AT MOST 1048576: true; the input reads as it did. -/
def hierBuildsUptoRow : OpenClaim := { program := "ytknhlpmmalcchaa", sum := "f0cca2196f725e6d7730bfa8b6b0ab65dcc60b42c1ef711cded925807637a5a0", func := "milestone/milestonelaw11.HierBuilds", spec := "hierBuilds", unfollowed := true, recurses := true, plainKeys := false, apart := false, narrowed := true }
def HierBuildsUptoSaid : Prop := hierBuildsUptoRow.holds Try.pinned (OpenSpec.upto hierBuildsSpec)

/-- 'milestonelaw11.HierRanks', WHERE WHAT IT READS IS OF BULK AT MOST 1048576: true; the input reads as it did. -/
def hierRanksUptoRow : OpenClaim := { program := "ytknhlpmmalcchaa", sum := "f0cca2196f725e6d7730bfa8b6b0ab65dcc60b42c1ef711cded925807637a5a0", func := "milestone/milestonelaw11.HierRanks", spec := "hierRanks", unfollowed := true, recurses := true, plainKeys := false, apart := false, narrowed := true }
def HierRanksUptoSaid : Prop := hierRanksUptoRow.holds Try.pinned (OpenSpec.upto hierRanksSpec)

/-- 'milestonelaw11.HierKeeps', WHERE WHAT IT READS IS OF BULK AT MOST 1048576: true; the input reads as it did. -/
def hierKeepsUptoRow : OpenClaim := { program := "ytknhlpmmalcchaa", sum := "f0cca2196f725e6d7730bfa8b6b0ab65dcc60b42c1ef711cded925807637a5a0", func := "milestone/milestonelaw11.HierKeeps", spec := "hierKeeps", unfollowed := true, recurses := true, plainKeys := false, apart := false, narrowed := true }
def HierKeepsUptoSaid : Prop := hierKeepsUptoRow.holds Try.pinned (OpenSpec.upto hierKeepsSpec)

/-- 'milestonelaw11.HierCore', WHERE WHAT IT READS IS OF BULK AT MOST 1048576: true; the input reads as it did. -/
def hierCoreUptoRow : OpenClaim := { program := "ytknhlpmmalcchaa", sum := "f0cca2196f725e6d7730bfa8b6b0ab65dcc60b42c1ef711cded925807637a5a0", func := "milestone/milestonelaw11.HierCore", spec := "hierCore", unfollowed := true, recurses := true, plainKeys := false, apart := false, narrowed := true }
def HierCoreUptoSaid : Prop := hierCoreUptoRow.holds Try.pinned (OpenSpec.upto hierCoreSpec)

/-- 'milestonelaw11.HierCosts', WHERE WHAT IT READS IS OF BULK AT MOST 1048576: true; the input reads as it did. -/
def hierCostsUptoRow : OpenClaim := { program := "ytknhlpmmalcchaa", sum := "f0cca2196f725e6d7730bfa8b6b0ab65dcc60b42c1ef711cded925807637a5a0", func := "milestone/milestonelaw11.HierCosts", spec := "hierCosts", unfollowed := true, recurses := true, plainKeys := false, apart := false, narrowed := true }
def HierCostsUptoSaid : Prop := hierCostsUptoRow.holds Try.pinned (OpenSpec.upto hierCostsSpec)

/-- 'milestonelaw11.HierArcs', WHERE WHAT IT READS IS OF BULK AT MOST 1048576: true; the input reads as it did. -/
def hierArcsUptoRow : OpenClaim := { program := "ytknhlpmmalcchaa", sum := "f0cca2196f725e6d7730bfa8b6b0ab65dcc60b42c1ef711cded925807637a5a0", func := "milestone/milestonelaw11.HierArcs", spec := "hierArcs", unfollowed := true, recurses := true, plainKeys := false, apart := false, narrowed := true }
def HierArcsUptoSaid : Prop := hierArcsUptoRow.holds Try.pinned (OpenSpec.upto hierArcsSpec)

/-- 'milestonelaw11.HierShort', WHERE WHAT IT READS IS OF BULK AT MOST 1048576: true; the input reads as it did. -/
def hierShortUptoRow : OpenClaim := { program := "ytknhlpmmalcchaa", sum := "f0cca2196f725e6d7730bfa8b6b0ab65dcc60b42c1ef711cded925807637a5a0", func := "milestone/milestonelaw11.HierShort", spec := "hierShort", unfollowed := true, recurses := true, plainKeys := false, apart := false, narrowed := true }
def HierShortUptoSaid : Prop := hierShortUptoRow.holds Try.pinned (OpenSpec.upto hierShortSpec)

/-- 'milestonelaw11.HierOwn', WHERE WHAT IT READS IS OF BULK AT MOST 1048576: true; the input reads as it did. -/
def hierOwnUptoRow : OpenClaim := { program := "ytknhlpmmalcchaa", sum := "f0cca2196f725e6d7730bfa8b6b0ab65dcc60b42c1ef711cded925807637a5a0", func := "milestone/milestonelaw11.HierOwn", spec := "hierOwn", unfollowed := true, recurses := true, plainKeys := false, apart := false, narrowed := true }
def HierOwnUptoSaid : Prop := hierOwnUptoRow.holds Try.pinned (OpenSpec.upto hierOwnSpec)

/-- 'milestonelaw11.HierLong', WHERE WHAT IT READS IS OF BULK AT MOST 1048576: true; the input reads as it did. -/
def hierLongUptoRow : OpenClaim := { program := "ytknhlpmmalcchaa", sum := "f0cca2196f725e6d7730bfa8b6b0ab65dcc60b42c1ef711cded925807637a5a0", func := "milestone/milestonelaw11.HierLong", spec := "hierLong", unfollowed := true, recurses := true, plainKeys := false, apart := false, narrowed := true }
def HierLongUptoSaid : Prop := hierLongUptoRow.holds Try.pinned (OpenSpec.upto hierLongSpec)

end Rows
end Go.Proofs.Ytknhlpmmalcchaa

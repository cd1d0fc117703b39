/-
  No cell of these rows narrows 'for every input' (looked for: loops, veiled, ifaces, maps, wideKeys, modest, calm, conditions, laid).
  DERIVED. THE GIVEN ROWS OF THIS SEAT. 15 by the template 'for every input the law returns true; each argument reads behind the call as it read before'; 0 by the template 'total and deterministic' (their statements: YtphnnjiaiemkcaaTotals.lean).
  GIVEN WITH THE SEED: the statements are not yours to turn. If you find one false, say at which input.
  Laid BY PROGRAM, IN A SANDBOX (cutbox-rows.mjs): the forced cells as the released guide's own fill.sh prints them over the translation e8ae5da84c46349e… (all of the seat's roots in one cut). By AI agents, Wed Nov 11 2026. No macro, syntax, notation, axiom, sorry.
-/
import Derived.Test.YtphnnjiaiemkcaaChecked
import GoSem.Claim
import GoSem.ClaimJoined
import GoSem.ClaimMapViews
import Derived.JoinedTies
import Derived.KernelRfl
namespace Go.Proofs.Ytphnnjiaiemkcaa
/- THE CELL 'sum', in the pinned program and in every row, IS THE sha256 OF THE DUMP (.gsa) THAT YtphnnjiaiemkcaaProg.lean LOADS. Nothing in Lean hashes anything: it is a label: what it is worth is what the hold of that sum in a sandbox is worth. -/
noncomputable def Try.pinned : Pinned := { name := "ytphnnjiaiemkcaa", sum := "e8ae5da84c46349e90d82bace20ba5bdbf289df08a3b0b4c58ae00507b620d59", checked := Try.checked }
namespace Rows
def none {H : Type} : Left H := { results := [], args := [] }

/-- 'cubiclelaw06.PlanGreat': WHATEVER THE INPUT: true; the input reads as it did. -/
def planGreatSpec : ChangeSpec := { name := "planGreat", fn := fun _ => fun
  | [d] => { results := [.lit (.bool true)], args := [d] }
  | _ => none }
def planGreatRow : OpenClaim := { program := "ytphnnjiaiemkcaa", sum := "e8ae5da84c46349e90d82bace20ba5bdbf289df08a3b0b4c58ae00507b620d59", func := "cubicle/cubiclelaw06.PlanGreat", spec := "planGreat", apart := false }
def PlanGreatSaid : Prop := planGreatRow.holds Try.pinned (OpenSpec.ofChange planGreatSpec)

/-- ITS FALSE NEIGHBOUR: 'it returns false'. Refute it at one input. -/
def planGreatWrong : ChangeSpec := { name := "planGreat", fn := fun _ => fun
  | [d] => { results := [.lit (.bool false)], args := [d] }
  | _ => none }
def PlanGreatWrongFalsely : Prop := planGreatRow.holds Try.pinned (OpenSpec.ofChange planGreatWrong)

/-- 'cubiclelaw06.PlanRises': WHATEVER THE INPUT: true; the input reads as it did. -/
def planRisesSpec : ChangeSpec := { name := "planRises", fn := fun _ => fun
  | [d] => { results := [.lit (.bool true)], args := [d] }
  | _ => none }
def planRisesRow : OpenClaim := { program := "ytphnnjiaiemkcaa", sum := "e8ae5da84c46349e90d82bace20ba5bdbf289df08a3b0b4c58ae00507b620d59", func := "cubicle/cubiclelaw06.PlanRises", spec := "planRises", apart := false }
def PlanRisesSaid : Prop := planRisesRow.holds Try.pinned (OpenSpec.ofChange planRisesSpec)

/-- ITS FALSE NEIGHBOUR: 'it returns false'. Refute it at one input. -/
def planRisesWrong : ChangeSpec := { name := "planRises", fn := fun _ => fun
  | [d] => { results := [.lit (.bool false)], args := [d] }
  | _ => none }
def PlanRisesWrongFalsely : Prop := planRisesRow.holds Try.pinned (OpenSpec.ofChange planRisesWrong)

/-- 'cubiclelaw06.PlanMore': WHATEVER THE INPUT: true; the input reads as it did. -/
def planMoreSpec : ChangeSpec := { name := "planMore", fn := fun _ => fun
  | [d1, d2] => { results := [.lit (.bool true)], args := [d1, d2] }
  | _ => none }
def planMoreRow : OpenClaim := { program := "ytphnnjiaiemkcaa", sum := "e8ae5da84c46349e90d82bace20ba5bdbf289df08a3b0b4c58ae00507b620d59", func := "cubicle/cubiclelaw06.PlanMore", spec := "planMore", apart := false }
def PlanMoreSaid : Prop := planMoreRow.holds Try.pinned (OpenSpec.ofChange planMoreSpec)

/-- ITS FALSE NEIGHBOUR: 'it returns false'. Refute it at one input. -/
def planMoreWrong : ChangeSpec := { name := "planMore", fn := fun _ => fun
  | [d1, d2] => { results := [.lit (.bool false)], args := [d1, d2] }
  | _ => none }
def PlanMoreWrongFalsely : Prop := planMoreRow.holds Try.pinned (OpenSpec.ofChange planMoreWrong)

/-- 'cubiclelaw06.PlanAll': WHATEVER THE INPUT: true; the input reads as it did. -/
def planAllSpec : ChangeSpec := { name := "planAll", fn := fun _ => fun
  | [d] => { results := [.lit (.bool true)], args := [d] }
  | _ => none }
def planAllRow : OpenClaim := { program := "ytphnnjiaiemkcaa", sum := "e8ae5da84c46349e90d82bace20ba5bdbf289df08a3b0b4c58ae00507b620d59", func := "cubicle/cubiclelaw06.PlanAll", spec := "planAll", apart := false }
def PlanAllSaid : Prop := planAllRow.holds Try.pinned (OpenSpec.ofChange planAllSpec)

/-- ITS FALSE NEIGHBOUR: 'it returns false'. Refute it at one input. -/
def planAllWrong : ChangeSpec := { name := "planAll", fn := fun _ => fun
  | [d] => { results := [.lit (.bool false)], args := [d] }
  | _ => none }
def PlanAllWrongFalsely : Prop := planAllRow.holds Try.pinned (OpenSpec.ofChange planAllWrong)

/-- 'cubiclelaw06.PlanPlaces': WHATEVER THE INPUT: true; the input reads as it did. -/
def planPlacesSpec : ChangeSpec := { name := "planPlaces", fn := fun _ => fun
  | [d1, d2] => { results := [.lit (.bool true)], args := [d1, d2] }
  | _ => none }
def planPlacesRow : OpenClaim := { program := "ytphnnjiaiemkcaa", sum := "e8ae5da84c46349e90d82bace20ba5bdbf289df08a3b0b4c58ae00507b620d59", func := "cubicle/cubiclelaw06.PlanPlaces", spec := "planPlaces", apart := false }
def PlanPlacesSaid : Prop := planPlacesRow.holds Try.pinned (OpenSpec.ofChange planPlacesSpec)

/-- ITS FALSE NEIGHBOUR: 'it returns false'. Refute it at one input. -/
def planPlacesWrong : ChangeSpec := { name := "planPlaces", fn := fun _ => fun
  | [d1, d2] => { results := [.lit (.bool false)], args := [d1, d2] }
  | _ => none }
def PlanPlacesWrongFalsely : Prop := planPlacesRow.holds Try.pinned (OpenSpec.ofChange planPlacesWrong)

/-- 'cubiclelaw10.HazardClears': WHATEVER THE INPUT: true; the input reads as it did. -/
def hazardClearsSpec : ChangeSpec := { name := "hazardClears", fn := fun _ => fun
  | [d1, d2, d3] => { results := [.lit (.bool true)], args := [d1, d2, d3] }
  | _ => none }
def hazardClearsRow : OpenClaim := { program := "ytphnnjiaiemkcaa", sum := "e8ae5da84c46349e90d82bace20ba5bdbf289df08a3b0b4c58ae00507b620d59", func := "cubicle/cubiclelaw10.HazardClears", spec := "hazardClears", unfollowed := true, recurses := true, apart := false }
def HazardClearsSaid : Prop := hazardClearsRow.holds Try.pinned (OpenSpec.ofChange hazardClearsSpec)

/-- ITS FALSE NEIGHBOUR: 'it returns false'. Refute it at one input. -/
def hazardClearsWrong : ChangeSpec := { name := "hazardClears", fn := fun _ => fun
  | [d1, d2, d3] => { results := [.lit (.bool false)], args := [d1, d2, d3] }
  | _ => none }
def HazardClearsWrongFalsely : Prop := hazardClearsRow.holds Try.pinned (OpenSpec.ofChange hazardClearsWrong)

/-- 'cubiclelaw10.HazardHeld': WHATEVER THE INPUT: true; the input reads as it did. -/
def hazardHeldSpec : ChangeSpec := { name := "hazardHeld", fn := fun _ => fun
  | [d1, d2, d3] => { results := [.lit (.bool true)], args := [d1, d2, d3] }
  | _ => none }
def hazardHeldRow : OpenClaim := { program := "ytphnnjiaiemkcaa", sum := "e8ae5da84c46349e90d82bace20ba5bdbf289df08a3b0b4c58ae00507b620d59", func := "cubicle/cubiclelaw10.HazardHeld", spec := "hazardHeld", unfollowed := true, recurses := true, apart := false }
def HazardHeldSaid : Prop := hazardHeldRow.holds Try.pinned (OpenSpec.ofChange hazardHeldSpec)

/-- ITS FALSE NEIGHBOUR: 'it returns false'. Refute it at one input. -/
def hazardHeldWrong : ChangeSpec := { name := "hazardHeld", fn := fun _ => fun
  | [d1, d2, d3] => { results := [.lit (.bool false)], args := [d1, d2, d3] }
  | _ => none }
def HazardHeldWrongFalsely : Prop := hazardHeldRow.holds Try.pinned (OpenSpec.ofChange hazardHeldWrong)

/-- 'cubiclelaw10.HazardStays': WHATEVER THE INPUT: true; the input reads as it did. -/
def hazardStaysSpec : ChangeSpec := { name := "hazardStays", fn := fun _ => fun
  | [d] => { results := [.lit (.bool true)], args := [d] }
  | _ => none }
def hazardStaysRow : OpenClaim := { program := "ytphnnjiaiemkcaa", sum := "e8ae5da84c46349e90d82bace20ba5bdbf289df08a3b0b4c58ae00507b620d59", func := "cubicle/cubiclelaw10.HazardStays", spec := "hazardStays", unfollowed := true, recurses := true, apart := false }
def HazardStaysSaid : Prop := hazardStaysRow.holds Try.pinned (OpenSpec.ofChange hazardStaysSpec)

/-- ITS FALSE NEIGHBOUR: 'it returns false'. Refute it at one input. -/
def hazardStaysWrong : ChangeSpec := { name := "hazardStays", fn := fun _ => fun
  | [d] => { results := [.lit (.bool false)], args := [d] }
  | _ => none }
def HazardStaysWrongFalsely : Prop := hazardStaysRow.holds Try.pinned (OpenSpec.ofChange hazardStaysWrong)

/-- 'cubiclelaw10.HazardTwo': WHATEVER THE INPUT: true; the input reads as it did. -/
def hazardTwoSpec : ChangeSpec := { name := "hazardTwo", fn := fun _ => fun
  | [d1, d2, d3] => { results := [.lit (.bool true)], args := [d1, d2, d3] }
  | _ => none }
def hazardTwoRow : OpenClaim := { program := "ytphnnjiaiemkcaa", sum := "e8ae5da84c46349e90d82bace20ba5bdbf289df08a3b0b4c58ae00507b620d59", func := "cubicle/cubiclelaw10.HazardTwo", spec := "hazardTwo", unfollowed := true, recurses := true, apart := false }
def HazardTwoSaid : Prop := hazardTwoRow.holds Try.pinned (OpenSpec.ofChange hazardTwoSpec)

/-- ITS FALSE NEIGHBOUR: 'it returns false'. Refute it at one input. -/
def hazardTwoWrong : ChangeSpec := { name := "hazardTwo", fn := fun _ => fun
  | [d1, d2, d3] => { results := [.lit (.bool false)], args := [d1, d2, d3] }
  | _ => none }
def HazardTwoWrongFalsely : Prop := hazardTwoRow.holds Try.pinned (OpenSpec.ofChange hazardTwoWrong)

/-- 'cubiclelaw10.HazardGuards': WHATEVER THE INPUT: true; the input reads as it did. -/
def hazardGuardsSpec : ChangeSpec := { name := "hazardGuards", fn := fun _ => fun
  | [d1, d2, d3] => { results := [.lit (.bool true)], args := [d1, d2, d3] }
  | _ => none }
def hazardGuardsRow : OpenClaim := { program := "ytphnnjiaiemkcaa", sum := "e8ae5da84c46349e90d82bace20ba5bdbf289df08a3b0b4c58ae00507b620d59", func := "cubicle/cubiclelaw10.HazardGuards", spec := "hazardGuards", unfollowed := true, recurses := true, apart := false }
def HazardGuardsSaid : Prop := hazardGuardsRow.holds Try.pinned (OpenSpec.ofChange hazardGuardsSpec)

/-- ITS FALSE NEIGHBOUR: 'it returns false'. Refute it at one input. -/
def hazardGuardsWrong : ChangeSpec := { name := "hazardGuards", fn := fun _ => fun
  | [d1, d2, d3] => { results := [.lit (.bool false)], args := [d1, d2, d3] }
  | _ => none }
def HazardGuardsWrongFalsely : Prop := hazardGuardsRow.holds Try.pinned (OpenSpec.ofChange hazardGuardsWrong)

/-- 'cubiclelaw09.FreeAlone': WHATEVER THE INPUT: true; the input reads as it did. -/
def freeAloneSpec : ChangeSpec := { name := "freeAlone", fn := fun _ => fun
  | [d1, d2] => { results := [.lit (.bool true)], args := [d1, d2] }
  | _ => none }
def freeAloneRow : OpenClaim := { program := "ytphnnjiaiemkcaa", sum := "e8ae5da84c46349e90d82bace20ba5bdbf289df08a3b0b4c58ae00507b620d59", func := "cubicle/cubiclelaw09.FreeAlone", spec := "freeAlone", unfollowed := true, recurses := true, apart := false }
def FreeAloneSaid : Prop := freeAloneRow.holds Try.pinned (OpenSpec.ofChange freeAloneSpec)

/-- ITS FALSE NEIGHBOUR: 'it returns false'. Refute it at one input. -/
def freeAloneWrong : ChangeSpec := { name := "freeAlone", fn := fun _ => fun
  | [d1, d2] => { results := [.lit (.bool false)], args := [d1, d2] }
  | _ => none }
def FreeAloneWrongFalsely : Prop := freeAloneRow.holds Try.pinned (OpenSpec.ofChange freeAloneWrong)

/-- 'cubiclelaw09.FreeTags': WHATEVER THE INPUT: true; the input reads as it did. -/
def freeTagsSpec : ChangeSpec := { name := "freeTags", fn := fun _ => fun
  | [d1, d2] => { results := [.lit (.bool true)], args := [d1, d2] }
  | _ => none }
def freeTagsRow : OpenClaim := { program := "ytphnnjiaiemkcaa", sum := "e8ae5da84c46349e90d82bace20ba5bdbf289df08a3b0b4c58ae00507b620d59", func := "cubicle/cubiclelaw09.FreeTags", spec := "freeTags", unfollowed := true, recurses := true, apart := false }
def FreeTagsSaid : Prop := freeTagsRow.holds Try.pinned (OpenSpec.ofChange freeTagsSpec)

/-- ITS FALSE NEIGHBOUR: 'it returns false'. Refute it at one input. -/
def freeTagsWrong : ChangeSpec := { name := "freeTags", fn := fun _ => fun
  | [d1, d2] => { results := [.lit (.bool false)], args := [d1, d2] }
  | _ => none }
def FreeTagsWrongFalsely : Prop := freeTagsRow.holds Try.pinned (OpenSpec.ofChange freeTagsWrong)

/-- 'cubiclelaw09.FreeStalls': WHATEVER THE INPUT: true; the input reads as it did. -/
def freeStallsSpec : ChangeSpec := { name := "freeStalls", fn := fun _ => fun
  | [d1, d2, d3] => { results := [.lit (.bool true)], args := [d1, d2, d3] }
  | _ => none }
def freeStallsRow : OpenClaim := { program := "ytphnnjiaiemkcaa", sum := "e8ae5da84c46349e90d82bace20ba5bdbf289df08a3b0b4c58ae00507b620d59", func := "cubicle/cubiclelaw09.FreeStalls", spec := "freeStalls", unfollowed := true, recurses := true, apart := false }
def FreeStallsSaid : Prop := freeStallsRow.holds Try.pinned (OpenSpec.ofChange freeStallsSpec)

/-- ITS FALSE NEIGHBOUR: 'it returns false'. Refute it at one input. -/
def freeStallsWrong : ChangeSpec := { name := "freeStalls", fn := fun _ => fun
  | [d1, d2, d3] => { results := [.lit (.bool false)], args := [d1, d2, d3] }
  | _ => none }
def FreeStallsWrongFalsely : Prop := freeStallsRow.holds Try.pinned (OpenSpec.ofChange freeStallsWrong)

/-- 'cubiclelaw09.FreeMany': WHATEVER THE INPUT: true; the input reads as it did. -/
def freeManySpec : ChangeSpec := { name := "freeMany", fn := fun _ => fun
  | [d1, d2, d3] => { results := [.lit (.bool true)], args := [d1, d2, d3] }
  | _ => none }
def freeManyRow : OpenClaim := { program := "ytphnnjiaiemkcaa", sum := "e8ae5da84c46349e90d82bace20ba5bdbf289df08a3b0b4c58ae00507b620d59", func := "cubicle/cubiclelaw09.FreeMany", spec := "freeMany", unfollowed := true, recurses := true, apart := false }
def FreeManySaid : Prop := freeManyRow.holds Try.pinned (OpenSpec.ofChange freeManySpec)

/-- ITS FALSE NEIGHBOUR: 'it returns false'. Refute it at one input. -/
def freeManyWrong : ChangeSpec := { name := "freeMany", fn := fun _ => fun
  | [d1, d2, d3] => { results := [.lit (.bool false)], args := [d1, d2, d3] }
  | _ => none }
def FreeManyWrongFalsely : Prop := freeManyRow.holds Try.pinned (OpenSpec.ofChange freeManyWrong)

/-- 'cubiclelaw11.RetireReclaims': WHATEVER THE INPUT: true; the input reads as it did. -/
def retireReclaimsSpec : ChangeSpec := { name := "retireReclaims", fn := fun _ => fun
  | [d1, d2, d3] => { results := [.lit (.bool true)], args := [d1, d2, d3] }
  | _ => none }
def retireReclaimsRow : OpenClaim := { program := "ytphnnjiaiemkcaa", sum := "e8ae5da84c46349e90d82bace20ba5bdbf289df08a3b0b4c58ae00507b620d59", func := "cubicle/cubiclelaw11.RetireReclaims", spec := "retireReclaims", unfollowed := true, recurses := true, apart := false }
def RetireReclaimsSaid : Prop := retireReclaimsRow.holds Try.pinned (OpenSpec.ofChange retireReclaimsSpec)

/-- ITS FALSE NEIGHBOUR: 'it returns false'. Refute it at one input. -/
def retireReclaimsWrong : ChangeSpec := { name := "retireReclaims", fn := fun _ => fun
  | [d1, d2, d3] => { results := [.lit (.bool false)], args := [d1, d2, d3] }
  | _ => none }
def RetireReclaimsWrongFalsely : Prop := retireReclaimsRow.holds Try.pinned (OpenSpec.ofChange retireReclaimsWrong)

/- THE SECOND FORM. 'bulk': how many values and letters a reading holds, each counted each time it is reached (what is shared counts as often as it is met; a slice's spare places count too). A statement '..UptoSaid' is the law's where the arguments, and the package variables that the reading takes, are together of bulk at most 1048576: NARROWER than '..Said'. Prove '..Said' where nothing that the law and all that it calls make is longer than what came in: it says more and counts as full. Else prove '..UptoSaid'. A law counts once. -/
mutual
def uptoBulk {H : Type} : DataW H → Nat
  | .lit (.string bytes) => bytes.length + 1
  | .lit _ => 1
  | .nil => 1
  | .ptr d => uptoBulk d + 1
  | .slice elems spare => uptoBulkAll elems + uptoBulkAll spare + 1
  | .agg parts => uptoBulkAll parts + 1
  | .iface _ d => uptoBulk d + 1
  | .map entries => uptoBulkEntries entries + 1
  | .held _ => 1
def uptoBulkAll {H : Type} : List (DataW H) → Nat
  | [] => 0
  | d :: r => uptoBulk d + uptoBulkAll r
def uptoBulkEntries {H : Type} : List (Lit × DataW H) → Nat
  | [] => 0
  | x :: r => uptoBulkEntry x + uptoBulkEntries r
def uptoBulkEntry {H : Type} : Lit × DataW H → Nat
  | (.string bytes, d) => bytes.length + uptoBulk d + 1
  | (_, d) => uptoBulk d + 1
 end
def uptoSmall : (H : Type) → List (DataW H) → Bool := fun _ ds => decide (uptoBulkAll ds ≤ 1048576)
def OpenSpec.upto (s : _root_.Go.ChangeSpec) : _root_.Go.OpenSpec := { _root_.Go.OpenSpec.ofChange s with cond := some uptoSmall }

/-- 'cubiclelaw06.PlanGreat', WHERE WHAT IT READS IS OF BULK AT MOST 1048576: true; the input reads as it did. -/
def planGreatUptoRow : OpenClaim := { program := "ytphnnjiaiemkcaa", sum := "e8ae5da84c46349e90d82bace20ba5bdbf289df08a3b0b4c58ae00507b620d59", func := "cubicle/cubiclelaw06.PlanGreat", spec := "planGreat", apart := false, narrowed := true }
def PlanGreatUptoSaid : Prop := planGreatUptoRow.holds Try.pinned (OpenSpec.upto planGreatSpec)

/-- 'cubiclelaw06.PlanRises', WHERE WHAT IT READS IS OF BULK AT MOST 1048576: true; the input reads as it did. -/
def planRisesUptoRow : OpenClaim := { program := "ytphnnjiaiemkcaa", sum := "e8ae5da84c46349e90d82bace20ba5bdbf289df08a3b0b4c58ae00507b620d59", func := "cubicle/cubiclelaw06.PlanRises", spec := "planRises", apart := false, narrowed := true }
def PlanRisesUptoSaid : Prop := planRisesUptoRow.holds Try.pinned (OpenSpec.upto planRisesSpec)

/-- 'cubiclelaw06.PlanMore', WHERE WHAT IT READS IS OF BULK AT MOST 1048576: true; the input reads as it did. -/
def planMoreUptoRow : OpenClaim := { program := "ytphnnjiaiemkcaa", sum := "e8ae5da84c46349e90d82bace20ba5bdbf289df08a3b0b4c58ae00507b620d59", func := "cubicle/cubiclelaw06.PlanMore", spec := "planMore", apart := false, narrowed := true }
def PlanMoreUptoSaid : Prop := planMoreUptoRow.holds Try.pinned (OpenSpec.upto planMoreSpec)

/-- 'cubiclelaw06.PlanAll', WHERE WHAT IT READS IS OF BULK AT MOST 1048576: true; the input reads as it did. -/
def planAllUptoRow : OpenClaim := { program := "ytphnnjiaiemkcaa", sum := "e8ae5da84c46349e90d82bace20ba5bdbf289df08a3b0b4c58ae00507b620d59", func := "cubicle/cubiclelaw06.PlanAll", spec := "planAll", apart := false, narrowed := true }
def PlanAllUptoSaid : Prop := planAllUptoRow.holds Try.pinned (OpenSpec.upto planAllSpec)

/-- 'cubiclelaw06.PlanPlaces', WHERE WHAT IT READS IS OF BULK AT MOST 1048576: true; the input reads as it did. -/
def planPlacesUptoRow : OpenClaim := { program := "ytphnnjiaiemkcaa", sum := "e8ae5da84c46349e90d82bace20ba5bdbf289df08a3b0b4c58ae00507b620d59", func := "cubicle/cubiclelaw06.PlanPlaces", spec := "planPlaces", apart := false, narrowed := true }
def PlanPlacesUptoSaid : Prop := planPlacesUptoRow.holds Try.pinned (OpenSpec.upto planPlacesSpec)

/-- 'cubiclelaw10.HazardClears', WHERE WHAT IT READS IS OF BULK AT MOST 1048576: true; the input reads as it did. -/
def hazardClearsUptoRow : OpenClaim := { program := "ytphnnjiaiemkcaa", sum := "e8ae5da84c46349e90d82bace20ba5bdbf289df08a3b0b4c58ae00507b620d59", func := "cubicle/cubiclelaw10.HazardClears", spec := "hazardClears", unfollowed := true, recurses := true, apart := false, narrowed := true }
def HazardClearsUptoSaid : Prop := hazardClearsUptoRow.holds Try.pinned (OpenSpec.upto hazardClearsSpec)

/-- 'cubiclelaw10.HazardHeld', WHERE WHAT IT READS IS OF BULK AT MOST 1048576: true; the input reads as it did. -/
def hazardHeldUptoRow : OpenClaim := { program := "ytphnnjiaiemkcaa", sum := "e8ae5da84c46349e90d82bace20ba5bdbf289df08a3b0b4c58ae00507b620d59", func := "cubicle/cubiclelaw10.HazardHeld", spec := "hazardHeld", unfollowed := true, recurses := true, apart := false, narrowed := true }
def HazardHeldUptoSaid : Prop := hazardHeldUptoRow.holds Try.pinned (OpenSpec.upto hazardHeldSpec)

/-- 'cubiclelaw10.HazardStays', WHERE WHAT IT READS IS OF BULK AT MOST 1048576: true; the input reads as it did. -/
def hazardStaysUptoRow : OpenClaim := { program := "ytphnnjiaiemkcaa", sum := "e8ae5da84c46349e90d82bace20ba5bdbf289df08a3b0b4c58ae00507b620d59", func := "cubicle/cubiclelaw10.HazardStays", spec := "hazardStays", unfollowed := true, recurses := true, apart := false, narrowed := true }
def HazardStaysUptoSaid : Prop := hazardStaysUptoRow.holds Try.pinned (OpenSpec.upto hazardStaysSpec)

/-- 'cubiclelaw10.HazardTwo', WHERE WHAT IT READS IS OF BULK AT MOST 1048576: true; the input reads as it did. -/
def hazardTwoUptoRow : OpenClaim := { program := "ytphnnjiaiemkcaa", sum := "e8ae5da84c46349e90d82bace20ba5bdbf289df08a3b0b4c58ae00507b620d59", func := "cubicle/cubiclelaw10.HazardTwo", spec := "hazardTwo", unfollowed := true, recurses := true, apart := false, narrowed := true }
def HazardTwoUptoSaid : Prop := hazardTwoUptoRow.holds Try.pinned (OpenSpec.upto hazardTwoSpec)

/-- 'cubiclelaw10.HazardGuards', WHERE WHAT IT READS IS OF BULK AT MOST 1048576: true; the input reads as it did. -/
def hazardGuardsUptoRow : OpenClaim := { program := "ytphnnjiaiemkcaa", sum := "e8ae5da84c46349e90d82bace20ba5bdbf289df08a3b0b4c58ae00507b620d59", func := "cubicle/cubiclelaw10.HazardGuards", spec := "hazardGuards", unfollowed := true, recurses := true, apart := false, narrowed := true }
def HazardGuardsUptoSaid : Prop := hazardGuardsUptoRow.holds Try.pinned (OpenSpec.upto hazardGuardsSpec)

/-- 'cubiclelaw09.FreeAlone', WHERE WHAT IT READS IS OF BULK AT MOST 1048576: true; the input reads as it did. -/
def freeAloneUptoRow : OpenClaim := { program := "ytphnnjiaiemkcaa", sum := "e8ae5da84c46349e90d82bace20ba5bdbf289df08a3b0b4c58ae00507b620d59", func := "cubicle/cubiclelaw09.FreeAlone", spec := "freeAlone", unfollowed := true, recurses := true, apart := false, narrowed := true }
def FreeAloneUptoSaid : Prop := freeAloneUptoRow.holds Try.pinned (OpenSpec.upto freeAloneSpec)

/-- 'cubiclelaw09.FreeTags', WHERE WHAT IT READS IS OF BULK AT MOST 1048576: true; the input reads as it did. -/
def freeTagsUptoRow : OpenClaim := { program := "ytphnnjiaiemkcaa", sum := "e8ae5da84c46349e90d82bace20ba5bdbf289df08a3b0b4c58ae00507b620d59", func := "cubicle/cubiclelaw09.FreeTags", spec := "freeTags", unfollowed := true, recurses := true, apart := false, narrowed := true }
def FreeTagsUptoSaid : Prop := freeTagsUptoRow.holds Try.pinned (OpenSpec.upto freeTagsSpec)

/-- 'cubiclelaw09.FreeStalls', WHERE WHAT IT READS IS OF BULK AT MOST 1048576: true; the input reads as it did. -/
def freeStallsUptoRow : OpenClaim := { program := "ytphnnjiaiemkcaa", sum := "e8ae5da84c46349e90d82bace20ba5bdbf289df08a3b0b4c58ae00507b620d59", func := "cubicle/cubiclelaw09.FreeStalls", spec := "freeStalls", unfollowed := true, recurses := true, apart := false, narrowed := true }
def FreeStallsUptoSaid : Prop := freeStallsUptoRow.holds Try.pinned (OpenSpec.upto freeStallsSpec)

/-- 'cubiclelaw09.FreeMany', WHERE WHAT IT READS IS OF BULK AT MOST 1048576: true; the input reads as it did. -/
def freeManyUptoRow : OpenClaim := { program := "ytphnnjiaiemkcaa", sum := "e8ae5da84c46349e90d82bace20ba5bdbf289df08a3b0b4c58ae00507b620d59", func := "cubicle/cubiclelaw09.FreeMany", spec := "freeMany", unfollowed := true, recurses := true, apart := false, narrowed := true }
def FreeManyUptoSaid : Prop := freeManyUptoRow.holds Try.pinned (OpenSpec.upto freeManySpec)

/-- 'cubiclelaw11.RetireReclaims', WHERE WHAT IT READS IS OF BULK AT MOST 1048576: true; the input reads as it did. -/
def retireReclaimsUptoRow : OpenClaim := { program := "ytphnnjiaiemkcaa", sum := "e8ae5da84c46349e90d82bace20ba5bdbf289df08a3b0b4c58ae00507b620d59", func := "cubicle/cubiclelaw11.RetireReclaims", spec := "retireReclaims", unfollowed := true, recurses := true, apart := false, narrowed := true }
def RetireReclaimsUptoSaid : Prop := retireReclaimsUptoRow.holds Try.pinned (OpenSpec.upto retireReclaimsSpec)

end Rows
end Go.Proofs.Ytphnnjiaiemkcaa

/-
  No cell of these rows narrows 'for every input' (looked for: loops, veiled, ifaces, maps, wideKeys, modest, calm, conditions, laid).
  DERIVED. THE GIVEN ROWS OF THIS SEAT. 24 by the template 'for every input the law returns true; each argument reads behind the call as it read before'; 0 by the template 'total and deterministic' (their statements: YtjkinpbfmihhdaaGreatTotals.lean).
  GIVEN WITH THE SEED: the statements are not yours to turn. If you find one false, say at which input.
  Laid BY PROGRAM, IN A SANDBOX (cutbox-rows.mjs): the forced cells as the released guide's own fill.sh prints them over the translation 1cd42df19d31aedc… (all of the seat's roots in one cut). By AI agents, Wed Nov 11 2026. No macro, syntax, notation, axiom, sorry.
-/
import Derived.Test.YtjkinpbfmihhdaaGreatChecked
import GoSem.Claim
import GoSem.ClaimJoined
import GoSem.ClaimMapViews
import Derived.JoinedTies
import Derived.KernelRfl
namespace Go.Proofs.YtjkinpbfmihhdaaGreat
/- THE CELL 'sum', in the pinned program and in every row, IS THE sha256 OF THE DUMP (.gsa) THAT YtjkinpbfmihhdaaGreatProg.lean LOADS. Nothing in Lean hashes anything: it is a label: what it is worth is what the hold of that sum in a sandbox is worth. -/
noncomputable def Tryz.pinned : Pinned := { name := "ytjkinpbfmihhdaagreat", sum := "1cd42df19d31aedcf367f76a087a48974cb6f22a7f05647d92de0e89a883f9ac", checked := Tryz.checked }
namespace Rows
def none {H : Type} : Left H := { results := [], args := [] }

/-- 'cubiclelaw13.CheckTwo': WHATEVER THE INPUT: true; the input reads as it did. -/
def checkTwoSpec : ChangeSpec := { name := "checkTwo", fn := fun _ => fun
  | [d1, d2, d3] => { results := [.lit (.bool true)], args := [d1, d2, d3] }
  | _ => none }
def checkTwoRow : OpenClaim := { program := "ytjkinpbfmihhdaagreat", sum := "1cd42df19d31aedcf367f76a087a48974cb6f22a7f05647d92de0e89a883f9ac", func := "cubicle/cubiclelaw13.CheckTwo", spec := "checkTwo", unfollowed := true, recurses := true, apart := false }
def CheckTwoSaid : Prop := checkTwoRow.holds Tryz.pinned (OpenSpec.ofChange checkTwoSpec)

/-- ITS FALSE NEIGHBOUR: 'it returns false'. Refute it at one input. -/
def checkTwoWrong : ChangeSpec := { name := "checkTwo", fn := fun _ => fun
  | [d1, d2, d3] => { results := [.lit (.bool false)], args := [d1, d2, d3] }
  | _ => none }
def CheckTwoWrongFalsely : Prop := checkTwoRow.holds Tryz.pinned (OpenSpec.ofChange checkTwoWrong)

/-- 'cubiclelaw13.CheckFresh': WHATEVER THE INPUT: true; the input reads as it did. -/
def checkFreshSpec : ChangeSpec := { name := "checkFresh", fn := fun _ => fun
  | [d1, d2, d3] => { results := [.lit (.bool true)], args := [d1, d2, d3] }
  | _ => none }
def checkFreshRow : OpenClaim := { program := "ytjkinpbfmihhdaagreat", sum := "1cd42df19d31aedcf367f76a087a48974cb6f22a7f05647d92de0e89a883f9ac", func := "cubicle/cubiclelaw13.CheckFresh", spec := "checkFresh", unfollowed := true, recurses := true, apart := false }
def CheckFreshSaid : Prop := checkFreshRow.holds Tryz.pinned (OpenSpec.ofChange checkFreshSpec)

/-- ITS FALSE NEIGHBOUR: 'it returns false'. Refute it at one input. -/
def checkFreshWrong : ChangeSpec := { name := "checkFresh", fn := fun _ => fun
  | [d1, d2, d3] => { results := [.lit (.bool false)], args := [d1, d2, d3] }
  | _ => none }
def CheckFreshWrongFalsely : Prop := checkFreshRow.holds Tryz.pinned (OpenSpec.ofChange checkFreshWrong)

/-- 'cubiclelaw13.CheckGuarded': WHATEVER THE INPUT: true; the input reads as it did. -/
def checkGuardedSpec : ChangeSpec := { name := "checkGuarded", fn := fun _ => fun
  | [d1, d2, d3] => { results := [.lit (.bool true)], args := [d1, d2, d3] }
  | _ => none }
def checkGuardedRow : OpenClaim := { program := "ytjkinpbfmihhdaagreat", sum := "1cd42df19d31aedcf367f76a087a48974cb6f22a7f05647d92de0e89a883f9ac", func := "cubicle/cubiclelaw13.CheckGuarded", spec := "checkGuarded", unfollowed := true, recurses := true, apart := false }
def CheckGuardedSaid : Prop := checkGuardedRow.holds Tryz.pinned (OpenSpec.ofChange checkGuardedSpec)

/-- ITS FALSE NEIGHBOUR: 'it returns false'. Refute it at one input. -/
def checkGuardedWrong : ChangeSpec := { name := "checkGuarded", fn := fun _ => fun
  | [d1, d2, d3] => { results := [.lit (.bool false)], args := [d1, d2, d3] }
  | _ => none }
def CheckGuardedWrongFalsely : Prop := checkGuardedRow.holds Tryz.pinned (OpenSpec.ofChange checkGuardedWrong)

/-- 'cubiclelaw13.CheckRace': WHATEVER THE INPUT: true; the input reads as it did. -/
def checkRaceSpec : ChangeSpec := { name := "checkRace", fn := fun _ => fun
  | [d1, d2, d3] => { results := [.lit (.bool true)], args := [d1, d2, d3] }
  | _ => none }
def checkRaceRow : OpenClaim := { program := "ytjkinpbfmihhdaagreat", sum := "1cd42df19d31aedcf367f76a087a48974cb6f22a7f05647d92de0e89a883f9ac", func := "cubicle/cubiclelaw13.CheckRace", spec := "checkRace", unfollowed := true, recurses := true, apart := false }
def CheckRaceSaid : Prop := checkRaceRow.holds Tryz.pinned (OpenSpec.ofChange checkRaceSpec)

/-- ITS FALSE NEIGHBOUR: 'it returns false'. Refute it at one input. -/
def checkRaceWrong : ChangeSpec := { name := "checkRace", fn := fun _ => fun
  | [d1, d2, d3] => { results := [.lit (.bool false)], args := [d1, d2, d3] }
  | _ => none }
def CheckRaceWrongFalsely : Prop := checkRaceRow.holds Tryz.pinned (OpenSpec.ofChange checkRaceWrong)

/-- 'cubiclelaw13.CheckForeign': WHATEVER THE INPUT: true; the input reads as it did. -/
def checkForeignSpec : ChangeSpec := { name := "checkForeign", fn := fun _ => fun
  | [d1, d2, d3] => { results := [.lit (.bool true)], args := [d1, d2, d3] }
  | _ => none }
def checkForeignRow : OpenClaim := { program := "ytjkinpbfmihhdaagreat", sum := "1cd42df19d31aedcf367f76a087a48974cb6f22a7f05647d92de0e89a883f9ac", func := "cubicle/cubiclelaw13.CheckForeign", spec := "checkForeign", unfollowed := true, recurses := true, apart := false }
def CheckForeignSaid : Prop := checkForeignRow.holds Tryz.pinned (OpenSpec.ofChange checkForeignSpec)

/-- ITS FALSE NEIGHBOUR: 'it returns false'. Refute it at one input. -/
def checkForeignWrong : ChangeSpec := { name := "checkForeign", fn := fun _ => fun
  | [d1, d2, d3] => { results := [.lit (.bool false)], args := [d1, d2, d3] }
  | _ => none }
def CheckForeignWrongFalsely : Prop := checkForeignRow.holds Tryz.pinned (OpenSpec.ofChange checkForeignWrong)

/-- 'cubiclelaw13.CheckAlone': WHATEVER THE INPUT: true; the input reads as it did. -/
def checkAloneSpec : ChangeSpec := { name := "checkAlone", fn := fun _ => fun
  | [d1, d2, d3] => { results := [.lit (.bool true)], args := [d1, d2, d3] }
  | _ => none }
def checkAloneRow : OpenClaim := { program := "ytjkinpbfmihhdaagreat", sum := "1cd42df19d31aedcf367f76a087a48974cb6f22a7f05647d92de0e89a883f9ac", func := "cubicle/cubiclelaw13.CheckAlone", spec := "checkAlone", unfollowed := true, recurses := true, apart := false }
def CheckAloneSaid : Prop := checkAloneRow.holds Tryz.pinned (OpenSpec.ofChange checkAloneSpec)

/-- ITS FALSE NEIGHBOUR: 'it returns false'. Refute it at one input. -/
def checkAloneWrong : ChangeSpec := { name := "checkAlone", fn := fun _ => fun
  | [d1, d2, d3] => { results := [.lit (.bool false)], args := [d1, d2, d3] }
  | _ => none }
def CheckAloneWrongFalsely : Prop := checkAloneRow.holds Tryz.pinned (OpenSpec.ofChange checkAloneWrong)

/-- 'cubiclelaw13.CheckClears': WHATEVER THE INPUT: true; the input reads as it did. -/
def checkClearsSpec : ChangeSpec := { name := "checkClears", fn := fun _ => fun
  | [d1, d2] => { results := [.lit (.bool true)], args := [d1, d2] }
  | _ => none }
def checkClearsRow : OpenClaim := { program := "ytjkinpbfmihhdaagreat", sum := "1cd42df19d31aedcf367f76a087a48974cb6f22a7f05647d92de0e89a883f9ac", func := "cubicle/cubiclelaw13.CheckClears", spec := "checkClears", unfollowed := true, recurses := true, apart := false }
def CheckClearsSaid : Prop := checkClearsRow.holds Tryz.pinned (OpenSpec.ofChange checkClearsSpec)

/-- ITS FALSE NEIGHBOUR: 'it returns false'. Refute it at one input. -/
def checkClearsWrong : ChangeSpec := { name := "checkClears", fn := fun _ => fun
  | [d1, d2] => { results := [.lit (.bool false)], args := [d1, d2] }
  | _ => none }
def CheckClearsWrongFalsely : Prop := checkClearsRow.holds Tryz.pinned (OpenSpec.ofChange checkClearsWrong)

/-- 'cubiclelaw14.QueueAlone': WHATEVER THE INPUT: true; the input reads as it did. -/
def queueAloneSpec : ChangeSpec := { name := "queueAlone", fn := fun _ => fun
  | [d1, d2] => { results := [.lit (.bool true)], args := [d1, d2] }
  | _ => none }
def queueAloneRow : OpenClaim := { program := "ytjkinpbfmihhdaagreat", sum := "1cd42df19d31aedcf367f76a087a48974cb6f22a7f05647d92de0e89a883f9ac", func := "cubicle/cubiclelaw14.QueueAlone", spec := "queueAlone", unfollowed := true, recurses := true, apart := false }
def QueueAloneSaid : Prop := queueAloneRow.holds Tryz.pinned (OpenSpec.ofChange queueAloneSpec)

/-- ITS FALSE NEIGHBOUR: 'it returns false'. Refute it at one input. -/
def queueAloneWrong : ChangeSpec := { name := "queueAlone", fn := fun _ => fun
  | [d1, d2] => { results := [.lit (.bool false)], args := [d1, d2] }
  | _ => none }
def QueueAloneWrongFalsely : Prop := queueAloneRow.holds Tryz.pinned (OpenSpec.ofChange queueAloneWrong)

/-- 'cubiclelaw14.QueueStalls': WHATEVER THE INPUT: true; the input reads as it did. -/
def queueStallsSpec : ChangeSpec := { name := "queueStalls", fn := fun _ => fun
  | [d1, d2, d3] => { results := [.lit (.bool true)], args := [d1, d2, d3] }
  | _ => none }
def queueStallsRow : OpenClaim := { program := "ytjkinpbfmihhdaagreat", sum := "1cd42df19d31aedcf367f76a087a48974cb6f22a7f05647d92de0e89a883f9ac", func := "cubicle/cubiclelaw14.QueueStalls", spec := "queueStalls", unfollowed := true, recurses := true, apart := false }
def QueueStallsSaid : Prop := queueStallsRow.holds Tryz.pinned (OpenSpec.ofChange queueStallsSpec)

/-- ITS FALSE NEIGHBOUR: 'it returns false'. Refute it at one input. -/
def queueStallsWrong : ChangeSpec := { name := "queueStalls", fn := fun _ => fun
  | [d1, d2, d3] => { results := [.lit (.bool false)], args := [d1, d2, d3] }
  | _ => none }
def QueueStallsWrongFalsely : Prop := queueStallsRow.holds Tryz.pinned (OpenSpec.ofChange queueStallsWrong)

/-- 'cubiclelaw14.QueueOrder': WHATEVER THE INPUT: true; the input reads as it did. -/
def queueOrderSpec : ChangeSpec := { name := "queueOrder", fn := fun _ => fun
  | [d1, d2] => { results := [.lit (.bool true)], args := [d1, d2] }
  | _ => none }
def queueOrderRow : OpenClaim := { program := "ytjkinpbfmihhdaagreat", sum := "1cd42df19d31aedcf367f76a087a48974cb6f22a7f05647d92de0e89a883f9ac", func := "cubicle/cubiclelaw14.QueueOrder", spec := "queueOrder", unfollowed := true, recurses := true, apart := false }
def QueueOrderSaid : Prop := queueOrderRow.holds Tryz.pinned (OpenSpec.ofChange queueOrderSpec)

/-- ITS FALSE NEIGHBOUR: 'it returns false'. Refute it at one input. -/
def queueOrderWrong : ChangeSpec := { name := "queueOrder", fn := fun _ => fun
  | [d1, d2] => { results := [.lit (.bool false)], args := [d1, d2] }
  | _ => none }
def QueueOrderWrongFalsely : Prop := queueOrderRow.holds Tryz.pinned (OpenSpec.ofChange queueOrderWrong)

/-- 'cubiclelaw14.QueueRace': WHATEVER THE INPUT: true; the input reads as it did. -/
def queueRaceSpec : ChangeSpec := { name := "queueRace", fn := fun _ => fun
  | [d1, d2] => { results := [.lit (.bool true)], args := [d1, d2] }
  | _ => none }
def queueRaceRow : OpenClaim := { program := "ytjkinpbfmihhdaagreat", sum := "1cd42df19d31aedcf367f76a087a48974cb6f22a7f05647d92de0e89a883f9ac", func := "cubicle/cubiclelaw14.QueueRace", spec := "queueRace", unfollowed := true, recurses := true, apart := false }
def QueueRaceSaid : Prop := queueRaceRow.holds Tryz.pinned (OpenSpec.ofChange queueRaceSpec)

/-- ITS FALSE NEIGHBOUR: 'it returns false'. Refute it at one input. -/
def queueRaceWrong : ChangeSpec := { name := "queueRace", fn := fun _ => fun
  | [d1, d2] => { results := [.lit (.bool false)], args := [d1, d2] }
  | _ => none }
def QueueRaceWrongFalsely : Prop := queueRaceRow.holds Tryz.pinned (OpenSpec.ofChange queueRaceWrong)

/-- 'cubiclelaw14.QueueMany': WHATEVER THE INPUT: true; the input reads as it did. -/
def queueManySpec : ChangeSpec := { name := "queueMany", fn := fun _ => fun
  | [d1, d2, d3] => { results := [.lit (.bool true)], args := [d1, d2, d3] }
  | _ => none }
def queueManyRow : OpenClaim := { program := "ytjkinpbfmihhdaagreat", sum := "1cd42df19d31aedcf367f76a087a48974cb6f22a7f05647d92de0e89a883f9ac", func := "cubicle/cubiclelaw14.QueueMany", spec := "queueMany", unfollowed := true, recurses := true, apart := false }
def QueueManySaid : Prop := queueManyRow.holds Tryz.pinned (OpenSpec.ofChange queueManySpec)

/-- ITS FALSE NEIGHBOUR: 'it returns false'. Refute it at one input. -/
def queueManyWrong : ChangeSpec := { name := "queueMany", fn := fun _ => fun
  | [d1, d2, d3] => { results := [.lit (.bool false)], args := [d1, d2, d3] }
  | _ => none }
def QueueManyWrongFalsely : Prop := queueManyRow.holds Tryz.pinned (OpenSpec.ofChange queueManyWrong)

/-- 'cubiclelaw14.QueueNodes': WHATEVER THE INPUT: true; the input reads as it did. -/
def queueNodesSpec : ChangeSpec := { name := "queueNodes", fn := fun _ => fun
  | [d1, d2] => { results := [.lit (.bool true)], args := [d1, d2] }
  | _ => none }
def queueNodesRow : OpenClaim := { program := "ytjkinpbfmihhdaagreat", sum := "1cd42df19d31aedcf367f76a087a48974cb6f22a7f05647d92de0e89a883f9ac", func := "cubicle/cubiclelaw14.QueueNodes", spec := "queueNodes", unfollowed := true, recurses := true, apart := false }
def QueueNodesSaid : Prop := queueNodesRow.holds Tryz.pinned (OpenSpec.ofChange queueNodesSpec)

/-- ITS FALSE NEIGHBOUR: 'it returns false'. Refute it at one input. -/
def queueNodesWrong : ChangeSpec := { name := "queueNodes", fn := fun _ => fun
  | [d1, d2] => { results := [.lit (.bool false)], args := [d1, d2] }
  | _ => none }
def QueueNodesWrongFalsely : Prop := queueNodesRow.holds Tryz.pinned (OpenSpec.ofChange queueNodesWrong)

/-- 'cubiclelaw15.ListKeys': WHATEVER THE INPUT: true; the input reads as it did. -/
def listKeysSpec : ChangeSpec := { name := "listKeys", fn := fun _ => fun
  | [d] => { results := [.lit (.bool true)], args := [d] }
  | _ => none }
def listKeysRow : OpenClaim := { program := "ytjkinpbfmihhdaagreat", sum := "1cd42df19d31aedcf367f76a087a48974cb6f22a7f05647d92de0e89a883f9ac", func := "cubicle/cubiclelaw15.ListKeys", spec := "listKeys", unfollowed := true, recurses := true, apart := false }
def ListKeysSaid : Prop := listKeysRow.holds Tryz.pinned (OpenSpec.ofChange listKeysSpec)

/-- ITS FALSE NEIGHBOUR: 'it returns false'. Refute it at one input. -/
def listKeysWrong : ChangeSpec := { name := "listKeys", fn := fun _ => fun
  | [d] => { results := [.lit (.bool false)], args := [d] }
  | _ => none }
def ListKeysWrongFalsely : Prop := listKeysRow.holds Tryz.pinned (OpenSpec.ofChange listKeysWrong)

/-- 'cubiclelaw15.ListRace': WHATEVER THE INPUT: true; the input reads as it did. -/
def listRaceSpec : ChangeSpec := { name := "listRace", fn := fun _ => fun
  | [d1, d2, d3] => { results := [.lit (.bool true)], args := [d1, d2, d3] }
  | _ => none }
def listRaceRow : OpenClaim := { program := "ytjkinpbfmihhdaagreat", sum := "1cd42df19d31aedcf367f76a087a48974cb6f22a7f05647d92de0e89a883f9ac", func := "cubicle/cubiclelaw15.ListRace", spec := "listRace", unfollowed := true, recurses := true, apart := false }
def ListRaceSaid : Prop := listRaceRow.holds Tryz.pinned (OpenSpec.ofChange listRaceSpec)

/-- ITS FALSE NEIGHBOUR: 'it returns false'. Refute it at one input. -/
def listRaceWrong : ChangeSpec := { name := "listRace", fn := fun _ => fun
  | [d1, d2, d3] => { results := [.lit (.bool false)], args := [d1, d2, d3] }
  | _ => none }
def ListRaceWrongFalsely : Prop := listRaceRow.holds Tryz.pinned (OpenSpec.ofChange listRaceWrong)

/-- 'cubiclelaw15.ListAlone': WHATEVER THE INPUT: true; the input reads as it did. -/
def listAloneSpec : ChangeSpec := { name := "listAlone", fn := fun _ => fun
  | [d1, d2] => { results := [.lit (.bool true)], args := [d1, d2] }
  | _ => none }
def listAloneRow : OpenClaim := { program := "ytjkinpbfmihhdaagreat", sum := "1cd42df19d31aedcf367f76a087a48974cb6f22a7f05647d92de0e89a883f9ac", func := "cubicle/cubiclelaw15.ListAlone", spec := "listAlone", unfollowed := true, recurses := true, apart := false }
def ListAloneSaid : Prop := listAloneRow.holds Tryz.pinned (OpenSpec.ofChange listAloneSpec)

/-- ITS FALSE NEIGHBOUR: 'it returns false'. Refute it at one input. -/
def listAloneWrong : ChangeSpec := { name := "listAlone", fn := fun _ => fun
  | [d1, d2] => { results := [.lit (.bool false)], args := [d1, d2] }
  | _ => none }
def ListAloneWrongFalsely : Prop := listAloneRow.holds Tryz.pinned (OpenSpec.ofChange listAloneWrong)

/-- 'cubiclelaw15.ListStalls': WHATEVER THE INPUT: true; the input reads as it did. -/
def listStallsSpec : ChangeSpec := { name := "listStalls", fn := fun _ => fun
  | [d1, d2, d3] => { results := [.lit (.bool true)], args := [d1, d2, d3] }
  | _ => none }
def listStallsRow : OpenClaim := { program := "ytjkinpbfmihhdaagreat", sum := "1cd42df19d31aedcf367f76a087a48974cb6f22a7f05647d92de0e89a883f9ac", func := "cubicle/cubiclelaw15.ListStalls", spec := "listStalls", unfollowed := true, recurses := true, apart := false }
def ListStallsSaid : Prop := listStallsRow.holds Tryz.pinned (OpenSpec.ofChange listStallsSpec)

/-- ITS FALSE NEIGHBOUR: 'it returns false'. Refute it at one input. -/
def listStallsWrong : ChangeSpec := { name := "listStalls", fn := fun _ => fun
  | [d1, d2, d3] => { results := [.lit (.bool false)], args := [d1, d2, d3] }
  | _ => none }
def ListStallsWrongFalsely : Prop := listStallsRow.holds Tryz.pinned (OpenSpec.ofChange listStallsWrong)

/-- 'cubiclelaw15.ListMany': WHATEVER THE INPUT: true; the input reads as it did. -/
def listManySpec : ChangeSpec := { name := "listMany", fn := fun _ => fun
  | [d1, d2, d3] => { results := [.lit (.bool true)], args := [d1, d2, d3] }
  | _ => none }
def listManyRow : OpenClaim := { program := "ytjkinpbfmihhdaagreat", sum := "1cd42df19d31aedcf367f76a087a48974cb6f22a7f05647d92de0e89a883f9ac", func := "cubicle/cubiclelaw15.ListMany", spec := "listMany", unfollowed := true, recurses := true, apart := false }
def ListManySaid : Prop := listManyRow.holds Tryz.pinned (OpenSpec.ofChange listManySpec)

/-- ITS FALSE NEIGHBOUR: 'it returns false'. Refute it at one input. -/
def listManyWrong : ChangeSpec := { name := "listMany", fn := fun _ => fun
  | [d1, d2, d3] => { results := [.lit (.bool false)], args := [d1, d2, d3] }
  | _ => none }
def ListManyWrongFalsely : Prop := listManyRow.holds Tryz.pinned (OpenSpec.ofChange listManyWrong)

/-- 'cubiclelaw15.ListNodes': WHATEVER THE INPUT: true; the input reads as it did. -/
def listNodesSpec : ChangeSpec := { name := "listNodes", fn := fun _ => fun
  | [d1, d2] => { results := [.lit (.bool true)], args := [d1, d2] }
  | _ => none }
def listNodesRow : OpenClaim := { program := "ytjkinpbfmihhdaagreat", sum := "1cd42df19d31aedcf367f76a087a48974cb6f22a7f05647d92de0e89a883f9ac", func := "cubicle/cubiclelaw15.ListNodes", spec := "listNodes", unfollowed := true, recurses := true, apart := false }
def ListNodesSaid : Prop := listNodesRow.holds Tryz.pinned (OpenSpec.ofChange listNodesSpec)

/-- ITS FALSE NEIGHBOUR: 'it returns false'. Refute it at one input. -/
def listNodesWrong : ChangeSpec := { name := "listNodes", fn := fun _ => fun
  | [d1, d2] => { results := [.lit (.bool false)], args := [d1, d2] }
  | _ => none }
def ListNodesWrongFalsely : Prop := listNodesRow.holds Tryz.pinned (OpenSpec.ofChange listNodesWrong)

/-- 'cubiclelaw12.AllocAlone': WHATEVER THE INPUT: true; the input reads as it did. -/
def allocAloneSpec : ChangeSpec := { name := "allocAlone", fn := fun _ => fun
  | [d1, d2] => { results := [.lit (.bool true)], args := [d1, d2] }
  | _ => none }
def allocAloneRow : OpenClaim := { program := "ytjkinpbfmihhdaagreat", sum := "1cd42df19d31aedcf367f76a087a48974cb6f22a7f05647d92de0e89a883f9ac", func := "cubicle/cubiclelaw12.AllocAlone", spec := "allocAlone", unfollowed := true, recurses := true, apart := false }
def AllocAloneSaid : Prop := allocAloneRow.holds Tryz.pinned (OpenSpec.ofChange allocAloneSpec)

/-- ITS FALSE NEIGHBOUR: 'it returns false'. Refute it at one input. -/
def allocAloneWrong : ChangeSpec := { name := "allocAlone", fn := fun _ => fun
  | [d1, d2] => { results := [.lit (.bool false)], args := [d1, d2] }
  | _ => none }
def AllocAloneWrongFalsely : Prop := allocAloneRow.holds Tryz.pinned (OpenSpec.ofChange allocAloneWrong)

/-- 'cubiclelaw17.DomainFull': WHATEVER THE INPUT: true; the input reads as it did. -/
def domainFullSpec : ChangeSpec := { name := "domainFull", fn := fun _ => fun
  | [d] => { results := [.lit (.bool true)], args := [d] }
  | _ => none }
def domainFullRow : OpenClaim := { program := "ytjkinpbfmihhdaagreat", sum := "1cd42df19d31aedcf367f76a087a48974cb6f22a7f05647d92de0e89a883f9ac", func := "cubicle/cubiclelaw17.DomainFull", spec := "domainFull", unfollowed := true, recurses := true, apart := false }
def DomainFullSaid : Prop := domainFullRow.holds Tryz.pinned (OpenSpec.ofChange domainFullSpec)

/-- ITS FALSE NEIGHBOUR: 'it returns false'. Refute it at one input. -/
def domainFullWrong : ChangeSpec := { name := "domainFull", fn := fun _ => fun
  | [d] => { results := [.lit (.bool false)], args := [d] }
  | _ => none }
def DomainFullWrongFalsely : Prop := domainFullRow.holds Tryz.pinned (OpenSpec.ofChange domainFullWrong)

/-- 'cubiclelaw17.DomainRace': WHATEVER THE INPUT: true; the input reads as it did. -/
def domainRaceSpec : ChangeSpec := { name := "domainRace", fn := fun _ => fun
  | [d1, d2, d3] => { results := [.lit (.bool true)], args := [d1, d2, d3] }
  | _ => none }
def domainRaceRow : OpenClaim := { program := "ytjkinpbfmihhdaagreat", sum := "1cd42df19d31aedcf367f76a087a48974cb6f22a7f05647d92de0e89a883f9ac", func := "cubicle/cubiclelaw17.DomainRace", spec := "domainRace", unfollowed := true, recurses := true, apart := false }
def DomainRaceSaid : Prop := domainRaceRow.holds Tryz.pinned (OpenSpec.ofChange domainRaceSpec)

/-- ITS FALSE NEIGHBOUR: 'it returns false'. Refute it at one input. -/
def domainRaceWrong : ChangeSpec := { name := "domainRace", fn := fun _ => fun
  | [d1, d2, d3] => { results := [.lit (.bool false)], args := [d1, d2, d3] }
  | _ => none }
def DomainRaceWrongFalsely : Prop := domainRaceRow.holds Tryz.pinned (OpenSpec.ofChange domainRaceWrong)

/-- 'cubiclelaw17.DomainOdd': WHATEVER THE INPUT: true; the input reads as it did. -/
def domainOddSpec : ChangeSpec := { name := "domainOdd", fn := fun _ => fun
  | [d1, d2] => { results := [.lit (.bool true)], args := [d1, d2] }
  | _ => none }
def domainOddRow : OpenClaim := { program := "ytjkinpbfmihhdaagreat", sum := "1cd42df19d31aedcf367f76a087a48974cb6f22a7f05647d92de0e89a883f9ac", func := "cubicle/cubiclelaw17.DomainOdd", spec := "domainOdd", unfollowed := true, recurses := true, apart := false }
def DomainOddSaid : Prop := domainOddRow.holds Tryz.pinned (OpenSpec.ofChange domainOddSpec)

/-- ITS FALSE NEIGHBOUR: 'it returns false'. Refute it at one input. -/
def domainOddWrong : ChangeSpec := { name := "domainOdd", fn := fun _ => fun
  | [d1, d2] => { results := [.lit (.bool false)], args := [d1, d2] }
  | _ => none }
def DomainOddWrongFalsely : Prop := domainOddRow.holds Tryz.pinned (OpenSpec.ofChange domainOddWrong)

/-- 'cubiclelaw16.DictCells': WHATEVER THE INPUT: true; the input reads as it did. -/
def dictCellsSpec : ChangeSpec := { name := "dictCells", fn := fun _ => fun
  | [d1, d2, d3] => { results := [.lit (.bool true)], args := [d1, d2, d3] }
  | _ => none }
def dictCellsRow : OpenClaim := { program := "ytjkinpbfmihhdaagreat", sum := "1cd42df19d31aedcf367f76a087a48974cb6f22a7f05647d92de0e89a883f9ac", func := "cubicle/cubiclelaw16.DictCells", spec := "dictCells", unfollowed := true, recurses := true, apart := false }
def DictCellsSaid : Prop := dictCellsRow.holds Tryz.pinned (OpenSpec.ofChange dictCellsSpec)

/-- ITS FALSE NEIGHBOUR: 'it returns false'. Refute it at one input. -/
def dictCellsWrong : ChangeSpec := { name := "dictCells", fn := fun _ => fun
  | [d1, d2, d3] => { results := [.lit (.bool false)], args := [d1, d2, d3] }
  | _ => none }
def DictCellsWrongFalsely : Prop := dictCellsRow.holds Tryz.pinned (OpenSpec.ofChange dictCellsWrong)

/- THE SECOND FORM. 'bulk': how many values and letters a reading holds, each counted each time it is reached (what is shared counts as often as it is met; a slice's spare places count too). A statement '..UptoSaid' is the law's where the arguments, and the package variables that the reading takes, are together of bulk at most 1048576: NARROWER than '..Said'. Prove '..Said' where nothing that the law and all that it calls make is longer than what came in: it says more and counts as full. Else prove '..UptoSaid'. A law counts once. -/
mutual
def uptoBulk {H : Type} : DataW H → Nat
  | .lit (.string bytes) => bytes.length + 1
  | .lit _ => 1
  | .nil => 1
  | .ptr d => uptoBulk d + 1
  | .slice elems spare => uptoBulkAll elems + uptoBulkAll spare + 1
  | .agg parts => uptoBulkAll parts + 1
  | .iface _ d => uptoBulk d + 1
  | .map entries => uptoBulkEntries entries + 1
  | .held _ => 1
def uptoBulkAll {H : Type} : List (DataW H) → Nat
  | [] => 0
  | d :: r => uptoBulk d + uptoBulkAll r
def uptoBulkEntries {H : Type} : List (Lit × DataW H) → Nat
  | [] => 0
  | x :: r => uptoBulkEntry x + uptoBulkEntries r
def uptoBulkEntry {H : Type} : Lit × DataW H → Nat
  | (.string bytes, d) => bytes.length + uptoBulk d + 1
  | (_, d) => uptoBulk d + 1
 end
def uptoSmall : (H : Type) → List (DataW H) → Bool := fun _ ds => decide (uptoBulkAll ds ≤ 1048576)
def OpenSpec.upto (s : _root_.Go.ChangeSpec) : _root_.Go.OpenSpec := { _root_.Go.OpenSpec.ofChange s with cond := some uptoSmall }

/-- 'cubiclelaw13.CheckTwo', WHERE WHAT IT READS IS OF BULK AT MOST 1048576: true; the input reads as it did. -/
def checkTwoUptoRow : OpenClaim := { program := "ytjkinpbfmihhdaagreat", sum := "1cd42df19d31aedcf367f76a087a48974cb6f22a7f05647d92de0e89a883f9ac", func := "cubicle/cubiclelaw13.CheckTwo", spec := "checkTwo", unfollowed := true, recurses := true, apart := false, narrowed := true }
def CheckTwoUptoSaid : Prop := checkTwoUptoRow.holds Tryz.pinned (OpenSpec.upto checkTwoSpec)

/-- 'cubiclelaw13.CheckFresh', WHERE WHAT IT READS IS OF BULK AT MOST 1048576: true; the input reads as it did. -/
def checkFreshUptoRow : OpenClaim := { program := "ytjkinpbfmihhdaagreat", sum := "1cd42df19d31aedcf367f76a087a48974cb6f22a7f05647d92de0e89a883f9ac", func := "cubicle/cubiclelaw13.CheckFresh", spec := "checkFresh", unfollowed := true, recurses := true, apart := false, narrowed := true }
def CheckFreshUptoSaid : Prop := checkFreshUptoRow.holds Tryz.pinned (OpenSpec.upto checkFreshSpec)

/-- 'cubiclelaw13.CheckGuarded', WHERE WHAT IT READS IS OF BULK AT MOST 1048576: true; the input reads as it did. -/
def checkGuardedUptoRow : OpenClaim := { program := "ytjkinpbfmihhdaagreat", sum := "1cd42df19d31aedcf367f76a087a48974cb6f22a7f05647d92de0e89a883f9ac", func := "cubicle/cubiclelaw13.CheckGuarded", spec := "checkGuarded", unfollowed := true, recurses := true, apart := false, narrowed := true }
def CheckGuardedUptoSaid : Prop := checkGuardedUptoRow.holds Tryz.pinned (OpenSpec.upto checkGuardedSpec)

/-- 'cubiclelaw13.CheckRace', WHERE WHAT IT READS IS OF BULK AT MOST 1048576: true; the input reads as it did. -/
def checkRaceUptoRow : OpenClaim := { program := "ytjkinpbfmihhdaagreat", sum := "1cd42df19d31aedcf367f76a087a48974cb6f22a7f05647d92de0e89a883f9ac", func := "cubicle/cubiclelaw13.CheckRace", spec := "checkRace", unfollowed := true, recurses := true, apart := false, narrowed := true }
def CheckRaceUptoSaid : Prop := checkRaceUptoRow.holds Tryz.pinned (OpenSpec.upto checkRaceSpec)

/-- 'cubiclelaw13.CheckForeign', WHERE WHAT IT READS IS OF BULK AT MOST 1048576: true; the input reads as it did. -/
def checkForeignUptoRow : OpenClaim := { program := "ytjkinpbfmihhdaagreat", sum := "1cd42df19d31aedcf367f76a087a48974cb6f22a7f05647d92de0e89a883f9ac", func := "cubicle/cubiclelaw13.CheckForeign", spec := "checkForeign", unfollowed := true, recurses := true, apart := false, narrowed := true }
def CheckForeignUptoSaid : Prop := checkForeignUptoRow.holds Tryz.pinned (OpenSpec.upto checkForeignSpec)

/-- 'cubiclelaw13.CheckAlone', WHERE WHAT IT READS IS OF BULK AT MOST 1048576: true; the input reads as it did. -/
def checkAloneUptoRow : OpenClaim := { program := "ytjkinpbfmihhdaagreat", sum := "1cd42df19d31aedcf367f76a087a48974cb6f22a7f05647d92de0e89a883f9ac", func := "cubicle/cubiclelaw13.CheckAlone", spec := "checkAlone", unfollowed := true, recurses := true, apart := false, narrowed := true }
def CheckAloneUptoSaid : Prop := checkAloneUptoRow.holds Tryz.pinned (OpenSpec.upto checkAloneSpec)

/-- 'cubiclelaw13.CheckClears', WHERE WHAT IT READS IS OF BULK AT MOST 1048576: true; the input reads as it did. -/
def checkClearsUptoRow : OpenClaim := { program := "ytjkinpbfmihhdaagreat", sum := "1cd42df19d31aedcf367f76a087a48974cb6f22a7f05647d92de0e89a883f9ac", func := "cubicle/cubiclelaw13.CheckClears", spec := "checkClears", unfollowed := true, recurses := true, apart := false, narrowed := true }
def CheckClearsUptoSaid : Prop := checkClearsUptoRow.holds Tryz.pinned (OpenSpec.upto checkClearsSpec)

/-- 'cubiclelaw14.QueueAlone', WHERE WHAT IT READS IS OF BULK AT MOST 1048576: true; the input reads as it did. -/
def queueAloneUptoRow : OpenClaim := { program := "ytjkinpbfmihhdaagreat", sum := "1cd42df19d31aedcf367f76a087a48974cb6f22a7f05647d92de0e89a883f9ac", func := "cubicle/cubiclelaw14.QueueAlone", spec := "queueAlone", unfollowed := true, recurses := true, apart := false, narrowed := true }
def QueueAloneUptoSaid : Prop := queueAloneUptoRow.holds Tryz.pinned (OpenSpec.upto queueAloneSpec)

/-- 'cubiclelaw14.QueueStalls', WHERE WHAT IT READS IS OF BULK AT MOST 1048576: true; the input reads as it did. -/
def queueStallsUptoRow : OpenClaim := { program := "ytjkinpbfmihhdaagreat", sum := "1cd42df19d31aedcf367f76a087a48974cb6f22a7f05647d92de0e89a883f9ac", func := "cubicle/cubiclelaw14.QueueStalls", spec := "queueStalls", unfollowed := true, recurses := true, apart := false, narrowed := true }
def QueueStallsUptoSaid : Prop := queueStallsUptoRow.holds Tryz.pinned (OpenSpec.upto queueStallsSpec)

/-- 'cubiclelaw14.QueueOrder', WHERE WHAT IT READS IS OF BULK AT MOST 1048576: true; the input reads as it did. -/
def queueOrderUptoRow : OpenClaim := { program := "ytjkinpbfmihhdaagreat", sum := "1cd42df19d31aedcf367f76a087a48974cb6f22a7f05647d92de0e89a883f9ac", func := "cubicle/cubiclelaw14.QueueOrder", spec := "queueOrder", unfollowed := true, recurses := true, apart := false, narrowed := true }
def QueueOrderUptoSaid : Prop := queueOrderUptoRow.holds Tryz.pinned (OpenSpec.upto queueOrderSpec)

/-- 'cubiclelaw14.QueueRace', WHERE WHAT IT READS IS OF BULK AT MOST 1048576: true; the input reads as it did. -/
def queueRaceUptoRow : OpenClaim := { program := "ytjkinpbfmihhdaagreat", sum := "1cd42df19d31aedcf367f76a087a48974cb6f22a7f05647d92de0e89a883f9ac", func := "cubicle/cubiclelaw14.QueueRace", spec := "queueRace", unfollowed := true, recurses := true, apart := false, narrowed := true }
def QueueRaceUptoSaid : Prop := queueRaceUptoRow.holds Tryz.pinned (OpenSpec.upto queueRaceSpec)

/-- 'cubiclelaw14.QueueMany', WHERE WHAT IT READS IS OF BULK AT MOST 1048576: true; the input reads as it did. -/
def queueManyUptoRow : OpenClaim := { program := "ytjkinpbfmihhdaagreat", sum := "1cd42df19d31aedcf367f76a087a48974cb6f22a7f05647d92de0e89a883f9ac", func := "cubicle/cubiclelaw14.QueueMany", spec := "queueMany", unfollowed := true, recurses := true, apart := false, narrowed := true }
def QueueManyUptoSaid : Prop := queueManyUptoRow.holds Tryz.pinned (OpenSpec.upto queueManySpec)

/-- 'cubiclelaw14.QueueNodes', WHERE WHAT IT READS IS OF BULK AT MOST 1048576: true; the input reads as it did. -/
def queueNodesUptoRow : OpenClaim := { program := "ytjkinpbfmihhdaagreat", sum := "1cd42df19d31aedcf367f76a087a48974cb6f22a7f05647d92de0e89a883f9ac", func := "cubicle/cubiclelaw14.QueueNodes", spec := "queueNodes", unfollowed := true, recurses := true, apart := false, narrowed := true }
def QueueNodesUptoSaid : Prop := queueNodesUptoRow.holds Tryz.pinned (OpenSpec.upto queueNodesSpec)

/-- 'cubiclelaw15.ListKeys', WHERE WHAT IT READS IS OF BULK AT MOST 1048576: true; the input reads as it did. -/
def listKeysUptoRow : OpenClaim := { program := "ytjkinpbfmihhdaagreat", sum := "1cd42df19d31aedcf367f76a087a48974cb6f22a7f05647d92de0e89a883f9ac", func := "cubicle/cubiclelaw15.ListKeys", spec := "listKeys", unfollowed := true, recurses := true, apart := false, narrowed := true }
def ListKeysUptoSaid : Prop := listKeysUptoRow.holds Tryz.pinned (OpenSpec.upto listKeysSpec)

/-- 'cubiclelaw15.ListRace', WHERE WHAT IT READS IS OF BULK AT MOST 1048576: true; the input reads as it did. -/
def listRaceUptoRow : OpenClaim := { program := "ytjkinpbfmihhdaagreat", sum := "1cd42df19d31aedcf367f76a087a48974cb6f22a7f05647d92de0e89a883f9ac", func := "cubicle/cubiclelaw15.ListRace", spec := "listRace", unfollowed := true, recurses := true, apart := false, narrowed := true }
def ListRaceUptoSaid : Prop := listRaceUptoRow.holds Tryz.pinned (OpenSpec.upto listRaceSpec)

/-- 'cubiclelaw15.ListAlone', WHERE WHAT IT READS IS OF BULK AT MOST 1048576: true; the input reads as it did. -/
def listAloneUptoRow : OpenClaim := { program := "ytjkinpbfmihhdaagreat", sum := "1cd42df19d31aedcf367f76a087a48974cb6f22a7f05647d92de0e89a883f9ac", func := "cubicle/cubiclelaw15.ListAlone", spec := "listAlone", unfollowed := true, recurses := true, apart := false, narrowed := true }
def ListAloneUptoSaid : Prop := listAloneUptoRow.holds Tryz.pinned (OpenSpec.upto listAloneSpec)

/-- 'cubiclelaw15.ListStalls', WHERE WHAT IT READS IS OF BULK AT MOST 1048576: true; the input reads as it did. -/
def listStallsUptoRow : OpenClaim := { program := "ytjkinpbfmihhdaagreat", sum := "1cd42df19d31aedcf367f76a087a48974cb6f22a7f05647d92de0e89a883f9ac", func := "cubicle/cubiclelaw15.ListStalls", spec := "listStalls", unfollowed := true, recurses := true, apart := false, narrowed := true }
def ListStallsUptoSaid : Prop := listStallsUptoRow.holds Tryz.pinned (OpenSpec.upto listStallsSpec)

/-- 'cubiclelaw15.ListMany', WHERE WHAT IT READS IS OF BULK AT MOST 1048576: true; the input reads as it did. -/
def listManyUptoRow : OpenClaim := { program := "ytjkinpbfmihhdaagreat", sum := "1cd42df19d31aedcf367f76a087a48974cb6f22a7f05647d92de0e89a883f9ac", func := "cubicle/cubiclelaw15.ListMany", spec := "listMany", unfollowed := true, recurses := true, apart := false, narrowed := true }
def ListManyUptoSaid : Prop := listManyUptoRow.holds Tryz.pinned (OpenSpec.upto listManySpec)

/-- 'cubiclelaw15.ListNodes', WHERE WHAT IT READS IS OF BULK AT MOST 1048576: true; the input reads as it did. -/
def listNodesUptoRow : OpenClaim := { program := "ytjkinpbfmihhdaagreat", sum := "1cd42df19d31aedcf367f76a087a48974cb6f22a7f05647d92de0e89a883f9ac", func := "cubicle/cubiclelaw15.ListNodes", spec := "listNodes", unfollowed := true, recurses := true, apart := false, narrowed := true }
def ListNodesUptoSaid : Prop := listNodesUptoRow.holds Tryz.pinned (OpenSpec.upto listNodesSpec)

/-- 'cubiclelaw12.AllocAlone', WHERE WHAT IT READS IS OF BULK AT MOST 1048576: true; the input reads as it did. -/
def allocAloneUptoRow : OpenClaim := { program := "ytjkinpbfmihhdaagreat", sum := "1cd42df19d31aedcf367f76a087a48974cb6f22a7f05647d92de0e89a883f9ac", func := "cubicle/cubiclelaw12.AllocAlone", spec := "allocAlone", unfollowed := true, recurses := true, apart := false, narrowed := true }
def AllocAloneUptoSaid : Prop := allocAloneUptoRow.holds Tryz.pinned (OpenSpec.upto allocAloneSpec)

/-- 'cubiclelaw17.DomainFull', WHERE WHAT IT READS IS OF BULK AT MOST 1048576: true; the input reads as it did. -/
def domainFullUptoRow : OpenClaim := { program := "ytjkinpbfmihhdaagreat", sum := "1cd42df19d31aedcf367f76a087a48974cb6f22a7f05647d92de0e89a883f9ac", func := "cubicle/cubiclelaw17.DomainFull", spec := "domainFull", unfollowed := true, recurses := true, apart := false, narrowed := true }
def DomainFullUptoSaid : Prop := domainFullUptoRow.holds Tryz.pinned (OpenSpec.upto domainFullSpec)

/-- 'cubiclelaw17.DomainRace', WHERE WHAT IT READS IS OF BULK AT MOST 1048576: true; the input reads as it did. -/
def domainRaceUptoRow : OpenClaim := { program := "ytjkinpbfmihhdaagreat", sum := "1cd42df19d31aedcf367f76a087a48974cb6f22a7f05647d92de0e89a883f9ac", func := "cubicle/cubiclelaw17.DomainRace", spec := "domainRace", unfollowed := true, recurses := true, apart := false, narrowed := true }
def DomainRaceUptoSaid : Prop := domainRaceUptoRow.holds Tryz.pinned (OpenSpec.upto domainRaceSpec)

/-- 'cubiclelaw17.DomainOdd', WHERE WHAT IT READS IS OF BULK AT MOST 1048576: true; the input reads as it did. -/
def domainOddUptoRow : OpenClaim := { program := "ytjkinpbfmihhdaagreat", sum := "1cd42df19d31aedcf367f76a087a48974cb6f22a7f05647d92de0e89a883f9ac", func := "cubicle/cubiclelaw17.DomainOdd", spec := "domainOdd", unfollowed := true, recurses := true, apart := false, narrowed := true }
def DomainOddUptoSaid : Prop := domainOddUptoRow.holds Tryz.pinned (OpenSpec.upto domainOddSpec)

/-- 'cubiclelaw16.DictCells', WHERE WHAT IT READS IS OF BULK AT MOST 1048576: true; the input reads as it did. -/
def dictCellsUptoRow : OpenClaim := { program := "ytjkinpbfmihhdaagreat", sum := "1cd42df19d31aedcf367f76a087a48974cb6f22a7f05647d92de0e89a883f9ac", func := "cubicle/cubiclelaw16.DictCells", spec := "dictCells", unfollowed := true, recurses := true, apart := false, narrowed := true }
def DictCellsUptoSaid : Prop := dictCellsUptoRow.holds Tryz.pinned (OpenSpec.upto dictCellsSpec)

end Rows
end Go.Proofs.YtjkinpbfmihhdaaGreat

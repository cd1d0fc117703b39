/-
  No cell of these rows narrows 'for every input' (looked for: loops, veiled, ifaces, maps, wideKeys, modest, calm, conditions, laid).
  DERIVED. THE GIVEN ROWS OF THIS SEAT. 12 by the template 'for every input the law returns true; each argument reads behind the call as it read before'; 0 by the template 'total and deterministic' (their statements: YtikjpdpgdmbdpaaGreatTotals.lean).
  GIVEN WITH THE SEED: the statements are not yours to turn. If you find one false, say at which input.
  Laid BY PROGRAM, IN A SANDBOX (cutbox-rows.mjs): the forced cells as the released guide's own fill.sh prints them over the translation 68a00095af667ecf… (all of the seat's roots in one cut). By AI agents, Wed Nov 11 2026. No macro, syntax, notation, axiom, sorry.
-/
import Derived.Test.YtikjpdpgdmbdpaaGreatChecked
import GoSem.Claim
import GoSem.ClaimJoined
import GoSem.ClaimMapViews
import Derived.JoinedTies
import Derived.KernelRfl
namespace Go.Proofs.YtikjpdpgdmbdpaaGreat
/- THE CELL 'sum', in the pinned program and in every row, IS THE sha256 OF THE DUMP (.gsa) THAT YtikjpdpgdmbdpaaGreatProg.lean LOADS. Nothing in Lean hashes anything: it is a label: what it is worth is what the hold of that sum in a sandbox is worth. -/
noncomputable def Tryz.pinned : Pinned := { name := "ytikjpdpgdmbdpaagreat", sum := "68a00095af667ecf963e5d79395b14c27ca6c9895a2830550dce902106282cb5", checked := Tryz.checked }
namespace Rows
def none {H : Type} : Left H := { results := [], args := [] }

/-- 'cubiclelaw12.AllocMany': WHATEVER THE INPUT: true; the input reads as it did. -/
def allocManySpec : ChangeSpec := { name := "allocMany", fn := fun _ => fun
  | [d1, d2, d3] => { results := [.lit (.bool true)], args := [d1, d2, d3] }
  | _ => none }
def allocManyRow : OpenClaim := { program := "ytikjpdpgdmbdpaagreat", sum := "68a00095af667ecf963e5d79395b14c27ca6c9895a2830550dce902106282cb5", func := "cubicle/cubiclelaw12.AllocMany", spec := "allocMany", unfollowed := true, recurses := true, apart := false }
def AllocManySaid : Prop := allocManyRow.holds Tryz.pinned (OpenSpec.ofChange allocManySpec)

/-- ITS FALSE NEIGHBOUR: 'it returns false'. Refute it at one input. -/
def allocManyWrong : ChangeSpec := { name := "allocMany", fn := fun _ => fun
  | [d1, d2, d3] => { results := [.lit (.bool false)], args := [d1, d2, d3] }
  | _ => none }
def AllocManyWrongFalsely : Prop := allocManyRow.holds Tryz.pinned (OpenSpec.ofChange allocManyWrong)

/-- 'cubiclelaw17.DomainMany': WHATEVER THE INPUT: true; the input reads as it did. -/
def domainManySpec : ChangeSpec := { name := "domainMany", fn := fun _ => fun
  | [d1, d2, d3] => { results := [.lit (.bool true)], args := [d1, d2, d3] }
  | _ => none }
def domainManyRow : OpenClaim := { program := "ytikjpdpgdmbdpaagreat", sum := "68a00095af667ecf963e5d79395b14c27ca6c9895a2830550dce902106282cb5", func := "cubicle/cubiclelaw17.DomainMany", spec := "domainMany", unfollowed := true, recurses := true, apart := false }
def DomainManySaid : Prop := domainManyRow.holds Tryz.pinned (OpenSpec.ofChange domainManySpec)

/-- ITS FALSE NEIGHBOUR: 'it returns false'. Refute it at one input. -/
def domainManyWrong : ChangeSpec := { name := "domainMany", fn := fun _ => fun
  | [d1, d2, d3] => { results := [.lit (.bool false)], args := [d1, d2, d3] }
  | _ => none }
def DomainManyWrongFalsely : Prop := domainManyRow.holds Tryz.pinned (OpenSpec.ofChange domainManyWrong)

/-- 'cubiclelaw13.CheckAlone': WHATEVER THE INPUT: true; the input reads as it did. -/
def checkAloneSpec : ChangeSpec := { name := "checkAlone", fn := fun _ => fun
  | [d1, d2, d3] => { results := [.lit (.bool true)], args := [d1, d2, d3] }
  | _ => none }
def checkAloneRow : OpenClaim := { program := "ytikjpdpgdmbdpaagreat", sum := "68a00095af667ecf963e5d79395b14c27ca6c9895a2830550dce902106282cb5", func := "cubicle/cubiclelaw13.CheckAlone", spec := "checkAlone", unfollowed := true, recurses := true, apart := false }
def CheckAloneSaid : Prop := checkAloneRow.holds Tryz.pinned (OpenSpec.ofChange checkAloneSpec)

/-- ITS FALSE NEIGHBOUR: 'it returns false'. Refute it at one input. -/
def checkAloneWrong : ChangeSpec := { name := "checkAlone", fn := fun _ => fun
  | [d1, d2, d3] => { results := [.lit (.bool false)], args := [d1, d2, d3] }
  | _ => none }
def CheckAloneWrongFalsely : Prop := checkAloneRow.holds Tryz.pinned (OpenSpec.ofChange checkAloneWrong)

/-- 'cubiclelaw14.QueueMany': WHATEVER THE INPUT: true; the input reads as it did. -/
def queueManySpec : ChangeSpec := { name := "queueMany", fn := fun _ => fun
  | [d1, d2, d3] => { results := [.lit (.bool true)], args := [d1, d2, d3] }
  | _ => none }
def queueManyRow : OpenClaim := { program := "ytikjpdpgdmbdpaagreat", sum := "68a00095af667ecf963e5d79395b14c27ca6c9895a2830550dce902106282cb5", func := "cubicle/cubiclelaw14.QueueMany", spec := "queueMany", unfollowed := true, recurses := true, apart := false }
def QueueManySaid : Prop := queueManyRow.holds Tryz.pinned (OpenSpec.ofChange queueManySpec)

/-- ITS FALSE NEIGHBOUR: 'it returns false'. Refute it at one input. -/
def queueManyWrong : ChangeSpec := { name := "queueMany", fn := fun _ => fun
  | [d1, d2, d3] => { results := [.lit (.bool false)], args := [d1, d2, d3] }
  | _ => none }
def QueueManyWrongFalsely : Prop := queueManyRow.holds Tryz.pinned (OpenSpec.ofChange queueManyWrong)

/-- 'cubiclelaw15.ListKeys': WHATEVER THE INPUT: true; the input reads as it did. -/
def listKeysSpec : ChangeSpec := { name := "listKeys", fn := fun _ => fun
  | [d] => { results := [.lit (.bool true)], args := [d] }
  | _ => none }
def listKeysRow : OpenClaim := { program := "ytikjpdpgdmbdpaagreat", sum := "68a00095af667ecf963e5d79395b14c27ca6c9895a2830550dce902106282cb5", func := "cubicle/cubiclelaw15.ListKeys", spec := "listKeys", unfollowed := true, recurses := true, apart := false }
def ListKeysSaid : Prop := listKeysRow.holds Tryz.pinned (OpenSpec.ofChange listKeysSpec)

/-- ITS FALSE NEIGHBOUR: 'it returns false'. Refute it at one input. -/
def listKeysWrong : ChangeSpec := { name := "listKeys", fn := fun _ => fun
  | [d] => { results := [.lit (.bool false)], args := [d] }
  | _ => none }
def ListKeysWrongFalsely : Prop := listKeysRow.holds Tryz.pinned (OpenSpec.ofChange listKeysWrong)

/-- 'cubiclelaw15.ListRace': WHATEVER THE INPUT: true; the input reads as it did. -/
def listRaceSpec : ChangeSpec := { name := "listRace", fn := fun _ => fun
  | [d1, d2, d3] => { results := [.lit (.bool true)], args := [d1, d2, d3] }
  | _ => none }
def listRaceRow : OpenClaim := { program := "ytikjpdpgdmbdpaagreat", sum := "68a00095af667ecf963e5d79395b14c27ca6c9895a2830550dce902106282cb5", func := "cubicle/cubiclelaw15.ListRace", spec := "listRace", unfollowed := true, recurses := true, apart := false }
def ListRaceSaid : Prop := listRaceRow.holds Tryz.pinned (OpenSpec.ofChange listRaceSpec)

/-- ITS FALSE NEIGHBOUR: 'it returns false'. Refute it at one input. -/
def listRaceWrong : ChangeSpec := { name := "listRace", fn := fun _ => fun
  | [d1, d2, d3] => { results := [.lit (.bool false)], args := [d1, d2, d3] }
  | _ => none }
def ListRaceWrongFalsely : Prop := listRaceRow.holds Tryz.pinned (OpenSpec.ofChange listRaceWrong)

/-- 'cubiclelaw15.ListAlone': WHATEVER THE INPUT: true; the input reads as it did. -/
def listAloneSpec : ChangeSpec := { name := "listAlone", fn := fun _ => fun
  | [d1, d2] => { results := [.lit (.bool true)], args := [d1, d2] }
  | _ => none }
def listAloneRow : OpenClaim := { program := "ytikjpdpgdmbdpaagreat", sum := "68a00095af667ecf963e5d79395b14c27ca6c9895a2830550dce902106282cb5", func := "cubicle/cubiclelaw15.ListAlone", spec := "listAlone", unfollowed := true, recurses := true, apart := false }
def ListAloneSaid : Prop := listAloneRow.holds Tryz.pinned (OpenSpec.ofChange listAloneSpec)

/-- ITS FALSE NEIGHBOUR: 'it returns false'. Refute it at one input. -/
def listAloneWrong : ChangeSpec := { name := "listAlone", fn := fun _ => fun
  | [d1, d2] => { results := [.lit (.bool false)], args := [d1, d2] }
  | _ => none }
def ListAloneWrongFalsely : Prop := listAloneRow.holds Tryz.pinned (OpenSpec.ofChange listAloneWrong)

/-- 'cubiclelaw15.ListStalls': WHATEVER THE INPUT: true; the input reads as it did. -/
def listStallsSpec : ChangeSpec := { name := "listStalls", fn := fun _ => fun
  | [d1, d2, d3] => { results := [.lit (.bool true)], args := [d1, d2, d3] }
  | _ => none }
def listStallsRow : OpenClaim := { program := "ytikjpdpgdmbdpaagreat", sum := "68a00095af667ecf963e5d79395b14c27ca6c9895a2830550dce902106282cb5", func := "cubicle/cubiclelaw15.ListStalls", spec := "listStalls", unfollowed := true, recurses := true, apart := false }
def ListStallsSaid : Prop := listStallsRow.holds Tryz.pinned (OpenSpec.ofChange listStallsSpec)

/-- ITS FALSE NEIGHBOUR: 'it returns false'. Refute it at one input. -/
def listStallsWrong : ChangeSpec := { name := "listStalls", fn := fun _ => fun
  | [d1, d2, d3] => { results := [.lit (.bool false)], args := [d1, d2, d3] }
  | _ => none }
def ListStallsWrongFalsely : Prop := listStallsRow.holds Tryz.pinned (OpenSpec.ofChange listStallsWrong)

/-- 'cubiclelaw15.ListMany': WHATEVER THE INPUT: true; the input reads as it did. -/
def listManySpec : ChangeSpec := { name := "listMany", fn := fun _ => fun
  | [d1, d2, d3] => { results := [.lit (.bool true)], args := [d1, d2, d3] }
  | _ => none }
def listManyRow : OpenClaim := { program := "ytikjpdpgdmbdpaagreat", sum := "68a00095af667ecf963e5d79395b14c27ca6c9895a2830550dce902106282cb5", func := "cubicle/cubiclelaw15.ListMany", spec := "listMany", unfollowed := true, recurses := true, apart := false }
def ListManySaid : Prop := listManyRow.holds Tryz.pinned (OpenSpec.ofChange listManySpec)

/-- ITS FALSE NEIGHBOUR: 'it returns false'. Refute it at one input. -/
def listManyWrong : ChangeSpec := { name := "listMany", fn := fun _ => fun
  | [d1, d2, d3] => { results := [.lit (.bool false)], args := [d1, d2, d3] }
  | _ => none }
def ListManyWrongFalsely : Prop := listManyRow.holds Tryz.pinned (OpenSpec.ofChange listManyWrong)

/-- 'cubiclelaw15.ListNodes': WHATEVER THE INPUT: true; the input reads as it did. -/
def listNodesSpec : ChangeSpec := { name := "listNodes", fn := fun _ => fun
  | [d1, d2] => { results := [.lit (.bool true)], args := [d1, d2] }
  | _ => none }
def listNodesRow : OpenClaim := { program := "ytikjpdpgdmbdpaagreat", sum := "68a00095af667ecf963e5d79395b14c27ca6c9895a2830550dce902106282cb5", func := "cubicle/cubiclelaw15.ListNodes", spec := "listNodes", unfollowed := true, recurses := true, apart := false }
def ListNodesSaid : Prop := listNodesRow.holds Tryz.pinned (OpenSpec.ofChange listNodesSpec)

/-- ITS FALSE NEIGHBOUR: 'it returns false'. Refute it at one input. -/
def listNodesWrong : ChangeSpec := { name := "listNodes", fn := fun _ => fun
  | [d1, d2] => { results := [.lit (.bool false)], args := [d1, d2] }
  | _ => none }
def ListNodesWrongFalsely : Prop := listNodesRow.holds Tryz.pinned (OpenSpec.ofChange listNodesWrong)

/-- 'cubiclelaw17.DomainOdd': WHATEVER THE INPUT: true; the input reads as it did. -/
def domainOddSpec : ChangeSpec := { name := "domainOdd", fn := fun _ => fun
  | [d1, d2] => { results := [.lit (.bool true)], args := [d1, d2] }
  | _ => none }
def domainOddRow : OpenClaim := { program := "ytikjpdpgdmbdpaagreat", sum := "68a00095af667ecf963e5d79395b14c27ca6c9895a2830550dce902106282cb5", func := "cubicle/cubiclelaw17.DomainOdd", spec := "domainOdd", unfollowed := true, recurses := true, apart := false }
def DomainOddSaid : Prop := domainOddRow.holds Tryz.pinned (OpenSpec.ofChange domainOddSpec)

/-- ITS FALSE NEIGHBOUR: 'it returns false'. Refute it at one input. -/
def domainOddWrong : ChangeSpec := { name := "domainOdd", fn := fun _ => fun
  | [d1, d2] => { results := [.lit (.bool false)], args := [d1, d2] }
  | _ => none }
def DomainOddWrongFalsely : Prop := domainOddRow.holds Tryz.pinned (OpenSpec.ofChange domainOddWrong)

/-- 'cubiclelaw16.DictCells': WHATEVER THE INPUT: true; the input reads as it did. -/
def dictCellsSpec : ChangeSpec := { name := "dictCells", fn := fun _ => fun
  | [d1, d2, d3] => { results := [.lit (.bool true)], args := [d1, d2, d3] }
  | _ => none }
def dictCellsRow : OpenClaim := { program := "ytikjpdpgdmbdpaagreat", sum := "68a00095af667ecf963e5d79395b14c27ca6c9895a2830550dce902106282cb5", func := "cubicle/cubiclelaw16.DictCells", spec := "dictCells", unfollowed := true, recurses := true, apart := false }
def DictCellsSaid : Prop := dictCellsRow.holds Tryz.pinned (OpenSpec.ofChange dictCellsSpec)

/-- ITS FALSE NEIGHBOUR: 'it returns false'. Refute it at one input. -/
def dictCellsWrong : ChangeSpec := { name := "dictCells", fn := fun _ => fun
  | [d1, d2, d3] => { results := [.lit (.bool false)], args := [d1, d2, d3] }
  | _ => none }
def DictCellsWrongFalsely : Prop := dictCellsRow.holds Tryz.pinned (OpenSpec.ofChange dictCellsWrong)

/- THE SECOND FORM. 'bulk': how many values and letters a reading holds, each counted each time it is reached (what is shared counts as often as it is met; a slice's spare places count too). A statement '..UptoSaid' is the law's where the arguments, and the package variables that the reading takes, are together of bulk at most 1048576: NARROWER than '..Said'. Prove '..Said' where nothing that the law and all that it calls make is longer than what came in: it says more and counts as full. Else prove '..UptoSaid'. A law counts once. -/
mutual
def uptoBulk {H : Type} : DataW H → Nat
  | .lit (.string bytes) => bytes.length + 1
  | .lit _ => 1
  | .nil => 1
  | .ptr d => uptoBulk d + 1
  | .slice elems spare => uptoBulkAll elems + uptoBulkAll spare + 1
  | .agg parts => uptoBulkAll parts + 1
  | .iface _ d => uptoBulk d + 1
  | .map entries => uptoBulkEntries entries + 1
  | .held _ => 1
def uptoBulkAll {H : Type} : List (DataW H) → Nat
  | [] => 0
  | d :: r => uptoBulk d + uptoBulkAll r
def uptoBulkEntries {H : Type} : List (Lit × DataW H) → Nat
  | [] => 0
  | x :: r => uptoBulkEntry x + uptoBulkEntries r
def uptoBulkEntry {H : Type} : Lit × DataW H → Nat
  | (.string bytes, d) => bytes.length + uptoBulk d + 1
  | (_, d) => uptoBulk d + 1
 end
def uptoSmall : (H : Type) → List (DataW H) → Bool := fun _ ds => decide (uptoBulkAll ds ≤ 1048576)
def OpenSpec.upto (s : _root_.Go.ChangeSpec) : _root_.Go.OpenSpec := { _root_.Go.OpenSpec.ofChange s with cond := some uptoSmall }

/-- 'cubiclelaw12.AllocMany', WHERE WHAT IT READS IS OF BULK AT MOST 1048576: true; the input reads as it did. -/
def allocManyUptoRow : OpenClaim := { program := "ytikjpdpgdmbdpaagreat", sum := "68a00095af667ecf963e5d79395b14c27ca6c9895a2830550dce902106282cb5", func := "cubicle/cubiclelaw12.AllocMany", spec := "allocMany", unfollowed := true, recurses := true, apart := false, narrowed := true }
def AllocManyUptoSaid : Prop := allocManyUptoRow.holds Tryz.pinned (OpenSpec.upto allocManySpec)

/-- 'cubiclelaw17.DomainMany', WHERE WHAT IT READS IS OF BULK AT MOST 1048576: true; the input reads as it did. -/
def domainManyUptoRow : OpenClaim := { program := "ytikjpdpgdmbdpaagreat", sum := "68a00095af667ecf963e5d79395b14c27ca6c9895a2830550dce902106282cb5", func := "cubicle/cubiclelaw17.DomainMany", spec := "domainMany", unfollowed := true, recurses := true, apart := false, narrowed := true }
def DomainManyUptoSaid : Prop := domainManyUptoRow.holds Tryz.pinned (OpenSpec.upto domainManySpec)

/-- 'cubiclelaw13.CheckAlone', WHERE WHAT IT READS IS OF BULK AT MOST 1048576: true; the input reads as it did. -/
def checkAloneUptoRow : OpenClaim := { program := "ytikjpdpgdmbdpaagreat", sum := "68a00095af667ecf963e5d79395b14c27ca6c9895a2830550dce902106282cb5", func := "cubicle/cubiclelaw13.CheckAlone", spec := "checkAlone", unfollowed := true, recurses := true, apart := false, narrowed := true }
def CheckAloneUptoSaid : Prop := checkAloneUptoRow.holds Tryz.pinned (OpenSpec.upto checkAloneSpec)

/-- 'cubiclelaw14.QueueMany', WHERE WHAT IT READS IS OF BULK AT MOST 1048576: true; the input reads as it did. -/
def queueManyUptoRow : OpenClaim := { program := "ytikjpdpgdmbdpaagreat", sum := "68a00095af667ecf963e5d79395b14c27ca6c9895a2830550dce902106282cb5", func := "cubicle/cubiclelaw14.QueueMany", spec := "queueMany", unfollowed := true, recurses := true, apart := false, narrowed := true }
def QueueManyUptoSaid : Prop := queueManyUptoRow.holds Tryz.pinned (OpenSpec.upto queueManySpec)

/-- 'cubiclelaw15.ListKeys', WHERE WHAT IT READS IS OF BULK AT MOST 1048576: true; the input reads as it did. -/
def listKeysUptoRow : OpenClaim := { program := "ytikjpdpgdmbdpaagreat", sum := "68a00095af667ecf963e5d79395b14c27ca6c9895a2830550dce902106282cb5", func := "cubicle/cubiclelaw15.ListKeys", spec := "listKeys", unfollowed := true, recurses := true, apart := false, narrowed := true }
def ListKeysUptoSaid : Prop := listKeysUptoRow.holds Tryz.pinned (OpenSpec.upto listKeysSpec)

/-- 'cubiclelaw15.ListRace', WHERE WHAT IT READS IS OF BULK AT MOST 1048576: true; the input reads as it did. -/
def listRaceUptoRow : OpenClaim := { program := "ytikjpdpgdmbdpaagreat", sum := "68a00095af667ecf963e5d79395b14c27ca6c9895a2830550dce902106282cb5", func := "cubicle/cubiclelaw15.ListRace", spec := "listRace", unfollowed := true, recurses := true, apart := false, narrowed := true }
def ListRaceUptoSaid : Prop := listRaceUptoRow.holds Tryz.pinned (OpenSpec.upto listRaceSpec)

/-- 'cubiclelaw15.ListAlone', WHERE WHAT IT READS IS OF BULK AT MOST 1048576: true; the input reads as it did. -/
def listAloneUptoRow : OpenClaim := { program := "ytikjpdpgdmbdpaagreat", sum := "68a00095af667ecf963e5d79395b14c27ca6c9895a2830550dce902106282cb5", func := "cubicle/cubiclelaw15.ListAlone", spec := "listAlone", unfollowed := true, recurses := true, apart := false, narrowed := true }
def ListAloneUptoSaid : Prop := listAloneUptoRow.holds Tryz.pinned (OpenSpec.upto listAloneSpec)

/-- 'cubiclelaw15.ListStalls', WHERE WHAT IT READS IS OF BULK AT MOST 1048576: true; the input reads as it did. -/
def listStallsUptoRow : OpenClaim := { program := "ytikjpdpgdmbdpaagreat", sum := "68a00095af667ecf963e5d79395b14c27ca6c9895a2830550dce902106282cb5", func := "cubicle/cubiclelaw15.ListStalls", spec := "listStalls", unfollowed := true, recurses := true, apart := false, narrowed := true }
def ListStallsUptoSaid : Prop := listStallsUptoRow.holds Tryz.pinned (OpenSpec.upto listStallsSpec)

/-- 'cubiclelaw15.ListMany', WHERE WHAT IT READS IS OF BULK AT MOST 1048576: true; the input reads as it did. -/
def listManyUptoRow : OpenClaim := { program := "ytikjpdpgdmbdpaagreat", sum := "68a00095af667ecf963e5d79395b14c27ca6c9895a2830550dce902106282cb5", func := "cubicle/cubiclelaw15.ListMany", spec := "listMany", unfollowed := true, recurses := true, apart := false, narrowed := true }
def ListManyUptoSaid : Prop := listManyUptoRow.holds Tryz.pinned (OpenSpec.upto listManySpec)

/-- 'cubiclelaw15.ListNodes', WHERE WHAT IT READS IS OF BULK AT MOST 1048576: true; the input reads as it did. -/
def listNodesUptoRow : OpenClaim := { program := "ytikjpdpgdmbdpaagreat", sum := "68a00095af667ecf963e5d79395b14c27ca6c9895a2830550dce902106282cb5", func := "cubicle/cubiclelaw15.ListNodes", spec := "listNodes", unfollowed := true, recurses := true, apart := false, narrowed := true }
def ListNodesUptoSaid : Prop := listNodesUptoRow.holds Tryz.pinned (OpenSpec.upto listNodesSpec)

/-- 'cubiclelaw17.DomainOdd', WHERE WHAT IT READS IS OF BULK AT MOST 1048576: true; the input reads as it did. -/
def domainOddUptoRow : OpenClaim := { program := "ytikjpdpgdmbdpaagreat", sum := "68a00095af667ecf963e5d79395b14c27ca6c9895a2830550dce902106282cb5", func := "cubicle/cubiclelaw17.DomainOdd", spec := "domainOdd", unfollowed := true, recurses := true, apart := false, narrowed := true }
def DomainOddUptoSaid : Prop := domainOddUptoRow.holds Tryz.pinned (OpenSpec.upto domainOddSpec)

/-- 'cubiclelaw16.DictCells', WHERE WHAT IT READS IS OF BULK AT MOST 1048576: true; the input reads as it did. -/
def dictCellsUptoRow : OpenClaim := { program := "ytikjpdpgdmbdpaagreat", sum := "68a00095af667ecf963e5d79395b14c27ca6c9895a2830550dce902106282cb5", func := "cubicle/cubiclelaw16.DictCells", spec := "dictCells", unfollowed := true, recurses := true, apart := false, narrowed := true }
def DictCellsUptoSaid : Prop := dictCellsUptoRow.holds Tryz.pinned (OpenSpec.upto dictCellsSpec)

end Rows
end Go.Proofs.YtikjpdpgdmbdpaaGreat

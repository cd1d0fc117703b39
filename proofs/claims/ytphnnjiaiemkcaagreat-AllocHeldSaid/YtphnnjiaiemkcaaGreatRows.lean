/-
  No cell of these rows narrows 'for every input' (looked for: loops, veiled, ifaces, maps, wideKeys, modest, calm, conditions, laid).
  DERIVED. THE GIVEN ROWS OF THIS SEAT. 9 by the template 'for every input the law returns true; each argument reads behind the call as it read before'; 0 by the template 'total and deterministic' (their statements: YtphnnjiaiemkcaaGreatTotals.lean).
  GIVEN WITH THE SEED: the statements are not yours to turn. If you find one false, say at which input.
  Laid BY PROGRAM, IN A SANDBOX (cutbox-rows.mjs): the forced cells as the released guide's own fill.sh prints them over the translation 70808650f5d8943a… (all of the seat's roots in one cut). By AI agents, Wed Nov 11 2026. No macro, syntax, notation, axiom, sorry.
-/
import Derived.Test.YtphnnjiaiemkcaaGreatChecked
import GoSem.Claim
import GoSem.ClaimJoined
import GoSem.ClaimMapViews
import Derived.JoinedTies
import Derived.KernelRfl
namespace Go.Proofs.YtphnnjiaiemkcaaGreat
/- THE CELL 'sum', in the pinned program and in every row, IS THE sha256 OF THE DUMP (.gsa) THAT YtphnnjiaiemkcaaGreatProg.lean LOADS. Nothing in Lean hashes anything: it is a label: what it is worth is what the hold of that sum in a sandbox is worth. -/
noncomputable def Tryz.pinned : Pinned := { name := "ytphnnjiaiemkcaagreat", sum := "70808650f5d8943ab63ff13d408ee94e54aef9e640b668559daaa1beb5d7241d", checked := Tryz.checked }
namespace Rows
def none {H : Type} : Left H := { results := [], args := [] }

/-- 'cubiclelaw11.RetireOthers': WHATEVER THE INPUT: true; the input reads as it did. -/
def retireOthersSpec : ChangeSpec := { name := "retireOthers", fn := fun _ => fun
  | [d1, d2] => { results := [.lit (.bool true)], args := [d1, d2] }
  | _ => none }
def retireOthersRow : OpenClaim := { program := "ytphnnjiaiemkcaagreat", sum := "70808650f5d8943ab63ff13d408ee94e54aef9e640b668559daaa1beb5d7241d", func := "cubicle/cubiclelaw11.RetireOthers", spec := "retireOthers", unfollowed := true, recurses := true, apart := false }
def RetireOthersSaid : Prop := retireOthersRow.holds Tryz.pinned (OpenSpec.ofChange retireOthersSpec)

/-- ITS FALSE NEIGHBOUR: 'it returns false'. Refute it at one input. -/
def retireOthersWrong : ChangeSpec := { name := "retireOthers", fn := fun _ => fun
  | [d1, d2] => { results := [.lit (.bool false)], args := [d1, d2] }
  | _ => none }
def RetireOthersWrongFalsely : Prop := retireOthersRow.holds Tryz.pinned (OpenSpec.ofChange retireOthersWrong)

/-- 'cubiclelaw11.RetireMore': WHATEVER THE INPUT: true; the input reads as it did. -/
def retireMoreSpec : ChangeSpec := { name := "retireMore", fn := fun _ => fun
  | [d1, d2] => { results := [.lit (.bool true)], args := [d1, d2] }
  | _ => none }
def retireMoreRow : OpenClaim := { program := "ytphnnjiaiemkcaagreat", sum := "70808650f5d8943ab63ff13d408ee94e54aef9e640b668559daaa1beb5d7241d", func := "cubicle/cubiclelaw11.RetireMore", spec := "retireMore", unfollowed := true, recurses := true, apart := false }
def RetireMoreSaid : Prop := retireMoreRow.holds Tryz.pinned (OpenSpec.ofChange retireMoreSpec)

/-- ITS FALSE NEIGHBOUR: 'it returns false'. Refute it at one input. -/
def retireMoreWrong : ChangeSpec := { name := "retireMore", fn := fun _ => fun
  | [d1, d2] => { results := [.lit (.bool false)], args := [d1, d2] }
  | _ => none }
def RetireMoreWrongFalsely : Prop := retireMoreRow.holds Tryz.pinned (OpenSpec.ofChange retireMoreWrong)

/-- 'cubiclelaw11.RetireScans': WHATEVER THE INPUT: true; the input reads as it did. -/
def retireScansSpec : ChangeSpec := { name := "retireScans", fn := fun _ => fun
  | [d1, d2, d3] => { results := [.lit (.bool true)], args := [d1, d2, d3] }
  | _ => none }
def retireScansRow : OpenClaim := { program := "ytphnnjiaiemkcaagreat", sum := "70808650f5d8943ab63ff13d408ee94e54aef9e640b668559daaa1beb5d7241d", func := "cubicle/cubiclelaw11.RetireScans", spec := "retireScans", unfollowed := true, recurses := true, apart := false }
def RetireScansSaid : Prop := retireScansRow.holds Tryz.pinned (OpenSpec.ofChange retireScansSpec)

/-- ITS FALSE NEIGHBOUR: 'it returns false'. Refute it at one input. -/
def retireScansWrong : ChangeSpec := { name := "retireScans", fn := fun _ => fun
  | [d1, d2, d3] => { results := [.lit (.bool false)], args := [d1, d2, d3] }
  | _ => none }
def RetireScansWrongFalsely : Prop := retireScansRow.holds Tryz.pinned (OpenSpec.ofChange retireScansWrong)

/-- 'cubiclelaw11.RetireTwice': WHATEVER THE INPUT: true; the input reads as it did. -/
def retireTwiceSpec : ChangeSpec := { name := "retireTwice", fn := fun _ => fun
  | [d1, d2, d3] => { results := [.lit (.bool true)], args := [d1, d2, d3] }
  | _ => none }
def retireTwiceRow : OpenClaim := { program := "ytphnnjiaiemkcaagreat", sum := "70808650f5d8943ab63ff13d408ee94e54aef9e640b668559daaa1beb5d7241d", func := "cubicle/cubiclelaw11.RetireTwice", spec := "retireTwice", unfollowed := true, recurses := true, apart := false }
def RetireTwiceSaid : Prop := retireTwiceRow.holds Tryz.pinned (OpenSpec.ofChange retireTwiceSpec)

/-- ITS FALSE NEIGHBOUR: 'it returns false'. Refute it at one input. -/
def retireTwiceWrong : ChangeSpec := { name := "retireTwice", fn := fun _ => fun
  | [d1, d2, d3] => { results := [.lit (.bool false)], args := [d1, d2, d3] }
  | _ => none }
def RetireTwiceWrongFalsely : Prop := retireTwiceRow.holds Tryz.pinned (OpenSpec.ofChange retireTwiceWrong)

/-- 'cubiclelaw12.AllocQuota': WHATEVER THE INPUT: true; the input reads as it did. -/
def allocQuotaSpec : ChangeSpec := { name := "allocQuota", fn := fun _ => fun
  | [d1, d2] => { results := [.lit (.bool true)], args := [d1, d2] }
  | _ => none }
def allocQuotaRow : OpenClaim := { program := "ytphnnjiaiemkcaagreat", sum := "70808650f5d8943ab63ff13d408ee94e54aef9e640b668559daaa1beb5d7241d", func := "cubicle/cubiclelaw12.AllocQuota", spec := "allocQuota", unfollowed := true, recurses := true, apart := false }
def AllocQuotaSaid : Prop := allocQuotaRow.holds Tryz.pinned (OpenSpec.ofChange allocQuotaSpec)

/-- ITS FALSE NEIGHBOUR: 'it returns false'. Refute it at one input. -/
def allocQuotaWrong : ChangeSpec := { name := "allocQuota", fn := fun _ => fun
  | [d1, d2] => { results := [.lit (.bool false)], args := [d1, d2] }
  | _ => none }
def AllocQuotaWrongFalsely : Prop := allocQuotaRow.holds Tryz.pinned (OpenSpec.ofChange allocQuotaWrong)

/-- 'cubiclelaw12.AllocAlone': WHATEVER THE INPUT: true; the input reads as it did. -/
def allocAloneSpec : ChangeSpec := { name := "allocAlone", fn := fun _ => fun
  | [d1, d2] => { results := [.lit (.bool true)], args := [d1, d2] }
  | _ => none }
def allocAloneRow : OpenClaim := { program := "ytphnnjiaiemkcaagreat", sum := "70808650f5d8943ab63ff13d408ee94e54aef9e640b668559daaa1beb5d7241d", func := "cubicle/cubiclelaw12.AllocAlone", spec := "allocAlone", unfollowed := true, recurses := true, apart := false }
def AllocAloneSaid : Prop := allocAloneRow.holds Tryz.pinned (OpenSpec.ofChange allocAloneSpec)

/-- ITS FALSE NEIGHBOUR: 'it returns false'. Refute it at one input. -/
def allocAloneWrong : ChangeSpec := { name := "allocAlone", fn := fun _ => fun
  | [d1, d2] => { results := [.lit (.bool false)], args := [d1, d2] }
  | _ => none }
def AllocAloneWrongFalsely : Prop := allocAloneRow.holds Tryz.pinned (OpenSpec.ofChange allocAloneWrong)

/-- 'cubiclelaw12.AllocKinds': WHATEVER THE INPUT: true; the input reads as it did. -/
def allocKindsSpec : ChangeSpec := { name := "allocKinds", fn := fun _ => fun
  | [d1, d2, d3] => { results := [.lit (.bool true)], args := [d1, d2, d3] }
  | _ => none }
def allocKindsRow : OpenClaim := { program := "ytphnnjiaiemkcaagreat", sum := "70808650f5d8943ab63ff13d408ee94e54aef9e640b668559daaa1beb5d7241d", func := "cubicle/cubiclelaw12.AllocKinds", spec := "allocKinds", unfollowed := true, recurses := true, apart := false }
def AllocKindsSaid : Prop := allocKindsRow.holds Tryz.pinned (OpenSpec.ofChange allocKindsSpec)

/-- ITS FALSE NEIGHBOUR: 'it returns false'. Refute it at one input. -/
def allocKindsWrong : ChangeSpec := { name := "allocKinds", fn := fun _ => fun
  | [d1, d2, d3] => { results := [.lit (.bool false)], args := [d1, d2, d3] }
  | _ => none }
def AllocKindsWrongFalsely : Prop := allocKindsRow.holds Tryz.pinned (OpenSpec.ofChange allocKindsWrong)

/-- 'cubiclelaw12.AllocMany': WHATEVER THE INPUT: true; the input reads as it did. -/
def allocManySpec : ChangeSpec := { name := "allocMany", fn := fun _ => fun
  | [d1, d2, d3] => { results := [.lit (.bool true)], args := [d1, d2, d3] }
  | _ => none }
def allocManyRow : OpenClaim := { program := "ytphnnjiaiemkcaagreat", sum := "70808650f5d8943ab63ff13d408ee94e54aef9e640b668559daaa1beb5d7241d", func := "cubicle/cubiclelaw12.AllocMany", spec := "allocMany", unfollowed := true, recurses := true, apart := false }
def AllocManySaid : Prop := allocManyRow.holds Tryz.pinned (OpenSpec.ofChange allocManySpec)

/-- ITS FALSE NEIGHBOUR: 'it returns false'. Refute it at one input. -/
def allocManyWrong : ChangeSpec := { name := "allocMany", fn := fun _ => fun
  | [d1, d2, d3] => { results := [.lit (.bool false)], args := [d1, d2, d3] }
  | _ => none }
def AllocManyWrongFalsely : Prop := allocManyRow.holds Tryz.pinned (OpenSpec.ofChange allocManyWrong)

/-- 'cubiclelaw12.AllocHeld': WHATEVER THE INPUT: true; the input reads as it did. -/
def allocHeldSpec : ChangeSpec := { name := "allocHeld", fn := fun _ => fun
  | [d1, d2] => { results := [.lit (.bool true)], args := [d1, d2] }
  | _ => none }
def allocHeldRow : OpenClaim := { program := "ytphnnjiaiemkcaagreat", sum := "70808650f5d8943ab63ff13d408ee94e54aef9e640b668559daaa1beb5d7241d", func := "cubicle/cubiclelaw12.AllocHeld", spec := "allocHeld", unfollowed := true, recurses := true, apart := false }
def AllocHeldSaid : Prop := allocHeldRow.holds Tryz.pinned (OpenSpec.ofChange allocHeldSpec)

/-- ITS FALSE NEIGHBOUR: 'it returns false'. Refute it at one input. -/
def allocHeldWrong : ChangeSpec := { name := "allocHeld", fn := fun _ => fun
  | [d1, d2] => { results := [.lit (.bool false)], args := [d1, d2] }
  | _ => none }
def AllocHeldWrongFalsely : Prop := allocHeldRow.holds Tryz.pinned (OpenSpec.ofChange allocHeldWrong)

/- THE SECOND FORM. 'bulk': how many values and letters a reading holds, each counted each time it is reached (what is shared counts as often as it is met; a slice's spare places count too). A statement '..UptoSaid' is the law's where the arguments, and the package variables that the reading takes, are together of bulk at most 1048576: NARROWER than '..Said'. Prove '..Said' where nothing that the law and all that it calls make is longer than what came in: it says more and counts as full. Else prove '..UptoSaid'. A law counts once. -/
mutual
def uptoBulk {H : Type} : DataW H → Nat
  | .lit (.string bytes) => bytes.length + 1
  | .lit _ => 1
  | .nil => 1
  | .ptr d => uptoBulk d + 1
  | .slice elems spare => uptoBulkAll elems + uptoBulkAll spare + 1
  | .agg parts => uptoBulkAll parts + 1
  | .iface _ d => uptoBulk d + 1
  | .map entries => uptoBulkEntries entries + 1
  | .held _ => 1
def uptoBulkAll {H : Type} : List (DataW H) → Nat
  | [] => 0
  | d :: r => uptoBulk d + uptoBulkAll r
def uptoBulkEntries {H : Type} : List (Lit × DataW H) → Nat
  | [] => 0
  | x :: r => uptoBulkEntry x + uptoBulkEntries r
def uptoBulkEntry {H : Type} : Lit × DataW H → Nat
  | (.string bytes, d) => bytes.length + uptoBulk d + 1
  | (_, d) => uptoBulk d + 1
 end
def uptoSmall : (H : Type) → List (DataW H) → Bool := fun _ ds => decide (uptoBulkAll ds ≤ 1048576)
def OpenSpec.upto (s : _root_.Go.ChangeSpec) : _root_.Go.OpenSpec := { _root_.Go.OpenSpec.ofChange s with cond := some uptoSmall }

/-- 'cubiclelaw11.RetireOthers', WHERE WHAT IT READS IS OF BULK AT MOST 1048576: true; the input reads as it did. -/
def retireOthersUptoRow : OpenClaim := { program := "ytphnnjiaiemkcaagreat", sum := "70808650f5d8943ab63ff13d408ee94e54aef9e640b668559daaa1beb5d7241d", func := "cubicle/cubiclelaw11.RetireOthers", spec := "retireOthers", unfollowed := true, recurses := true, apart := false, narrowed := true }
def RetireOthersUptoSaid : Prop := retireOthersUptoRow.holds Tryz.pinned (OpenSpec.upto retireOthersSpec)

/-- 'cubiclelaw11.RetireMore', WHERE WHAT IT READS IS OF BULK AT MOST 1048576: true; the input reads as it did. -/
def retireMoreUptoRow : OpenClaim := { program := "ytphnnjiaiemkcaagreat", sum := "70808650f5d8943ab63ff13d408ee94e54aef9e640b668559daaa1beb5d7241d", func := "cubicle/cubiclelaw11.RetireMore", spec := "retireMore", unfollowed := true, recurses := true, apart := false, narrowed := true }
def RetireMoreUptoSaid : Prop := retireMoreUptoRow.holds Tryz.pinned (OpenSpec.upto retireMoreSpec)

/-- 'cubiclelaw11.RetireScans', WHERE WHAT IT READS IS OF BULK AT MOST 1048576: true; the input reads as it did. -/
def retireScansUptoRow : OpenClaim := { program := "ytphnnjiaiemkcaagreat", sum := "70808650f5d8943ab63ff13d408ee94e54aef9e640b668559daaa1beb5d7241d", func := "cubicle/cubiclelaw11.RetireScans", spec := "retireScans", unfollowed := true, recurses := true, apart := false, narrowed := true }
def RetireScansUptoSaid : Prop := retireScansUptoRow.holds Tryz.pinned (OpenSpec.upto retireScansSpec)

/-- 'cubiclelaw11.RetireTwice', WHERE WHAT IT READS IS OF BULK AT MOST 1048576: true; the input reads as it did. -/
def retireTwiceUptoRow : OpenClaim := { program := "ytphnnjiaiemkcaagreat", sum := "70808650f5d8943ab63ff13d408ee94e54aef9e640b668559daaa1beb5d7241d", func := "cubicle/cubiclelaw11.RetireTwice", spec := "retireTwice", unfollowed := true, recurses := true, apart := false, narrowed := true }
def RetireTwiceUptoSaid : Prop := retireTwiceUptoRow.holds Tryz.pinned (OpenSpec.upto retireTwiceSpec)

/-- 'cubiclelaw12.AllocQuota', WHERE WHAT IT READS IS OF BULK AT MOST 1048576: true; the input reads as it did. -/
def allocQuotaUptoRow : OpenClaim := { program := "ytphnnjiaiemkcaagreat", sum := "70808650f5d8943ab63ff13d408ee94e54aef9e640b668559daaa1beb5d7241d", func := "cubicle/cubiclelaw12.AllocQuota", spec := "allocQuota", unfollowed := true, recurses := true, apart := false, narrowed := true }
def AllocQuotaUptoSaid : Prop := allocQuotaUptoRow.holds Tryz.pinned (OpenSpec.upto allocQuotaSpec)

/-- 'cubiclelaw12.AllocAlone', WHERE WHAT IT READS IS OF BULK AT MOST 1048576: true; the input reads as it did. -/
def allocAloneUptoRow : OpenClaim := { program := "ytphnnjiaiemkcaagreat", sum := "70808650f5d8943ab63ff13d408ee94e54aef9e640b668559daaa1beb5d7241d", func := "cubicle/cubiclelaw12.AllocAlone", spec := "allocAlone", unfollowed := true, recurses := true, apart := false, narrowed := true }
def AllocAloneUptoSaid : Prop := allocAloneUptoRow.holds Tryz.pinned (OpenSpec.upto allocAloneSpec)

/-- 'cubiclelaw12.AllocKinds', WHERE WHAT IT READS IS OF BULK AT MOST 1048576: true; the input reads as it did. -/
def allocKindsUptoRow : OpenClaim := { program := "ytphnnjiaiemkcaagreat", sum := "70808650f5d8943ab63ff13d408ee94e54aef9e640b668559daaa1beb5d7241d", func := "cubicle/cubiclelaw12.AllocKinds", spec := "allocKinds", unfollowed := true, recurses := true, apart := false, narrowed := true }
def AllocKindsUptoSaid : Prop := allocKindsUptoRow.holds Tryz.pinned (OpenSpec.upto allocKindsSpec)

/-- 'cubiclelaw12.AllocMany', WHERE WHAT IT READS IS OF BULK AT MOST 1048576: true; the input reads as it did. -/
def allocManyUptoRow : OpenClaim := { program := "ytphnnjiaiemkcaagreat", sum := "70808650f5d8943ab63ff13d408ee94e54aef9e640b668559daaa1beb5d7241d", func := "cubicle/cubiclelaw12.AllocMany", spec := "allocMany", unfollowed := true, recurses := true, apart := false, narrowed := true }
def AllocManyUptoSaid : Prop := allocManyUptoRow.holds Tryz.pinned (OpenSpec.upto allocManySpec)

/-- 'cubiclelaw12.AllocHeld', WHERE WHAT IT READS IS OF BULK AT MOST 1048576: true; the input reads as it did. -/
def allocHeldUptoRow : OpenClaim := { program := "ytphnnjiaiemkcaagreat", sum := "70808650f5d8943ab63ff13d408ee94e54aef9e640b668559daaa1beb5d7241d", func := "cubicle/cubiclelaw12.AllocHeld", spec := "allocHeld", unfollowed := true, recurses := true, apart := false, narrowed := true }
def AllocHeldUptoSaid : Prop := allocHeldUptoRow.holds Tryz.pinned (OpenSpec.upto allocHeldSpec)

end Rows
end Go.Proofs.YtphnnjiaiemkcaaGreat

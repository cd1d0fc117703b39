/-
  No cell of these rows narrows 'for every input' (looked for: loops, veiled, ifaces, maps, wideKeys, modest, calm, conditions, laid).
  DERIVED. THE GIVEN ROWS OF THIS SEAT. 9 by the template 'for every input the law returns true; each argument reads behind the call as it read before'; 0 by the template 'total and deterministic' (their statements: YtbbipmelhmgmfaaGreatTotals.lean).
  GIVEN WITH THE SEED: the statements are not yours to turn. If you find one false, say at which input.
  Laid BY PROGRAM, IN A SANDBOX (cutbox-rows.mjs): the forced cells as the released guide's own fill.sh prints them over the translation 2e57b6dc27243dc7… (all of the seat's roots in one cut). By AI agents, Wed Nov 11 2026. No macro, syntax, notation, axiom, sorry.
-/
import Derived.Test.YtbbipmelhmgmfaaGreatChecked
import GoSem.Claim
import GoSem.ClaimJoined
import GoSem.ClaimMapViews
import Derived.JoinedTies
import Derived.KernelRfl
namespace Go.Proofs.YtbbipmelhmgmfaaGreat
/- THE CELL 'sum', in the pinned program and in every row, IS THE sha256 OF THE DUMP (.gsa) THAT YtbbipmelhmgmfaaGreatProg.lean LOADS. Nothing in Lean hashes anything: it is a label: what it is worth is what the hold of that sum in a sandbox is worth. -/
noncomputable def Tryz.pinned : Pinned := { name := "ytbbipmelhmgmfaagreat", sum := "2e57b6dc27243dc7d17c57a3e911ecb1766157d9f4d627a5a793424391ceb3f3", checked := Tryz.checked }
namespace Rows
def none {H : Type} : Left H := { results := [], args := [] }

/-- 'cubiclelaw17.DomainMany': WHATEVER THE INPUT: true; the input reads as it did. -/
def domainManySpec : ChangeSpec := { name := "domainMany", fn := fun _ => fun
  | [d1, d2, d3] => { results := [.lit (.bool true)], args := [d1, d2, d3] }
  | _ => none }
def domainManyRow : OpenClaim := { program := "ytbbipmelhmgmfaagreat", sum := "2e57b6dc27243dc7d17c57a3e911ecb1766157d9f4d627a5a793424391ceb3f3", func := "cubicle/cubiclelaw17.DomainMany", spec := "domainMany", unfollowed := true, recurses := true, apart := false }
def DomainManySaid : Prop := domainManyRow.holds Tryz.pinned (OpenSpec.ofChange domainManySpec)

/-- ITS FALSE NEIGHBOUR: 'it returns false'. Refute it at one input. -/
def domainManyWrong : ChangeSpec := { name := "domainMany", fn := fun _ => fun
  | [d1, d2, d3] => { results := [.lit (.bool false)], args := [d1, d2, d3] }
  | _ => none }
def DomainManyWrongFalsely : Prop := domainManyRow.holds Tryz.pinned (OpenSpec.ofChange domainManyWrong)

/-- 'cubiclelaw13.CheckAlone': WHATEVER THE INPUT: true; the input reads as it did. -/
def checkAloneSpec : ChangeSpec := { name := "checkAlone", fn := fun _ => fun
  | [d1, d2, d3] => { results := [.lit (.bool true)], args := [d1, d2, d3] }
  | _ => none }
def checkAloneRow : OpenClaim := { program := "ytbbipmelhmgmfaagreat", sum := "2e57b6dc27243dc7d17c57a3e911ecb1766157d9f4d627a5a793424391ceb3f3", func := "cubicle/cubiclelaw13.CheckAlone", spec := "checkAlone", unfollowed := true, recurses := true, apart := false }
def CheckAloneSaid : Prop := checkAloneRow.holds Tryz.pinned (OpenSpec.ofChange checkAloneSpec)

/-- ITS FALSE NEIGHBOUR: 'it returns false'. Refute it at one input. -/
def checkAloneWrong : ChangeSpec := { name := "checkAlone", fn := fun _ => fun
  | [d1, d2, d3] => { results := [.lit (.bool false)], args := [d1, d2, d3] }
  | _ => none }
def CheckAloneWrongFalsely : Prop := checkAloneRow.holds Tryz.pinned (OpenSpec.ofChange checkAloneWrong)

/-- 'cubiclelaw15.ListAlone': WHATEVER THE INPUT: true; the input reads as it did. -/
def listAloneSpec : ChangeSpec := { name := "listAlone", fn := fun _ => fun
  | [d1, d2] => { results := [.lit (.bool true)], args := [d1, d2] }
  | _ => none }
def listAloneRow : OpenClaim := { program := "ytbbipmelhmgmfaagreat", sum := "2e57b6dc27243dc7d17c57a3e911ecb1766157d9f4d627a5a793424391ceb3f3", func := "cubicle/cubiclelaw15.ListAlone", spec := "listAlone", unfollowed := true, recurses := true, apart := false }
def ListAloneSaid : Prop := listAloneRow.holds Tryz.pinned (OpenSpec.ofChange listAloneSpec)

/-- ITS FALSE NEIGHBOUR: 'it returns false'. Refute it at one input. -/
def listAloneWrong : ChangeSpec := { name := "listAlone", fn := fun _ => fun
  | [d1, d2] => { results := [.lit (.bool false)], args := [d1, d2] }
  | _ => none }
def ListAloneWrongFalsely : Prop := listAloneRow.holds Tryz.pinned (OpenSpec.ofChange listAloneWrong)

/-- 'cubiclelaw16.DictCells': WHATEVER THE INPUT: true; the input reads as it did. -/
def dictCellsSpec : ChangeSpec := { name := "dictCells", fn := fun _ => fun
  | [d1, d2, d3] => { results := [.lit (.bool true)], args := [d1, d2, d3] }
  | _ => none }
def dictCellsRow : OpenClaim := { program := "ytbbipmelhmgmfaagreat", sum := "2e57b6dc27243dc7d17c57a3e911ecb1766157d9f4d627a5a793424391ceb3f3", func := "cubicle/cubiclelaw16.DictCells", spec := "dictCells", unfollowed := true, recurses := true, apart := false }
def DictCellsSaid : Prop := dictCellsRow.holds Tryz.pinned (OpenSpec.ofChange dictCellsSpec)

/-- ITS FALSE NEIGHBOUR: 'it returns false'. Refute it at one input. -/
def dictCellsWrong : ChangeSpec := { name := "dictCells", fn := fun _ => fun
  | [d1, d2, d3] => { results := [.lit (.bool false)], args := [d1, d2, d3] }
  | _ => none }
def DictCellsWrongFalsely : Prop := dictCellsRow.holds Tryz.pinned (OpenSpec.ofChange dictCellsWrong)

/-- 'cubiclelaw16.DictBuckets': WHATEVER THE INPUT: true; the input reads as it did. -/
def dictBucketsSpec : ChangeSpec := { name := "dictBuckets", fn := fun _ => fun
  | [d1, d2] => { results := [.lit (.bool true)], args := [d1, d2] }
  | _ => none }
def dictBucketsRow : OpenClaim := { program := "ytbbipmelhmgmfaagreat", sum := "2e57b6dc27243dc7d17c57a3e911ecb1766157d9f4d627a5a793424391ceb3f3", func := "cubicle/cubiclelaw16.DictBuckets", spec := "dictBuckets", unfollowed := true, recurses := true, apart := false }
def DictBucketsSaid : Prop := dictBucketsRow.holds Tryz.pinned (OpenSpec.ofChange dictBucketsSpec)

/-- ITS FALSE NEIGHBOUR: 'it returns false'. Refute it at one input. -/
def dictBucketsWrong : ChangeSpec := { name := "dictBuckets", fn := fun _ => fun
  | [d1, d2] => { results := [.lit (.bool false)], args := [d1, d2] }
  | _ => none }
def DictBucketsWrongFalsely : Prop := dictBucketsRow.holds Tryz.pinned (OpenSpec.ofChange dictBucketsWrong)

/-- 'cubiclelaw16.DictApart': WHATEVER THE INPUT: true; the input reads as it did. -/
def dictApartSpec : ChangeSpec := { name := "dictApart", fn := fun _ => fun
  | [d1, d2, d3] => { results := [.lit (.bool true)], args := [d1, d2, d3] }
  | _ => none }
def dictApartRow : OpenClaim := { program := "ytbbipmelhmgmfaagreat", sum := "2e57b6dc27243dc7d17c57a3e911ecb1766157d9f4d627a5a793424391ceb3f3", func := "cubicle/cubiclelaw16.DictApart", spec := "dictApart", unfollowed := true, recurses := true, apart := false }
def DictApartSaid : Prop := dictApartRow.holds Tryz.pinned (OpenSpec.ofChange dictApartSpec)

/-- ITS FALSE NEIGHBOUR: 'it returns false'. Refute it at one input. -/
def dictApartWrong : ChangeSpec := { name := "dictApart", fn := fun _ => fun
  | [d1, d2, d3] => { results := [.lit (.bool false)], args := [d1, d2, d3] }
  | _ => none }
def DictApartWrongFalsely : Prop := dictApartRow.holds Tryz.pinned (OpenSpec.ofChange dictApartWrong)

/-- 'cubiclelaw16.DictAlone': WHATEVER THE INPUT: true; the input reads as it did. -/
def dictAloneSpec : ChangeSpec := { name := "dictAlone", fn := fun _ => fun
  | [d1, d2] => { results := [.lit (.bool true)], args := [d1, d2] }
  | _ => none }
def dictAloneRow : OpenClaim := { program := "ytbbipmelhmgmfaagreat", sum := "2e57b6dc27243dc7d17c57a3e911ecb1766157d9f4d627a5a793424391ceb3f3", func := "cubicle/cubiclelaw16.DictAlone", spec := "dictAlone", unfollowed := true, recurses := true, apart := false }
def DictAloneSaid : Prop := dictAloneRow.holds Tryz.pinned (OpenSpec.ofChange dictAloneSpec)

/-- ITS FALSE NEIGHBOUR: 'it returns false'. Refute it at one input. -/
def dictAloneWrong : ChangeSpec := { name := "dictAlone", fn := fun _ => fun
  | [d1, d2] => { results := [.lit (.bool false)], args := [d1, d2] }
  | _ => none }
def DictAloneWrongFalsely : Prop := dictAloneRow.holds Tryz.pinned (OpenSpec.ofChange dictAloneWrong)

/-- 'cubiclelaw17.DomainOdd': WHATEVER THE INPUT: true; the input reads as it did. -/
def domainOddSpec : ChangeSpec := { name := "domainOdd", fn := fun _ => fun
  | [d1, d2] => { results := [.lit (.bool true)], args := [d1, d2] }
  | _ => none }
def domainOddRow : OpenClaim := { program := "ytbbipmelhmgmfaagreat", sum := "2e57b6dc27243dc7d17c57a3e911ecb1766157d9f4d627a5a793424391ceb3f3", func := "cubicle/cubiclelaw17.DomainOdd", spec := "domainOdd", unfollowed := true, recurses := true, apart := false }
def DomainOddSaid : Prop := domainOddRow.holds Tryz.pinned (OpenSpec.ofChange domainOddSpec)

/-- ITS FALSE NEIGHBOUR: 'it returns false'. Refute it at one input. -/
def domainOddWrong : ChangeSpec := { name := "domainOdd", fn := fun _ => fun
  | [d1, d2] => { results := [.lit (.bool false)], args := [d1, d2] }
  | _ => none }
def DomainOddWrongFalsely : Prop := domainOddRow.holds Tryz.pinned (OpenSpec.ofChange domainOddWrong)

/-- 'cubiclelaw12.AllocMany': WHATEVER THE INPUT: true; the input reads as it did. -/
def allocManySpec : ChangeSpec := { name := "allocMany", fn := fun _ => fun
  | [d1, d2, d3] => { results := [.lit (.bool true)], args := [d1, d2, d3] }
  | _ => none }
def allocManyRow : OpenClaim := { program := "ytbbipmelhmgmfaagreat", sum := "2e57b6dc27243dc7d17c57a3e911ecb1766157d9f4d627a5a793424391ceb3f3", func := "cubicle/cubiclelaw12.AllocMany", spec := "allocMany", unfollowed := true, recurses := true, apart := false }
def AllocManySaid : Prop := allocManyRow.holds Tryz.pinned (OpenSpec.ofChange allocManySpec)

/-- ITS FALSE NEIGHBOUR: 'it returns false'. Refute it at one input. -/
def allocManyWrong : ChangeSpec := { name := "allocMany", fn := fun _ => fun
  | [d1, d2, d3] => { results := [.lit (.bool false)], args := [d1, d2, d3] }
  | _ => none }
def AllocManyWrongFalsely : Prop := allocManyRow.holds Tryz.pinned (OpenSpec.ofChange allocManyWrong)

/- THE SECOND FORM. 'bulk': how many values and letters a reading holds, each counted each time it is reached (what is shared counts as often as it is met; a slice's spare places count too). A statement '..UptoSaid' is the law's where the arguments, and the package variables that the reading takes, are together of bulk at most 1048576: NARROWER than '..Said'. Prove '..Said' where nothing that the law and all that it calls make is longer than what came in: it says more and counts as full. Else prove '..UptoSaid'. A law counts once. -/
mutual
def uptoBulk {H : Type} : DataW H → Nat
  | .lit (.string bytes) => bytes.length + 1
  | .lit _ => 1
  | .nil => 1
  | .ptr d => uptoBulk d + 1
  | .slice elems spare => uptoBulkAll elems + uptoBulkAll spare + 1
  | .agg parts => uptoBulkAll parts + 1
  | .iface _ d => uptoBulk d + 1
  | .map entries => uptoBulkEntries entries + 1
  | .held _ => 1
def uptoBulkAll {H : Type} : List (DataW H) → Nat
  | [] => 0
  | d :: r => uptoBulk d + uptoBulkAll r
def uptoBulkEntries {H : Type} : List (Lit × DataW H) → Nat
  | [] => 0
  | x :: r => uptoBulkEntry x + uptoBulkEntries r
def uptoBulkEntry {H : Type} : Lit × DataW H → Nat
  | (.string bytes, d) => bytes.length + uptoBulk d + 1
  | (_, d) => uptoBulk d + 1
 end
def uptoSmall : (H : Type) → List (DataW H) → Bool := fun _ ds => decide (uptoBulkAll ds ≤ 1048576)
def OpenSpec.upto (s : _root_.Go.ChangeSpec) : _root_.Go.OpenSpec := { _root_.Go.OpenSpec.ofChange s with cond := some uptoSmall }

/-- 'cubiclelaw17.DomainMany', WHERE WHAT IT READS IS OF BULK AT MOST 1048576: true; the input reads as it did. -/
def domainManyUptoRow : OpenClaim := { program := "ytbbipmelhmgmfaagreat", sum := "2e57b6dc27243dc7d17c57a3e911ecb1766157d9f4d627a5a793424391ceb3f3", func := "cubicle/cubiclelaw17.DomainMany", spec := "domainMany", unfollowed := true, recurses := true, apart := false, narrowed := true }
def DomainManyUptoSaid : Prop := domainManyUptoRow.holds Tryz.pinned (OpenSpec.upto domainManySpec)

/-- 'cubiclelaw13.CheckAlone', WHERE WHAT IT READS IS OF BULK AT MOST 1048576: true; the input reads as it did. -/
def checkAloneUptoRow : OpenClaim := { program := "ytbbipmelhmgmfaagreat", sum := "2e57b6dc27243dc7d17c57a3e911ecb1766157d9f4d627a5a793424391ceb3f3", func := "cubicle/cubiclelaw13.CheckAlone", spec := "checkAlone", unfollowed := true, recurses := true, apart := false, narrowed := true }
def CheckAloneUptoSaid : Prop := checkAloneUptoRow.holds Tryz.pinned (OpenSpec.upto checkAloneSpec)

/-- 'cubiclelaw15.ListAlone', WHERE WHAT IT READS IS OF BULK AT MOST 1048576: true; the input reads as it did. -/
def listAloneUptoRow : OpenClaim := { program := "ytbbipmelhmgmfaagreat", sum := "2e57b6dc27243dc7d17c57a3e911ecb1766157d9f4d627a5a793424391ceb3f3", func := "cubicle/cubiclelaw15.ListAlone", spec := "listAlone", unfollowed := true, recurses := true, apart := false, narrowed := true }
def ListAloneUptoSaid : Prop := listAloneUptoRow.holds Tryz.pinned (OpenSpec.upto listAloneSpec)

/-- 'cubiclelaw16.DictCells', WHERE WHAT IT READS IS OF BULK AT MOST 1048576: true; the input reads as it did. -/
def dictCellsUptoRow : OpenClaim := { program := "ytbbipmelhmgmfaagreat", sum := "2e57b6dc27243dc7d17c57a3e911ecb1766157d9f4d627a5a793424391ceb3f3", func := "cubicle/cubiclelaw16.DictCells", spec := "dictCells", unfollowed := true, recurses := true, apart := false, narrowed := true }
def DictCellsUptoSaid : Prop := dictCellsUptoRow.holds Tryz.pinned (OpenSpec.upto dictCellsSpec)

/-- 'cubiclelaw16.DictBuckets', WHERE WHAT IT READS IS OF BULK AT MOST 1048576: true; the input reads as it did. -/
def dictBucketsUptoRow : OpenClaim := { program := "ytbbipmelhmgmfaagreat", sum := "2e57b6dc27243dc7d17c57a3e911ecb1766157d9f4d627a5a793424391ceb3f3", func := "cubicle/cubiclelaw16.DictBuckets", spec := "dictBuckets", unfollowed := true, recurses := true, apart := false, narrowed := true }
def DictBucketsUptoSaid : Prop := dictBucketsUptoRow.holds Tryz.pinned (OpenSpec.upto dictBucketsSpec)

/-- 'cubiclelaw16.DictApart', WHERE WHAT IT READS IS OF BULK AT MOST 1048576: true; the input reads as it did. -/
def dictApartUptoRow : OpenClaim := { program := "ytbbipmelhmgmfaagreat", sum := "2e57b6dc27243dc7d17c57a3e911ecb1766157d9f4d627a5a793424391ceb3f3", func := "cubicle/cubiclelaw16.DictApart", spec := "dictApart", unfollowed := true, recurses := true, apart := false, narrowed := true }
def DictApartUptoSaid : Prop := dictApartUptoRow.holds Tryz.pinned (OpenSpec.upto dictApartSpec)

/-- 'cubiclelaw16.DictAlone', WHERE WHAT IT READS IS OF BULK AT MOST 1048576: true; the input reads as it did. -/
def dictAloneUptoRow : OpenClaim := { program := "ytbbipmelhmgmfaagreat", sum := "2e57b6dc27243dc7d17c57a3e911ecb1766157d9f4d627a5a793424391ceb3f3", func := "cubicle/cubiclelaw16.DictAlone", spec := "dictAlone", unfollowed := true, recurses := true, apart := false, narrowed := true }
def DictAloneUptoSaid : Prop := dictAloneUptoRow.holds Tryz.pinned (OpenSpec.upto dictAloneSpec)

/-- 'cubiclelaw17.DomainOdd', WHERE WHAT IT READS IS OF BULK AT MOST 1048576: true; the input reads as it did. -/
def domainOddUptoRow : OpenClaim := { program := "ytbbipmelhmgmfaagreat", sum := "2e57b6dc27243dc7d17c57a3e911ecb1766157d9f4d627a5a793424391ceb3f3", func := "cubicle/cubiclelaw17.DomainOdd", spec := "domainOdd", unfollowed := true, recurses := true, apart := false, narrowed := true }
def DomainOddUptoSaid : Prop := domainOddUptoRow.holds Tryz.pinned (OpenSpec.upto domainOddSpec)

/-- 'cubiclelaw12.AllocMany', WHERE WHAT IT READS IS OF BULK AT MOST 1048576: true; the input reads as it did. -/
def allocManyUptoRow : OpenClaim := { program := "ytbbipmelhmgmfaagreat", sum := "2e57b6dc27243dc7d17c57a3e911ecb1766157d9f4d627a5a793424391ceb3f3", func := "cubicle/cubiclelaw12.AllocMany", spec := "allocMany", unfollowed := true, recurses := true, apart := false, narrowed := true }
def AllocManyUptoSaid : Prop := allocManyUptoRow.holds Tryz.pinned (OpenSpec.upto allocManySpec)

end Rows
end Go.Proofs.YtbbipmelhmgmfaaGreat

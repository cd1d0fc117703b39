/- Written by a program of ours (wip/gen2.py): more of Go's structs as Lean's. -/
import Derived.Test.YtphnnjiaiemkcaaGreatQahTypes
import Derived.Test.YtphnnjiaiemkcaaGreatQahArr
namespace Go.Proofs.YtphnnjiaiemkcaaGreat
open Go.RowKit
structure Arr3F where
  f0 : Field
  f1 : Field
  f2 : Field
  deriving DecidableEq

def arr3FC (x : Arr3F) : List Value := (fieldC x.f0) ++ (fieldC x.f1) ++ (fieldC x.f2)

end Go.Proofs.YtphnnjiaiemkcaaGreat

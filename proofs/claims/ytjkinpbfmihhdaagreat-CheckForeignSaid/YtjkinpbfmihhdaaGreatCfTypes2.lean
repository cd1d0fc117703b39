/- Written by a program of ours (wip/gen2.py): more of Go's structs as Lean's. -/
import Derived.Test.YtjkinpbfmihhdaaGreatCfTypes
import Derived.Test.YtjkinpbfmihhdaaGreatCfArr
namespace Go.Proofs.YtjkinpbfmihhdaaGreat
open Go.RowKit
structure Pick where
  o : OpR
  of_ : Int
  bit : Int
  deriving DecidableEq

structure CallL where
  kind : Int
  k : Int
  v : Int
  deriving DecidableEq

structure Arr3F where
  f0 : Field
  f1 : Field
  f2 : Field
  deriving DecidableEq

def arr3FC (x : Arr3F) : List Value := (fieldC x.f0) ++ (fieldC x.f1) ++ (fieldC x.f2)

end Go.Proofs.YtjkinpbfmihhdaaGreat

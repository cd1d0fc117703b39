/- Written by a program of ours (wip/gen2.py): more of Go's structs as Lean's. -/
import Derived.Test.YtphnnjiaiemkcaaFsTypes
import Derived.Test.YtphnnjiaiemkcaaFsRow
namespace Go.Proofs.Ytphnnjiaiemkcaa
open Go.RowKit
structure WordP where
  sort : Int
  a : Int
  b : Int
  deriving DecidableEq

structure Arr3F where
  f0 : Field
  f1 : Field
  f2 : Field
  deriving DecidableEq

structure Put where
  thread : Int
  slot : Int
  n : Int
  deriving DecidableEq

structure Move where
  step : Int
  w : Int
  deriving DecidableEq

structure Stay where
  p : Plan
  thread : Int
  slot : Int
  w : Int
  deriving DecidableEq

end Go.Proofs.Ytphnnjiaiemkcaa

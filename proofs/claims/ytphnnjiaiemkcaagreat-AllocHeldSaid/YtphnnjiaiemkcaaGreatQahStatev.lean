/- States and their words, in numbers. -/
import Derived.Test.YtphnnjiaiemkcaaGreatQahStatex
import Derived.Test.YtphnnjiaiemkcaaGreatQahFreex
namespace Go.Proofs.YtphnnjiaiemkcaaGreat
open Go.RowKit

structure SF (s : State) : Prop where
  g0 : 0 ≤ s.gen
  g1 : s.gen ≤ 1073741823
  m0 : 0 ≤ s.mode
  m1 : s.mode ≤ 3
  k0 : 0 ≤ s.kind
  k1 : s.kind ≤ 2

end Go.Proofs.YtphnnjiaiemkcaaGreat

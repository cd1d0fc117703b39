/- AllocHeld's turns, evaluated. -/
import Derived.Test.YtphnnjiaiemkcaaGreatQahAhA
namespace Go.Proofs.YtphnnjiaiemkcaaGreat
open Go.RowKit
theorem ah1 : (match ahStart 1 with | some (g, M) => ahAll g 59 M | none => false) = true := by decide +kernel

end Go.Proofs.YtphnnjiaiemkcaaGreat

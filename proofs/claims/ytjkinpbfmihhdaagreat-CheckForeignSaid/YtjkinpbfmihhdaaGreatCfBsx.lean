/- Values built of more parts. -/
import Derived.Test.YtjkinpbfmihhdaaGreatCfOps
namespace Go.Proofs.YtjkinpbfmihhdaaGreat
open Go.RowKit
theorem bs4 {x1 y1 x2 y2 x3 y3 x4 y4 : Nat × Value} {P : Program} {α : Type} {f : Array (Nat × Value) → Sem α} {w : World} {r : Result α} (h1 : x1 = y1) (h2 : x2 = y2) (h3 : x3 = y3) (h4 : x4 = y4) (h : (f [y1, y2, y3, y4].toArray).run P w = r) : (f [x1, x2, x3, x4].toArray).run P w = r := by rw [h1, h2, h3, h4]; exact h

end Go.Proofs.YtjkinpbfmihhdaaGreat

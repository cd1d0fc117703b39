/- AllocHeld's turns, evaluated. -/
import Derived.Test.YtphnnjiaiemkcaaGreatQahL12
import Derived.Test.YtphnnjiaiemkcaaGreatQahRunx
namespace Go.Proofs.YtphnnjiaiemkcaaGreat
open Go.RowKit
/-- What stands ahead of the turns. -/
def ahStart (s : Int) : Option (Grant × Mem) := (D.cubiclelaw09_Laid 1200 (⟨4, 2, 7, 0, 1, 1000⟩ : Plan)).bind fun M => (D.prog_Run_Grant 1200 (1200, (D.alloc_New (1200 + 1) (⟨4, 2, 7, 0, 1, 1000⟩ : Plan) 0 0)) M cap0 99).bind fun g => (D.prog_Run_None 1200 (1200, (D.hazard_Set (⟨4, 2, 7, 0, 1, 1000⟩ : Plan) 1 s g.1.node)) g.2.2.2 cap0 9).bind fun h => (D.prog_Run_int 1200 (1200, (D.alloc_Retire (1200 + 1) (⟨4, 2, 7, 0, 1, 1000⟩ : Plan) 0 g.1.node)) h.2.2.2 cap0 999).bind fun r => some (g.1, r.2.2.2)

/-- A turn. -/
def ahTurn (g : Grant) (M : Mem) : Option Mem := (D.prog_Run_Grant 1200 (1200, (D.alloc_New (1200 + 1) (⟨4, 2, 7, 0, 1, 1000⟩ : Plan) 0 1)) M cap0 999).bind fun x => bif (bif (x.1.e != 0) then true else (x.1.node == g.node)) then none else (D.prog_Run_int 1200 (1200, (D.alloc_Retire (1200 + 1) (⟨4, 2, 7, 0, 1, 1000⟩ : Plan) 0 x.1.node)) x.2.2.2 cap0 999).bind fun r => some r.2.2.2

/-- What stands behind them. -/
def ahEnd (g : Grant) (M : Mem) : Option Bool := (D.prog_Run_None 1200 (1200, (D.hazard_Clear (1200 + 1) (⟨4, 2, 7, 0, 1, 1000⟩ : Plan) 1)) M cap0 9).bind fun x86 => (loopThen (fun (x88 : Bool × Bool × Int × Mem) => (bif (decide (x88.2.2.1 < 4)) then ((D.prog_Run_Grant 1200 (1200, (D.alloc_New (1200 + 1) (⟨4, 2, 7, 0, 1, 1000⟩ : Plan) 0 1)) x88.2.2.2 cap0 999).bind (fun (x99 : Grant × Int × Bool × Mem) => (bif (x99.1.e != 0) then (some (Lp.ret false)) else (Option.bind (bif x88.2.1 then (some true) else (bif (x99.1.node == g.node) then (some (x99.1.gen == 1)) else (some false))) (fun (x111 : Bool) => (some (Lp.next (x88.1, x111, (IntKind.i64.wrap (x88.2.2.1 + 1)), x99.2.2.2)))))))) else (some (Lp.brk (x88.1, x88.2.1, x88.2.2.1, x88.2.2.2))))) 1200 (false, false, 0, x86.2.2.2) (fun (x114 : Bool × Bool × Int × Mem) => (some x114.2.1)))

/-- So many turns, the end looked at behind each. -/
def ahAll (g : Grant) : Nat → Mem → Bool
  | 0, M => ahEnd g M == some true
  | n + 1, M => (ahEnd g M == some true) && match ahTurn g M with
    | none => false
    | some M' => ahAll g n M'

theorem ah0 : (match ahStart 0 with | some (g, M) => ahAll g 59 M | none => false) = true := by decide +kernel

end Go.Proofs.YtphnnjiaiemkcaaGreat

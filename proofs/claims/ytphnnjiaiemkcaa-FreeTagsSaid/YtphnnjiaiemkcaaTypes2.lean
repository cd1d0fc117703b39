/- Written by a program of ours (wip/gen2.py): more of Go's structs as Lean's. -/
import Derived.Test.YtphnnjiaiemkcaaTypes
import Derived.Test.YtphnnjiaiemkcaaRow
namespace Go.Proofs.Ytphnnjiaiemkcaa
open Go.RowKit
structure WordP where
  sort : Int
  a : Int
  b : Int
  deriving DecidableEq
def wordPC (x : WordP) : List Value := [(.int .i64 x.sort), (.int .i64 x.a), (.int .i64 x.b)]
def encWordP : Enc WordP := ⟨3, wordPC, wordPC (⟨0, 0, 0⟩ : WordP), fun _ => rfl, rfl, fun _ => rfl, rfl⟩
def argWordP (x : WordP) : List Value := [.agg (wordPC x).toArray]
def wordPsC (l : List WordP) : List Value := l.flatMap wordPC
structure Put where
  thread : Int
  slot : Int
  n : Int
  deriving DecidableEq
def putC (x : Put) : List Value := [(.int .i64 x.thread), (.int .i64 x.slot), (.int .i64 x.n)]
def encPut : Enc Put := ⟨3, putC, putC (⟨0, 0, 0⟩ : Put), fun _ => rfl, rfl, fun _ => rfl, rfl⟩
def argPut (x : Put) : List Value := [.agg (putC x).toArray]
def putsC (l : List Put) : List Value := l.flatMap putC
structure Move where
  step : Int
  w : Int
  deriving DecidableEq
def moveC (x : Move) : List Value := [(.int .u8 x.step), (.int .u8 x.w)]
def encMove : Enc Move := ⟨2, moveC, moveC (⟨0, 0⟩ : Move), fun _ => rfl, rfl, fun _ => rfl, rfl⟩
def argMove (x : Move) : List Value := [.agg (moveC x).toArray]
def movesC (l : List Move) : List Value := l.flatMap moveC
structure Stay where
  p : Plan
  thread : Int
  slot : Int
  w : Int
  deriving DecidableEq
def stayC (x : Stay) : List Value := (planC x.p) ++ [(.int .i64 x.thread)] ++ [(.int .i64 x.slot)] ++ [(.int .u64 x.w)]
def encStay : Enc Stay := ⟨9, stayC, stayC (⟨(⟨0, 0, 0, 0, 0, 0⟩ : Plan), 0, 0, 0⟩ : Stay), fun _ => rfl, rfl, fun _ => rfl, rfl⟩
def argStay (x : Stay) : List Value := [.agg (stayC x).toArray]
def staysC (l : List Stay) : List Value := l.flatMap stayC
def u8E (x : Int) : List Value := [.int .u8 x]
def i8E (x : Int) : List Value := [.int .i8 x]
end Go.Proofs.Ytphnnjiaiemkcaa

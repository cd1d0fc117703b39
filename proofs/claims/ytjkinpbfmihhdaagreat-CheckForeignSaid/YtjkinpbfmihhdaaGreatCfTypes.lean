/- Written by a program of ours (wip/gen.py): Go's structs as Lean's. -/
import Derived.Test.YtjkinpbfmihhdaaGreatCfBase
import Derived.Test.YtjkinpbfmihhdaaGreatCfSh
namespace Go.Proofs.YtjkinpbfmihhdaaGreat
open Go.RowKit
structure Plan where
  nodes : Int
  threads : Int
  retire : Int
  domains : Int
  buckets : Int
  gen : Int
  deriving DecidableEq

def planC (x : Plan) : List Value := [(.int .i64 x.nodes), (.int .i64 x.threads), (.int .i64 x.retire), (.int .i64 x.domains), (.int .i64 x.buckets), (.int .i64 x.gen)]

structure Bound where
  n : Int
  least : Int
  most : Int
  deriving DecidableEq

def boundC (x : Bound) : List Value := [(.int .i64 x.n), (.int .i64 x.least), (.int .i64 x.most)]

def boundsC (l : List Bound) : List Value := l.flatMap boundC

structure Access where
  op : Int
  at_ : Int
  a : Int
  b : Int
  deriving DecidableEq

def accessC (x : Access) : List Value := [(.int .i64 x.op), (.int .i64 x.at_), (.int .u64 x.a), (.int .u64 x.b)]

structure Cap where
  region : Int
  epoch : Int
  deriving DecidableEq

def capC (x : Cap) : List Value := [(.int .i64 x.region), (.int .u64 x.epoch)]

structure Field where
  at_ : Int
  bits : Int
  deriving DecidableEq

def fieldC (x : Field) : List Value := [(.int .i64 x.at_), (.int .i64 x.bits)]

structure State where
  gen : Int
  mode : Int
  kind : Int
  deriving DecidableEq

def stateC (x : State) : List Value := [(.int .i64 x.gen), (.int .i64 x.mode), (.int .i64 x.kind)]

structure Handle where
  index : Int
  gen : Int
  tenant : Int
  deriving DecidableEq

def handleC (x : Handle) : List Value := [(.int .i64 x.index), (.int .i64 x.gen), (.int .i64 x.tenant)]

structure Grant where
  node : Int
  gen : Int
  e : Int
  deriving DecidableEq

def grantC (x : Grant) : List Value := [(.int .i64 x.node), (.int .i64 x.gen), (.int .i64 x.e)]

def encGrant : Enc Grant := ⟨3, grantC, grantC (⟨0, 0, 0⟩ : Grant), fun _ => rfl, rfl, fun _ => rfl, rfl⟩

def argGrant (x : Grant) : List Value := [.agg (grantC x).toArray]

structure Res where
  e : Int
  v : Int
  deriving DecidableEq

def resC (x : Res) : List Value := [(.int .i64 x.e), (.int .u64 x.v)]

def encRes : Enc Res := ⟨2, resC, resC (⟨0, 0⟩ : Res), fun _ => rfl, rfl, fun _ => rfl, rfl⟩

def argRes (x : Res) : List Value := [.agg (resC x).toArray]

structure OpR where
  code : Int
  d : Int
  f : Int
  h : Int
  a : Int
  b : Int
  deriving DecidableEq

def opRC (x : OpR) : List Value := [(.int .i64 x.code), (.int .i64 x.d), (.int .i64 x.f), (.int .u64 x.h), (.int .u64 x.a), (.int .u64 x.b)]

structure Scan where
  at_ : Int
  left : Int
  done : Int
  deriving DecidableEq

def scanC (x : Scan) : List Value := [(.int .i64 x.at_), (.int .i64 x.left), (.int .i64 x.done)]

structure Seat where
  p : Plan
  tenant : Int
  thread : Int
  deriving DecidableEq

def seatC (x : Seat) : List Value := (planC x.p) ++ [(.int .i64 x.tenant)] ++ [(.int .i64 x.thread)]

structure Where where
  seat : Seat
  head : Int
  tail : Int
  deriving DecidableEq

structure Walk where
  seat : Seat
  cell : Int
  k : Int
  place : Int
  cur : Int
  next : Int
  there : Bool
  deriving DecidableEq

def maxI (m n : Int) : Int := if n > m then n else m

def minI (m n : Int) : Int := if n < m then n else m

def shrI (k : IntKind) (x y : Int) : Int := x.fdiv (2 ^ (min y.toNat k.bits))

def shlI (k : IntKind) (x y : Int) : Int := k.wrap (x * 2 ^ (min y.toNat k.bits))

def bits_and (k : IntKind) (x y : Int) : Int := k.wrap ((BitVec.ofInt k.bits x &&& BitVec.ofInt k.bits y).toNat)

def bits_or (k : IntKind) (x y : Int) : Int := k.wrap ((BitVec.ofInt k.bits x ||| BitVec.ofInt k.bits y).toNat)

def bits_andNot (k : IntKind) (x y : Int) : Int := k.wrap ((BitVec.ofInt k.bits x &&& ~~~(BitVec.ofInt k.bits y)).toNat)

theorem bin_shl {P : Program} {k k' : IntKind} {t : TypeId} {x y : Int} {w : World} (hy : 0 ≤ y) : (binOp .shl t (.int k x) (.int k' y)).run P w = .ok (.int k (shlI k x y)) w := by
  have h : ¬ y < 0 := by omega
  simp only [binOp, Op.shift, if_neg h]
  rfl

theorem bin_shr {P : Program} {k k' : IntKind} {t : TypeId} {x y : Int} {w : World} (hy : 0 ≤ y) : (binOp .shr t (.int k x) (.int k' y)).run P w = .ok (.int k (shrI k x y)) w := by
  have h : ¬ y < 0 := by omega
  simp only [binOp, Op.shift, if_neg h]
  rfl

end Go.Proofs.YtjkinpbfmihhdaaGreat

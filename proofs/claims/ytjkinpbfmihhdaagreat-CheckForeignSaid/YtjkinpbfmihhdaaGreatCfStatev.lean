/- States and their words, in numbers. -/
import Derived.Test.YtjkinpbfmihhdaaGreatCfStatex
import Derived.Test.YtjkinpbfmihhdaaGreatCfFreex
namespace Go.Proofs.YtjkinpbfmihhdaaGreat
open Go.RowKit

structure SF (s : State) : Prop where
  g0 : 0 ≤ s.gen
  g1 : s.gen ≤ 1073741823
  m0 : 0 ≤ s.mode
  m1 : s.mode ≤ 3
  k0 : 0 ≤ s.kind
  k1 : s.kind ≤ 2

theorem shrN {w : Int} (k : Nat) (hk : k ≤ 64) : shrI .u64 w k = w / 2 ^ k := by
  unfold shrI
  rw [Int.toNat_natCast, show min k IntKind.u64.bits = k from Nat.min_eq_left hk]
  exact Int.fdiv_eq_ediv_of_nonneg _ (Int.le_of_lt (Int.pow_pos (by omega)))

theorem and_low {x : Int} (h0 : 0 ≤ x) (h1 : x < 18446744073709551616) (k : Nat) (hk : k < 64) : bits_and .u64 x ((2 ^ k - 1 : Nat) : Int) = x % ((2 ^ k : Nat) : Int) := by
  have hp : (2 : Nat) ^ k < 2 ^ 64 := Nat.pow_lt_pow_right (by omega) hk
  have hp1 : 0 < (2 : Nat) ^ k := Nat.pow_pos (by omega)
  rw [and_eq h0 h1 (by omega) (by omega), Int.toNat_natCast, Nat.and_two_pow_sub_one_eq_mod]
  obtain ⟨y, rfl⟩ : ∃ y : Nat, x = (y : Int) := ⟨x.toNat, by omega⟩
  rw [Int.toNat_natCast]
  exact Int.natCast_emod _ _

end Go.Proofs.YtjkinpbfmihhdaaGreat

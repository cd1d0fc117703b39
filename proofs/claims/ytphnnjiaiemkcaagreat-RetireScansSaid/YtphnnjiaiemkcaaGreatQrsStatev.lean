/- States and their words, in numbers. -/
import Derived.Test.YtphnnjiaiemkcaaGreatQrsStatex
import Derived.Test.YtphnnjiaiemkcaaGreatQrsFreex
namespace Go.Proofs.YtphnnjiaiemkcaaGreat
open Go.RowKit

structure SF (s : State) : Prop where
  g0 : 0 ≤ s.gen
  g1 : s.gen ≤ 1073741823
  m0 : 0 ≤ s.mode
  m1 : s.mode ≤ 3
  k0 : 0 ≤ s.kind
  k1 : s.kind ≤ 2

theorem state_formed {s : State} : D.state_State_Formed s = true ↔ SF s := by
  unfold D.state_State_Formed
  constructor
  · intro h
    cases h1 : decide (s.gen ≥ 0) <;> rw [h1] at h
    · cases h
    cases h2 : decide (s.gen ≤ 1073741823) <;> rw [h2] at h
    · cases h
    cases h3 : decide (s.mode ≥ 0) <;> rw [h3] at h
    · cases h
    cases h4 : decide (s.mode ≤ 3) <;> rw [h4] at h
    · cases h
    cases h5 : decide (s.kind ≥ 0) <;> rw [h5] at h
    · cases h
    simp only [decide_eq_true_eq] at h1 h2 h3 h4 h5
    have h6 : s.kind ≤ 2 := by simpa using h
    exact ⟨h1, h2, h3, h4, h5, h6⟩
  · rintro ⟨h1, h2, h3, h4, h5, h6⟩
    simp only [ge_iff_le, h1, h2, h3, h4, h5, h6, decide_true, cond_true]

def swd (s : State) : Int := s.gen + s.mode * 1073741824 + s.kind * 4294967296

theorem f_gen : D.field_Field_Formed fGen = true := by decide

theorem f_mode : D.field_Field_Formed fMode = true := by decide

theorem f_kind : D.field_Field_Formed fKind = true := by decide

theorem m_gen : D.field_Field_Most fGen = 1073741823 := by decide +kernel

theorem m_mode : D.field_Field_Most fMode = 3 := by decide +kernel

theorem m_kind : D.field_Field_Most fKind = 3 := by decide +kernel

theorem k_gen : D.field_Field_mask fGen = 1073741823 := by decide +kernel

theorem k_mode : D.field_Field_mask fMode = 3221225472 := by decide +kernel

theorem k_kind : D.field_Field_mask fKind = 12884901888 := by decide +kernel

theorem shrN {w : Int} (k : Nat) (hk : k ≤ 64) : shrI .u64 w k = w / 2 ^ k := by
  unfold shrI
  rw [Int.toNat_natCast, show min k IntKind.u64.bits = k from Nat.min_eq_left hk]
  exact Int.fdiv_eq_ediv_of_nonneg _ (Int.le_of_lt (Int.pow_pos (by omega)))

theorem and_low {x : Int} (h0 : 0 ≤ x) (h1 : x < 18446744073709551616) (k : Nat) (hk : k < 64) : bits_and .u64 x ((2 ^ k - 1 : Nat) : Int) = x % ((2 ^ k : Nat) : Int) := by
  have hp : (2 : Nat) ^ k < 2 ^ 64 := Nat.pow_lt_pow_right (by omega) hk
  have hp1 : 0 < (2 : Nat) ^ k := Nat.pow_pos (by omega)
  rw [and_eq h0 h1 (by omega) (by omega), Int.toNat_natCast, Nat.and_two_pow_sub_one_eq_mod]
  obtain ⟨y, rfl⟩ : ∃ y : Nat, x = (y : Int) := ⟨x.toNat, by omega⟩
  rw [Int.toNat_natCast]
  exact Int.natCast_emod _ _

/-- A number put above what stands there already. -/
theorem put_at {u v : Int} (a b : Nat) (hu0 : 0 ≤ u) (hu : u < ((2 ^ a : Nat) : Int)) (hv0 : 0 ≤ v) (hv : v < ((2 ^ b : Nat) : Int)) (hab : a + b < 64) (hF : D.field_Field_Formed ⟨a, b⟩ = true) (hM : D.field_Field_Most ⟨a, b⟩ = ((2 ^ b - 1 : Nat) : Int)) (hK : D.field_Field_mask ⟨a, b⟩ = (((2 ^ b - 1) * 2 ^ a : Nat) : Int)) :
    D.field_Field_Put ⟨a, b⟩ u v = v * ((2 ^ a : Nat) : Int) + u := by
  have pa : 0 < (2 : Nat) ^ a := Nat.pow_pos (by omega)
  have pb : 0 < (2 : Nat) ^ b := Nat.pow_pos (by omega)
  have hpab : (2 : Nat) ^ a * 2 ^ b = 2 ^ (a + b) := (Nat.pow_add 2 a b).symm
  have hlt : (2 : Nat) ^ (a + b) < 2 ^ 64 := Nat.pow_lt_pow_right (by omega) hab
  have hlt2 : (2 : Nat) ^ b ≤ 2 ^ (a + b) := Nat.pow_le_pow_right (by omega) (by omega)
  have hlt3 : (2 : Nat) ^ a ≤ 2 ^ (a + b) := Nat.pow_le_pow_right (by omega) (by omega)
  unfold D.field_Field_Put
  rw [hF, hM, hK]
  show bits_or .u64 (bits_andNot .u64 u _) (shlI .u64 (bits_and .u64 v _) (a : Int)) = _
  have hmk : (2 ^ b - 1) * 2 ^ a ≤ 2 ^ (a + b) := by
    rw [← hpab, Nat.mul_comm]
    exact Nat.mul_le_mul_left _ (by omega)
  rw [and_low hv0 (by omega) b (by omega), Int.emod_eq_of_lt hv0 hv, andNot_eq hu0 (by omega) (by omega) (by omega)]
  obtain ⟨x, rfl⟩ : ∃ x : Nat, u = (x : Int) := ⟨u.toNat, by omega⟩
  obtain ⟨y, rfl⟩ : ∃ y : Nat, v = (y : Int) := ⟨v.toNat, by omega⟩
  have hx : x < 2 ^ a := by omega
  have hy : y < 2 ^ b := by omega
  have hyx : y * 2 ^ a + x < 2 ^ (a + b) := by
    rw [← hpab]
    have := Nat.mul_le_mul_left (2 ^ a) (show y + 1 ≤ 2 ^ b from hy)
    rw [Nat.mul_add, Nat.mul_comm] at this
    omega
  have h1 : x &&& (18446744073709551615 - (2 ^ b - 1) * 2 ^ a) = x := by
    apply Nat.eq_of_testBit_eq
    intro i
    rw [Nat.testBit_and]
    by_cases hi : i < a
    · have : (18446744073709551615 - (2 ^ b - 1) * 2 ^ a).testBit i = true := by
        rw [show (18446744073709551615 : Nat) - (2 ^ b - 1) * 2 ^ a = 2 ^ 64 - ((2 ^ b - 1) * 2 ^ a + 1) from by omega, Nat.testBit_two_pow_sub_succ (by omega)]
        rw [Nat.testBit_mul_two_pow]
        simp [show i < 64 from by omega, show ¬ a ≤ i from by omega]
      rw [this, Bool.and_true]
    · rw [Nat.testBit_lt_two_pow (Nat.lt_of_lt_of_le hx (Nat.pow_le_pow_right (by omega) (by omega))), Bool.false_and]
  have h2 : shlI .u64 (y : Int) (a : Int) = ((y * 2 ^ a : Nat) : Int) := by
    unfold shlI
    rw [Int.toNat_natCast, show min a IntKind.u64.bits = a from Nat.min_eq_left (show a ≤ 64 by omega)]
    rw [show (y : Int) * 2 ^ a = ((y * 2 ^ a : Nat) : Int) from by push_cast; rfl]
    exact wrapu_id (by omega) (by omega)
  rw [Int.toNat_natCast, Int.toNat_natCast, h1, h2, or_eq (by omega) (by omega) (by omega) (by omega), Int.toNat_natCast, Int.toNat_natCast]
  have h5 : x ||| y * 2 ^ a = 2 ^ a * y + x := by
    rw [Nat.or_comm, Nat.mul_comm]
    exact (Nat.two_pow_add_eq_or_of_lt hx _).symm
  rw [h5, Nat.mul_comm]
  push_cast
  rfl

theorem word_val {s : State} (h : SF s) : D.state_State_Word s = swd s := by
  obtain ⟨g0, g1, m0, m1, k0, k1⟩ := h
  have hw : St.D.state_State_Word 10 s = some (swd s) := by
    unfold St.D.state_State_Word
    rw [state_formed.2 ⟨g0, g1, m0, m1, k0, k1⟩]
    show (((St.D.field_Pack 10 [fGen, fMode, fKind] [IntKind.u64.wrap s.gen, IntKind.u64.wrap s.mode, IntKind.u64.wrap s.kind]).bind (fun (x17 : Int × Int) => (some x17.1)))) = _
    rw [pack_lay, wrapu_id g0 (by omega), wrapu_id m0 (by omega), wrapu_id k0 (by omega), m_gen, m_mode, m_kind, show decide (s.gen > 1073741823) = false from by simp; omega, show decide (s.mode > 3) = false from by simp; omega, show decide (s.kind > 3) = false from by simp; omega]
    simp only [cond_false, Option.bind_some]
    rw [show D.field_Field_Put fGen 0 s.gen = s.gen * ((2 ^ 0 : Nat) : Int) + 0 from put_at 0 30 (by omega) (by decide) g0 (by omega) (by omega) f_gen m_gen k_gen]
    rw [show D.field_Field_Put fMode (s.gen * ((2 ^ 0 : Nat) : Int) + 0) s.mode = s.mode * ((2 ^ 30 : Nat) : Int) + (s.gen * ((2 ^ 0 : Nat) : Int) + 0) from put_at 30 2 (by omega) (by omega) m0 (by omega) (by omega) f_mode m_mode k_mode]
    rw [show D.field_Field_Put fKind (s.mode * ((2 ^ 30 : Nat) : Int) + (s.gen * ((2 ^ 0 : Nat) : Int) + 0)) s.kind = s.kind * ((2 ^ 32 : Nat) : Int) + (s.mode * ((2 ^ 30 : Nat) : Int) + (s.gen * ((2 ^ 0 : Nat) : Int) + 0)) from put_at 32 2 (by omega) (by omega) k0 (by omega) (by omega) f_kind m_kind k_kind]
    congr 1
    unfold swd
    omega
  unfold D.state_State_Word
  rw [hw]; rfl

theorem rest_zero {w : Int} (h0 : 0 ≤ w) (h1 : w < 17179869184) : bits_andNot .u64 (bits_andNot .u64 (bits_andNot .u64 w (D.field_Field_mask fGen)) (D.field_Field_mask fMode)) (D.field_Field_mask fKind) = 0 := by
  rw [k_gen, k_mode, k_kind]
  have l1 : w.toNat &&& (18446744073709551615 - (1073741823 : Int).toNat) ≤ w.toNat := Nat.and_le_left
  have l2 : (w.toNat &&& (18446744073709551615 - (1073741823 : Int).toNat)) &&& (18446744073709551615 - (3221225472 : Int).toNat) ≤ w.toNat &&& (18446744073709551615 - (1073741823 : Int).toNat) := Nat.and_le_left
  have e1 : bits_andNot .u64 w 1073741823 = _ := andNot_eq h0 (by omega) (by omega) (by omega)
  have e2 := andNot_eq (x := ((w.toNat &&& (18446744073709551615 - (1073741823 : Int).toNat) : Nat) : Int)) (y := 3221225472) (by omega) (by omega) (by omega) (by omega)
  rw [Int.toNat_natCast] at e2
  rw [e1, e2, andNot_eq (by omega) (by omega) (by omega) (by omega), Int.toNat_natCast]
  rw [Nat.and_assoc, Nat.and_assoc]
  have hK : (18446744073709551615 - (1073741823 : Int).toNat) &&& ((18446744073709551615 - (3221225472 : Int).toNat) &&& (18446744073709551615 - (12884901888 : Int).toNat)) = 1073741823 * 2 ^ 34 := by decide +kernel
  rw [hK]
  have : w.toNat &&& 1073741823 * 2 ^ 34 = 0 := by
    apply Nat.eq_of_testBit_eq
    intro i
    rw [Nat.testBit_and, Nat.zero_testBit]
    by_cases hi : i < 34
    · rw [Nat.testBit_mul_two_pow]
      simp [show ¬ 34 ≤ i from by omega]
    · rw [Nat.testBit_lt_two_pow (Nat.lt_of_lt_of_le (show w.toNat < 2 ^ 34 by omega) (Nat.pow_le_pow_right (by omega) (by omega))), Bool.false_and]
  rw [this]; rfl

theorem of_word {s : State} (h : SF s) : D.state_Of (D.state_State_Word s) = (s, true) := by
  rw [word_val h]
  have hs := h
  obtain ⟨g0, g1, m0, m1, k0, k1⟩ := h
  have w0 : 0 ≤ swd s := by unfold swd; omega
  have w1 : swd s < 17179869184 := by unfold swd; omega
  have e1 : D.field_Field_Get fGen (swd s) = s.gen := by
    unfold D.field_Field_Get
    rw [f_gen, m_gen, show fGen.at_ = ((0 : Nat) : Int) from rfl, show (1073741823 : Int) = ((2 ^ 30 - 1 : Nat) : Int) from by decide]
    simp only [Bool.not_true, cond_false]
    rw [shrN 0 (by omega), and_low (by omega) (by omega) 30 (by omega)]
    unfold swd
    omega
  have e2 : D.field_Field_Get fMode (swd s) = s.mode := by
    unfold D.field_Field_Get
    rw [f_mode, m_mode, show fMode.at_ = ((30 : Nat) : Int) from rfl, show (3 : Int) = ((2 ^ 2 - 1 : Nat) : Int) from by decide]
    simp only [Bool.not_true, cond_false]
    rw [shrN 30 (by omega), and_low (by omega) (by omega) 2 (by omega)]
    unfold swd
    omega
  have e3 : D.field_Field_Get fKind (swd s) = s.kind := by
    unfold D.field_Field_Get
    rw [f_kind, m_kind, show fKind.at_ = ((32 : Nat) : Int) from rfl, show (3 : Int) = ((2 ^ 2 - 1 : Nat) : Int) from by decide]
    simp only [Bool.not_true, cond_false]
    rw [shrN 32 (by omega), and_low (by omega) (by omega) 2 (by omega)]
    unfold swd
    omega
  have hw : St.D.state_Of 10 (swd s) = some (s, true) := by
    unfold St.D.state_Of
    show (St.D.field_Split 10 [fGen, fMode, fKind] (swd s)).bind _ = _
    rw [split_lay, rest_zero w0 w1, e1, e2, e3]
    show (bif (!(D.state_State_Formed (⟨(IntKind.i64.wrap s.gen), (IntKind.i64.wrap s.mode), (IntKind.i64.wrap s.kind)⟩ : State))) then _ else _) = _
    rw [wrap_id (x := s.gen) (by omega) (by omega), wrap_id (x := s.mode) (by omega) (by omega), wrap_id (x := s.kind) (by omega) (by omega), state_formed.2 hs]
    rfl
  unfold D.state_Of
  rw [hw]; rfl

end Go.Proofs.YtphnnjiaiemkcaaGreat

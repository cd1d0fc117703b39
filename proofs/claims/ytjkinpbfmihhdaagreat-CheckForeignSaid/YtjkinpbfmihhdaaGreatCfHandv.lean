/- Handles and their words, in numbers. -/
import Derived.Test.YtjkinpbfmihhdaaGreatCfHandx
import Derived.Test.YtjkinpbfmihhdaaGreatCfStatev
import Derived.Test.YtjkinpbfmihhdaaGreatCfL13
namespace Go.Proofs.YtjkinpbfmihhdaaGreat
open Go.RowKit

def U64 (w : Int) : Prop := 0 ≤ w ∧ w < 18446744073709551616

theorem f_hI : D.field_Field_Formed hIdx = true := by decide

theorem f_hG : D.field_Field_Formed hGen = true := by decide

theorem f_hT : D.field_Field_Formed hTen = true := by decide

theorem f_hS : D.field_Field_Formed hSeal = true := by decide

theorem m_hI : D.field_Field_Most hIdx = 1048575 := by decide +kernel

theorem m_hG : D.field_Field_Most hGen = 1073741823 := by decide +kernel

theorem m_hT : D.field_Field_Most hTen = 63 := by decide +kernel

theorem m_hS : D.field_Field_Most hSeal = 63 := by decide +kernel

theorem k_hI : D.field_Field_mask hIdx = 1048575 := by decide +kernel

theorem k_hG : D.field_Field_mask hGen = 1125899905794048 := by decide +kernel

theorem k_hT : D.field_Field_mask hTen = 70931694131085312 := by decide +kernel

theorem k_hS : D.field_Field_mask hSeal = 18158513697557839872 := by decide +kernel

theorem get_low {w : Int} (hw : U64 w) (a b : Nat) (ha : a < 64) (hb : b < 64) (hF : D.field_Field_Formed ⟨a, b⟩ = true) (hM : D.field_Field_Most ⟨a, b⟩ = ((2 ^ b - 1 : Nat) : Int)) :
    D.field_Field_Get ⟨a, b⟩ w = w / ((2 ^ a : Nat) : Int) % ((2 ^ b : Nat) : Int) := by
  obtain ⟨h0, h1⟩ := hw
  unfold D.field_Field_Get
  rw [hF, hM]
  simp only [Bool.not_true, cond_false]
  have hp : (0 : Int) < ((2 ^ a : Nat) : Int) := by have := Nat.pow_pos (n := a) (show 0 < 2 by omega); omega
  have e : shrI .u64 w (a : Int) = w / ((2 ^ a : Nat) : Int) := by rw [shrN a (by omega)]; norm_cast
  have hd : w / ((2 ^ a : Nat) : Int) ≤ w := Int.ediv_le_self _ h0
  have hd0 : 0 ≤ w / ((2 ^ a : Nat) : Int) := Int.ediv_nonneg h0 (by omega)
  show bits_and .u64 (shrI .u64 w (a : Int)) _ = _
  rw [e, and_low hd0 (by omega) b hb]

theorem get_hI {w : Int} (hw : U64 w) : D.field_Field_Get hIdx w = w % 1048576 := by
  have := get_low hw 0 20 (by omega) (by omega) f_hI m_hI
  rw [show ((2 ^ 0 : Nat) : Int) = 1 from rfl, Int.ediv_one] at this
  exact this

theorem get_hG {w : Int} (hw : U64 w) : D.field_Field_Get hGen w = w / 1048576 % 1073741824 := get_low hw 20 30 (by omega) (by omega) f_hG m_hG

theorem get_hT {w : Int} (hw : U64 w) : D.field_Field_Get hTen w = w / 1125899906842624 % 64 := get_low hw 50 6 (by omega) (by omega) f_hT m_hT

theorem get_hS {w : Int} (hw : U64 w) : D.field_Field_Get hSeal w = w / 288230376151711744 := by
  have := get_low hw 58 6 (by omega) (by omega) f_hS m_hS
  have h2 : D.field_Field_Get hSeal w = w / 288230376151711744 % 64 := this
  have := hw.1
  have := hw.2
  omega

/-- What no field takes. -/
theorem hrest {w : Int} (hw : U64 w) : bits_andNot .u64 (bits_andNot .u64 (bits_andNot .u64 (bits_andNot .u64 w (D.field_Field_mask hIdx)) (D.field_Field_mask hGen)) (D.field_Field_mask hTen)) (D.field_Field_mask hSeal) = w / 72057594037927936 % 4 * 72057594037927936 := by
  obtain ⟨h0, h1⟩ := hw
  rw [k_hI, k_hG, k_hT, k_hS]
  have hx : ∀ {x : Nat} {y : Int}, x ≤ w.toNat → 0 ≤ y → y < 18446744073709551616 → bits_andNot .u64 (x : Int) y = ((x &&& (18446744073709551615 - y.toNat) : Nat) : Int) := fun {x y} hx hy0 hy1 => by
    have := andNot_eq (x := (x : Int)) (y := y) (by omega) (by omega) hy0 hy1
    rw [Int.toNat_natCast] at this
    exact this
  obtain ⟨v, rfl⟩ : ∃ v : Nat, w = (v : Int) := ⟨w.toNat, by omega⟩
  have l1 : v &&& (18446744073709551615 - (1048575 : Int).toNat) ≤ v := Nat.and_le_left
  have l2 : (v &&& (18446744073709551615 - (1048575 : Int).toNat)) &&& (18446744073709551615 - (1125899905794048 : Int).toNat) ≤ v := Nat.le_trans Nat.and_le_left l1
  have l3 : ((v &&& (18446744073709551615 - (1048575 : Int).toNat)) &&& (18446744073709551615 - (1125899905794048 : Int).toNat)) &&& (18446744073709551615 - (70931694131085312 : Int).toNat) ≤ v := Nat.le_trans Nat.and_le_left l2
  rw [hx (by omega) (by omega) (by omega), hx (by omega) (by omega) (by omega), hx (by omega) (by omega) (by omega), hx (by omega) (by omega) (by omega)]
  rw [Nat.and_assoc, Nat.and_assoc, Nat.and_assoc]
  have hK : (18446744073709551615 - (1048575 : Int).toNat) &&& ((18446744073709551615 - (1125899905794048 : Int).toNat) &&& ((18446744073709551615 - (70931694131085312 : Int).toNat) &&& (18446744073709551615 - (18158513697557839872 : Int).toNat))) = 3 * 2 ^ 56 := by decide +kernel
  rw [hK]
  have : v &&& 3 * 2 ^ 56 = v / 2 ^ 56 % 4 * 2 ^ 56 := by
    apply Nat.eq_of_testBit_eq
    intro i
    rw [Nat.testBit_and, Nat.testBit_mul_two_pow, Nat.testBit_mul_two_pow, show (4 : Nat) = 2 ^ 2 from rfl, Nat.testBit_mod_two_pow, Nat.testBit_div_two_pow]
    by_cases hi : 56 ≤ i
    · rw [show i - 56 + 56 = i by omega]
      have h3 : Nat.testBit 3 (i - 56) = decide (i - 56 < 2) := by
        rw [show (3 : Nat) = 2 ^ 2 - 1 from rfl, Nat.testBit_two_pow_sub_one]
      rw [h3]
      simp [hi, Bool.and_comm]
    · simp [hi]
  rw [this]
  show ((v / 72057594037927936 % 4 * 72057594037927936 : Nat) : Int) = _
  omega

/-- A word's handle, told in numbers. -/
def hof (w : Int) : Handle × Bool := if w / 72057594037927936 % 4 = 0 ∧ w / 288230376151711744 = 42 then (⟨w % 1048576, w / 1048576 % 1073741824, w / 1125899906842624 % 64⟩, true) else (⟨0, 0, 0⟩, false)

theorem hof_eq {w : Int} (hw : U64 w) : D.handle_Of w = hof w := by
  have h : St.D.handle_Of 10 w = some (hof w) := by
    unfold St.D.handle_Of
    show (St.D.field_Split 10 [hIdx, hGen, hTen, hSeal] w).bind _ = _
    rw [hsplit, hrest hw, get_hI hw, get_hG hw, get_hT hw, get_hS hw]
    unfold hof
    by_cases h1 : w / 72057594037927936 % 4 = 0
    · rw [h1, show (((0 : Int) * 72057594037927936 != 0) = false) from rfl]
      show (bif (w / 288230376151711744 != 42) then some ((⟨0, 0, 0⟩ : Handle), false) else some ((⟨IntKind.i64.wrap (w % 1048576), IntKind.i64.wrap (w / 1048576 % 1073741824), IntKind.i64.wrap (w / 1125899906842624 % 64)⟩ : Handle), true)) = _
      rw [wrap_id (by omega) (by omega), wrap_id (by omega) (by omega), wrap_id (by omega) (by omega)]
      by_cases h2 : w / 288230376151711744 = 42
      · rw [h2, if_pos ⟨rfl, rfl⟩]; rfl
      · rw [if_neg (fun h => h2 h.2), show (w / 288230376151711744 != 42) = true from by simpa using h2]; rfl
    · rw [if_neg (fun h => h1 h.1), show (w / 72057594037927936 % 4 * 72057594037927936 != 0) = true from by simp; omega]
      rfl
  unfold D.handle_Of
  rw [h]; rfl

theorem ref08_of {w : Int} (hw : U64 w) : D.cubicleref08_Of w = hof w := by
  obtain ⟨h0, h1⟩ := hw
  unfold D.cubicleref08_Of
  have e20 : shrI .u64 w 20 = w / 1048576 := shrN (w := w) 20 (by omega)
  have e50 : shrI .u64 w 50 = w / 1125899906842624 := shrN (w := w) 50 (by omega)
  rw [e20, e50, Int.tmod_eq_emod_of_nonneg h0, Int.tmod_eq_emod_of_nonneg (by omega), Int.tmod_eq_emod_of_nonneg (by omega), wrap_id (by omega) (by omega), wrap_id (by omega) (by omega), wrap_id (by omega) (by omega)]
  have hF : D.cubicleref08_Formed ⟨w % 1048576, w / 1048576 % 1073741824, w / 1125899906842624 % 64⟩ = true := by
    unfold D.cubicleref08_Formed
    rw [show decide (w % 1048576 ≥ 0) = true from by simp; omega, show decide (w % 1048576 < 1048576) = true from by simp; omega, show decide (w / 1048576 % 1073741824 ≥ 0) = true from by simp; omega, show decide (w / 1048576 % 1073741824 < 1073741824) = true from by simp; omega,
      show decide (w / 1125899906842624 % 64 ≥ 0) = true from by simp; omega, show decide (w / 1125899906842624 % 64 < 64) = true from by simp; omega]
    rfl
  have hW : D.cubicleref08_Word ⟨w % 1048576, w / 1048576 % 1073741824, w / 1125899906842624 % 64⟩ = w % 1048576 + w / 1048576 % 1073741824 * 1048576 + w / 1125899906842624 % 64 * 1125899906842624 + 12105675798371893248 := by
    unfold D.cubicleref08_Word
    rw [hF]
    have s20 : ∀ x : Int, 0 ≤ x → x < 1073741824 → shlI .u64 x 20 = x * 1048576 := fun x x0 x1 => by
      show IntKind.u64.wrap (x * 1048576) = _
      exact wrapu_id (by omega) (by omega)
    have s50 : ∀ x : Int, 0 ≤ x → x < 64 → shlI .u64 x 50 = x * 1125899906842624 := fun x x0 x1 => by
      show IntKind.u64.wrap (x * 1125899906842624) = _
      exact wrapu_id (by omega) (by omega)
    simp only [Bool.not_true, cond_false]
    rw [wrapu_id (x := w % 1048576) (by omega) (by omega), wrapu_id (x := w / 1048576 % 1073741824) (by omega) (by omega), wrapu_id (x := w / 1125899906842624 % 64) (by omega) (by omega), s20 _ (by omega) (by omega), s50 _ (by omega) (by omega),
      wrapu_id (x := w % 1048576 + w / 1048576 % 1073741824 * 1048576) (by omega) (by omega), wrapu_id (x := w % 1048576 + w / 1048576 % 1073741824 * 1048576 + w / 1125899906842624 % 64 * 1125899906842624) (by omega) (by omega), wrapu_id (by omega) (by omega)]
  rw [hW]
  unfold hof
  by_cases h : w / 72057594037927936 % 4 = 0 ∧ w / 288230376151711744 = 42
  · rw [if_pos h, show (w % 1048576 + w / 1048576 % 1073741824 * 1048576 + w / 1125899906842624 % 64 * 1125899906842624 + 12105675798371893248 != w) = false from by simp; omega]
    rfl
  · rw [if_neg h, show (w % 1048576 + w / 1048576 % 1073741824 * 1048576 + w / 1125899906842624 % 64 * 1125899906842624 + 12105675798371893248 != w) = true from by simp; omega]
    rfl

theorem mine_eq {w : Int} (hw : U64 w) (t n : Int) : D.handle_Mine w t n = D.cubicleref08_Mine w t n := by
  unfold D.handle_Mine D.cubicleref08_Mine
  rw [hof_eq hw, ref08_of hw]

/-- A handle that is formed. -/
structure HF (h : Handle) : Prop where
  i0 : 0 ≤ h.index
  i1 : h.index < 1048576
  g0 : 0 ≤ h.gen
  g1 : h.gen ≤ 1073741823
  t0 : 0 ≤ h.tenant
  t1 : h.tenant < 64

end Go.Proofs.YtjkinpbfmihhdaaGreat

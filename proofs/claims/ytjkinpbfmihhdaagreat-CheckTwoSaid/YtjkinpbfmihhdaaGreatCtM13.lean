/- Some of our texts, one behind the other. -/
import Derived.Test.YtjkinpbfmihhdaaGreatCtM12
import Derived.Test.YtjkinpbfmihhdaaGreatCtM11
import Derived.Test.YtjkinpbfmihhdaaGreatCtM10
import Derived.WalkKit
import Derived.ProofKit
import Derived.OpenShut
import Derived.ShutString
import Derived.ChangeOld
import Derived.Below
import Derived.Carry
import Derived.SizedLaws
import Derived.Deep.Slices
import Derived.Deep.Fields
import Derived.ChangeSame
import Derived.Test.YtjkinpbfmihhdaaGreatRows
set_option linter.all false
/- Written by a program of ours (wip/gen.py): layer 13 -/
set_option linter.unusedVariables false
set_option maxRecDepth 20000
set_option maxHeartbeats 2000000
namespace Go.Proofs.YtjkinpbfmihhdaaGreat
open Go.RowKit
theorem cl29 : callable Tryz.prog 29 = true := by kernel_rfl

theorem cl30 : callable Tryz.prog 30 = true := by kernel_rfl

theorem cl32 : callable Tryz.prog 32 = true := by kernel_rfl

theorem cl33 : callable Tryz.prog 33 = true := by kernel_rfl

theorem cl34 : callable Tryz.prog 34 = true := by kernel_rfl

theorem cl40 : callable Tryz.prog 40 = true := by kernel_rfl

theorem fo32_0 : fieldOff Tryz.prog 32 0 0 = true := by kernel_rfl

theorem fo32_1 : fieldOff Tryz.prog 32 1 1 = true := by kernel_rfl

def D.cubiclelaw13_Small  : Plan := (⟨2, 1, 4, 0, 1, 1⟩ : Plan)

theorem c_cubiclelaw13_Small (w0 : World) 
     :
    Calls Tryz.prog 40 #[] w0 (PureRes (.agg (planC D.cubiclelaw13_Small).toArray) w0) := by
 refine enter Tryz.func40 rfl 2 rfl rfl fun fr r => ?_
 have hB := Below.refl w0.heap.size w0
 refine wsr ?_
 refine seq_new (.cells ((planC (⟨0, 0, 0, 0, 0, 0⟩ : Plan))).toArray 25 (0, 0)) r (fun R => y_alloc tz25) rfl fun fr b1 w2 n3 r => ?_
 obtain ⟨e_b1, z_w2, h_b1, hB, zB⟩ := n3.all hB
 refine wn ?_
 refine wsr ?_
 refine seq_val (.agg (planC (⟨2, 1, 4, 0, 1, 1⟩ : Plan)).toArray) r (fun R => y_build r (by kernel_rfl)) rfl fun fr r => ?_
 refine seq_upd (.cells ((planC (⟨2, 1, 4, 0, 1, 1⟩ : Plan))).toArray 25 (0, 0)) r (fun R => y_store r (o := 0) (v := (.agg (planC (⟨2, 1, 4, 0, 1, 1⟩ : Plan)).toArray)) rfl rfl h_b1 ts25 (Nat.le_of_ble_eq_true rfl) rfl rfl) rfl fun fr w4 u5 r => ?_
 have z_w4 := u5.size
 have h_b1 := u5.at_
 obtain ⟨hB, zB⟩ := u5.on hB (by omega)
 refine wn ?_
 refine wp_ret ?_
 refine ret_cell r rfl rfl h_b1 (k := 6) rfl ta25 ?_
 exact ⟨rfl, hB⟩

def D.cubiclelaw13_awake (fu : Nat)  : Option (Bool) := ((D.cubiclelaw09_Laid fu D.cubiclelaw13_Small).bind (fun (x2 : Mem) => ((D.mem_Memory_Cap fu x2 0).bind (fun (x11 : Cap) => ((D.prog_Run_Res fu (fu, (D.check_New (fu + 1) (⟨D.cubiclelaw13_Small, 0, 0⟩ : Seat))) x2 x11 99).bind (fun (x13 : Res × Int × Bool × Mem) => (Option.bind (bif x13.2.2.1 then (bif (x13.1.e == 0) then (some (decide (x13.1.v > 0))) else (some false)) else (some false)) (fun (x24 : Bool) => (some x24)))))))))

theorem c_cubiclelaw13_awake {fu : Nat} (w0 : World) {res : Bool} (hD : D.cubiclelaw13_awake fu  = some res) :
    Calls Tryz.prog 27 #[] w0 (PureRes (.bool res) w0) := by
 refine enter Tryz.func27 rfl 31 rfl rfl fun fr r => ?_
 have hP : Post No [] w0 w0 := Post.nil w0
 unfold D.cubiclelaw13_awake at hD
 refine wsr ?_
 refine seq_val (.bool false) r (fun R => y_assign r rfl) rfl fun fr r => ?_
 refine wn ?_
 refine wsr ?_
 refine seq_call r (c_cubiclelaw13_Small w0 ) (fun R hc => y_call r rfl cl40 hc) rfl ?_
 rintro _ w1 ⟨rfl, hb⟩
 refine ⟨_, rfl, fun fr r => ?_⟩
 have hP : Post No [] w0 w1 := hP.below hb
 obtain ⟨x2, hx2, hD⟩ := bindD_elim hD
 refine seq_call r (c_cubiclelaw09_Laid w1 D.cubiclelaw13_Small hx2) (fun R hc => y_call r rfl cl28 hc) rfl ?_
 rintro _ w3 ⟨mg4, rfl, hq⟩
 refine ⟨_, rfl, fun fr r => ?_⟩
 have hP : Post No [memK mg4 x2] w0 w3 := hP.add hq
 refine seq_val (.pointer (some ⟨mg4.mb, 0, none⟩)) r (fun R => y_assign r rfl) rfl fun fr r => ?_
 refine wn ?_
 refine wp_seq ?_
 refine wsr ?_
 refine seq_val (.pointer (some ⟨mg4.mb, 0, none⟩)) r (fun R => y_move r rfl) rfl fun fr r => ?_
 refine seq_val _ r (fun R => y_bin r rfl rfl rfl rfl) rfl fun fr r => ?_
 refine wn ?_
 refine wp_cond_split (t := false) (r.ev rfl) (fun h => absurd ((rfl : false = _).symm.trans h) (by decide)) (fun _ => ?_)
 refine wp_skip ?_
 refine wsr ?_
 refine seq_call r (c_cubiclelaw13_Small w3 ) (fun R hc => y_call r rfl cl40 hc) rfl ?_
 rintro _ w6 ⟨rfl, hb⟩
 refine ⟨_, rfl, fun fr r => ?_⟩
 have hP : Post No [memK mg4 x2] w0 w6 := hP.below hb
 refine seq_val (.agg (seatC (⟨D.cubiclelaw13_Small, 0, 0⟩ : Seat)).toArray) r (fun R => y_build r (by kernel_rfl)) rfl fun fr r => ?_
 refine seq_call r (c_check_New (F := No) (n := fu) (j := fu + 1) (fun _ h => h.elim) (by omega) (⟨D.cubiclelaw13_Small, 0, 0⟩ : Seat)) (fun R hc => y_call r rfl cl30 hc) rfl ?_
 rintro _ w7 ⟨v8, rfl, hb, hr9⟩
 refine ⟨_, rfl, fun fr r => ?_⟩
 have hP : Post No [memK mg4 x2, progK Tryz.prog encRes (fu, (D.check_New (fu + 1) (⟨D.cubiclelaw13_Small, 0, 0⟩ : Seat))) v8 (rg w6.heap.size w7.heap.size)] w0 w7 := hP.addProg hb hr9
 refine seq_val (.pointer (some ⟨mg4.mb, 0, none⟩)) r (fun R => y_move r rfl) rfl fun fr r => ?_
 refine seq_val (.pointer (some ⟨mg4.mb, 0, none⟩)) r (fun R => y_move r rfl) rfl fun fr r => ?_
 obtain ⟨x11, hx11, hD⟩ := bindD_elim hD
 refine seq_call r (c_mem_Memory_Cap w7 x2 (hP.mem (i := 0) rfl) 0 hx11) (fun R hc => y_call r rfl cl31 hc) rfl ?_
 rintro _ w12 ⟨rfl, hb⟩
 refine ⟨_, rfl, fun fr r => ?_⟩
 have hP : Post No [memK mg4 x2, progK Tryz.prog encRes (fu, (D.check_New (fu + 1) (⟨D.cubiclelaw13_Small, 0, 0⟩ : Seat))) v8 (rg w6.heap.size w7.heap.size)] w0 w12 := hP.below hb
 obtain ⟨x13, hx13, hD⟩ := bindD_elim hD
 refine seq_call r (c_prog_Run_Res w12 (fu, (D.check_New (fu + 1) (⟨D.cubiclelaw13_Small, 0, 0⟩ : Seat))) x2 x11 99 (hP.sep.pk [1, 0] rfl rfl) hx13) (fun R hc => y_call r rfl cl29 hc) rfl ?_
 rintro _ w14 ⟨rfl, hq⟩
 refine ⟨_, rfl, fun fr r => ?_⟩
 have hP : Post No [memK mg4 x13.2.2.2, progK Tryz.prog encRes (fu, (D.check_New (fu + 1) (⟨D.cubiclelaw13_Small, 0, 0⟩ : Seat))) v8 (rg w6.heap.size w7.heap.size)] w0 w14 := hP.setN (i := 0) rfl hq
 refine seq_val (.tuple #[(.agg (resC x13.1).toArray), (I x13.2.1), (.bool x13.2.2.1)]) r (fun R => y_move r rfl) rfl fun fr r => ?_
 refine seq_val (.agg (resC x13.1).toArray) r (fun R => y_extract r (vs := #[(.agg (resC x13.1).toArray), (I x13.2.1), (.bool x13.2.2.1)]) rfl rfl) rfl fun fr r => ?_
 refine seq_val (I x13.2.1) r (fun R => y_extract r (vs := #[(.agg (resC x13.1).toArray), (I x13.2.1), (.bool x13.2.2.1)]) rfl rfl) rfl fun fr r => ?_
 refine seq_val (.bool x13.2.2.1) r (fun R => y_extract r (vs := #[(.agg (resC x13.1).toArray), (I x13.2.1), (.bool x13.2.2.1)]) rfl rfl) rfl fun fr r => ?_
 refine seq_new (.cells ((resC (⟨0, 0⟩ : Res))).toArray 32 (0, 0)) r (fun R => y_alloc tz32) rfl fun fr b15 w16 n17 r => ?_
 have hP : Post No [memK mg4 x13.2.2.2, progK Tryz.prog encRes (fu, (D.check_New (fu + 1) (⟨D.cubiclelaw13_Small, 0, 0⟩ : Seat))) v8 (rg w6.heap.size w7.heap.size), cellC b15 ((resC (⟨0, 0⟩ : Res))).toArray 32] w0 w16 := hP.new n17
 refine seq_upd (.cells ((resC x13.1)).toArray 32 (0, 0)) r (fun R => y_store r (o := 0) (v := (.agg (resC x13.1).toArray)) rfl rfl (hP.cell (i := 2) rfl) ts32 (Nat.le_of_ble_eq_true rfl) rfl rfl) rfl fun fr w19 u20 r => ?_
 have hP : Post No [memK mg4 x13.2.2.2, progK Tryz.prog encRes (fu, (D.check_New (fu + 1) (⟨D.cubiclelaw13_Small, 0, 0⟩ : Seat))) v8 (rg w6.heap.size w7.heap.size), cellC b15 ((resC x13.1)).toArray 32] w0 w19 := hP.upd (i := 2) rfl u20
 refine seq_val (I x13.2.1) r (fun R => y_assign r rfl) rfl fun fr r => ?_
 refine seq_val (.bool x13.2.2.1) r (fun R => y_assign r rfl) rfl fun fr r => ?_
 refine wn ?_
 refine wp_seq ?_
 have hP : Post No [memK mg4 x13.2.2.2, cellC b15 ((resC x13.1)).toArray 32] w0 w19 := hP.pick [0, 2] rfl rfl
 refine wp_joinG (N := 31) (Y := Bool) (G := Unit) (fun x γ => [(1, (.pointer (some ⟨mg4.mb, 0, none⟩))), (8, (.bool false)), (2, (.pointer (some ⟨b15, 0, none⟩))), (4, (.bool x13.2.2.1)), (0, (.bool x))]) (fun x γ w => Post No [memK mg4 x13.2.2.2, cellC b15 ((resC x13.1)).toArray 32] w0 w) hD ?_ ?_
 ·
  rintro y21 RPy21 nxy21 hD
  refine wp_region_lit ?_
  refine seq_val (.bool x13.2.2.1) r (fun R => y_move r rfl) rfl fun fr r => ?_
  refine seq_val (.bool x13.2.2.1) r (fun R => y_move r rfl) rfl fun fr r => ?_
  refine seq_split x13.2.2.1 (fun h22 => ?_) (fun h22 => ?_)
  ·
   have hD := (cond_t h22).symm.trans hD
   refine s1 r h22 ?_
   refine seq_val _ r (fun R => y_fieldAddr r (o := 0) rfl fo32_0) rfl fun fr r => ?_
   refine s1 r h22 ?_
   refine seq_val (I x13.1.e) r (fun R => y_load_one r rfl (hP.cell (i := 1) rfl) to30 rfl) rfl fun fr r => ?_
   refine s1 r h22 ?_
   refine seq_val _ r (fun R => y_bin r rfl rfl rfl rfl) rfl fun fr r => ?_
   refine seq_val (.bool (x13.1.e == 0)) r (fun R => y_pick r (b := true) (congrArg Value.bool h22) rfl) rfl fun fr r => ?_
   refine seq_val (.bool (x13.1.e == 0)) r (fun R => y_move r rfl) rfl fun fr r => ?_
   refine seq_split (x13.1.e == 0) (fun h23 => ?_) (fun h23 => ?_)
   ·
    have hD := (cond_t h23).symm.trans hD
    refine s1 r h23 ?_
    refine seq_val _ r (fun R => y_fieldAddr r (o := 0) rfl fo32_1) rfl fun fr r => ?_
    refine s1 r h23 ?_
    refine seq_val (U x13.1.v) r (fun R => y_load_one r rfl (hP.cell (i := 1) rfl) to22 rfl) rfl fun fr r => ?_
    refine s1 r h23 ?_
    refine seq_val _ r (fun R => y_bin r rfl rfl rfl rfl) rfl fun fr r => ?_
    refine seq_val (.bool (decide (x13.1.v > 0))) r (fun R => y_pick r (b := true) (congrArg Value.bool h23) rfl) rfl fun fr r => ?_
    refine seq_val (.bool (decide (x13.1.v > 0))) r (fun R => y_assign r rfl) rfl fun fr r => ?_
    refine wn ?_
    exact nxy21 (decide (x13.1.v > 0)) () _ _ _ hD r (hs_cons rfl (hs_cons rfl (hs_cons rfl (hs_cons rfl (hs_cons rfl hs_nil))))) (hP.pick [0, 1] rfl rfl)
   ·
    have hD := (cond_f h23).symm.trans hD
    refine s0 r h23 fun fr r => ?_
    refine s0 r h23 fun fr r => ?_
    refine s0 r h23 fun fr r => ?_
    refine seq_val (.bool false) r (fun R => y_pick r (b := false) (congrArg Value.bool h23) rfl) rfl fun fr r => ?_
    refine seq_val (.bool false) r (fun R => y_assign r rfl) rfl fun fr r => ?_
    refine wn ?_
    exact nxy21 false () _ _ _ hD r (hs_cons rfl (hs_cons rfl (hs_cons rfl (hs_cons rfl (hs_cons rfl hs_nil))))) (hP.pick [0, 1] rfl rfl)
  ·
   have hD := (cond_f h22).symm.trans hD
   refine s0 r h22 fun fr r => ?_
   refine s0 r h22 fun fr r => ?_
   refine s0 r h22 fun fr r => ?_
   refine seq_val (.bool false) r (fun R => y_pick r (b := false) (congrArg Value.bool h22) rfl) rfl fun fr r => ?_
   refine seq_val (.bool false) r (fun R => y_move r rfl) rfl fun fr r => ?_
   refine s0 r (rfl : false = _) fun fr r => ?_
   refine s0 r (rfl : false = _) fun fr r => ?_
   refine s0 r (rfl : false = _) fun fr r => ?_
   refine seq_val (.bool false) r (fun R => y_pick r (b := false) (congrArg Value.bool (rfl : false = _)) rfl) rfl fun fr r => ?_
   refine seq_val (.bool false) r (fun R => y_assign r rfl) rfl fun fr r => ?_
   refine wn ?_
   exact nxy21 false () _ _ _ hD r (hs_cons rfl (hs_cons rfl (hs_cons rfl (hs_cons rfl (hs_cons rfl hs_nil))))) (hP.pick [0, 1] rfl rfl)
 ·
  rintro x24 γ25 fr w26 g r hP hD
  have hP : Post No [memK mg4 x13.2.2.2, cellC b15 ((resC x13.1)).toArray 32] w0 w26 := hP
  refine wp_ret ?_
  have hv : x24 = res := Option.some.inj hD
  try dsimp only [Exit.then, Exit.inBlock]
  refine ret_tmp (fn := Tryz.f27) r (t := 0) rfl (v := (.bool x24)) rfl ?_
  subst hv
  exact ⟨rfl, hP.chg.below⟩

end Go.Proofs.YtjkinpbfmihhdaaGreat

/- Handles and their words, in numbers. -/
namespace Go.Proofs.YtjkinpbfmihhdaaGreat
open Go.RowKit

def U64 (w : Int) : Prop := 0 ≤ w ∧ w < 18446744073709551616

theorem f_hI : D.field_Field_Formed hIdx = true := by decide

theorem f_hG : D.field_Field_Formed hGen = true := by decide

theorem f_hT : D.field_Field_Formed hTen = true := by decide

theorem f_hS : D.field_Field_Formed hSeal = true := by decide

theorem m_hI : D.field_Field_Most hIdx = 1048575 := by decide +kernel

theorem m_hG : D.field_Field_Most hGen = 1073741823 := by decide +kernel

theorem m_hT : D.field_Field_Most hTen = 63 := by decide +kernel

theorem m_hS : D.field_Field_Most hSeal = 63 := by decide +kernel

theorem k_hI : D.field_Field_mask hIdx = 1048575 := by decide +kernel

theorem k_hG : D.field_Field_mask hGen = 1125899905794048 := by decide +kernel

theorem k_hT : D.field_Field_mask hTen = 70931694131085312 := by decide +kernel

theorem k_hS : D.field_Field_mask hSeal = 18158513697557839872 := by decide +kernel

theorem get_low {w : Int} (hw : U64 w) (a b : Nat) (ha : a < 64) (hb : b < 64) (hF : D.field_Field_Formed ⟨a, b⟩ = true) (hM : D.field_Field_Most ⟨a, b⟩ = ((2 ^ b - 1 : Nat) : Int)) :
    D.field_Field_Get ⟨a, b⟩ w = w / ((2 ^ a : Nat) : Int) % ((2 ^ b : Nat) : Int) := by
  obtain ⟨h0, h1⟩ := hw
  unfold D.field_Field_Get
  rw [hF, hM]
  simp only [Bool.not_true, cond_false]
  have hp : (0 : Int) < ((2 ^ a : Nat) : Int) := by have := Nat.pow_pos (n := a) (show 0 < 2 by omega); omega
  have e : shrI .u64 w (a : Int) = w / ((2 ^ a : Nat) : Int) := by rw [shrN a (by omega)]; norm_cast
  have hd : w / ((2 ^ a : Nat) : Int) ≤ w := Int.ediv_le_self _ h0
  have hd0 : 0 ≤ w / ((2 ^ a : Nat) : Int) := Int.ediv_nonneg h0 (by omega)
  show bits_and .u64 (shrI .u64 w (a : Int)) _ = _
  rw [e, and_low hd0 (by omega) b hb]

theorem get_hI {w : Int} (hw : U64 w) : D.field_Field_Get hIdx w = w % 1048576 := by
  have := get_low hw 0 20 (by omega) (by omega) f_hI m_hI
  rw [show ((2 ^ 0 : Nat) : Int) = 1 from rfl, Int.ediv_one] at this
  exact this

theorem get_hG {w : Int} (hw : U64 w) : D.field_Field_Get hGen w = w / 1048576 % 1073741824 := get_low hw 20 30 (by omega) (by omega) f_hG m_hG

theorem get_hT {w : Int} (hw : U64 w) : D.field_Field_Get hTen w = w / 1125899906842624 % 64 := get_low hw 50 6 (by omega) (by omega) f_hT m_hT

theorem get_hS {w : Int} (hw : U64 w) : D.field_Field_Get hSeal w = w / 288230376151711744 := by
  have := get_low hw 58 6 (by omega) (by omega) f_hS m_hS
  have h2 : D.field_Field_Get hSeal w = w / 288230376151711744 % 64 := this
  have := hw.1
  have := hw.2
  omega

/-- What no field takes. -/
theorem hrest {w : Int} (hw : U64 w) : bits_andNot .u64 (bits_andNot .u64 (bits_andNot .u64 (bits_andNot .u64 w (D.field_Field_mask hIdx)) (D.field_Field_mask hGen)) (D.field_Field_mask hTen)) (D.field_Field_mask hSeal) = w / 72057594037927936 % 4 * 72057594037927936 := by
  obtain ⟨h0, h1⟩ := hw
  rw [k_hI, k_hG, k_hT, k_hS]
  have hx : ∀ {x : Nat} {y : Int}, x ≤ w.toNat → 0 ≤ y → y < 18446744073709551616 → bits_andNot .u64 (x : Int) y = ((x &&& (18446744073709551615 - y.toNat) : Nat) : Int) := fun {x y} hx hy0 hy1 => by
    have := andNot_eq (x := (x : Int)) (y := y) (by omega) (by omega) hy0 hy1
    rw [Int.toNat_natCast] at this
    exact this
  obtain ⟨v, rfl⟩ : ∃ v : Nat, w = (v : Int) := ⟨w.toNat, by omega⟩
  have l1 : v &&& (18446744073709551615 - (1048575 : Int).toNat) ≤ v := Nat.and_le_left
  have l2 : (v &&& (18446744073709551615 - (1048575 : Int).toNat)) &&& (18446744073709551615 - (1125899905794048 : Int).toNat) ≤ v := Nat.le_trans Nat.and_le_left l1
  have l3 : ((v &&& (18446744073709551615 - (1048575 : Int).toNat)) &&& (18446744073709551615 - (1125899905794048 : Int).toNat)) &&& (18446744073709551615 - (70931694131085312 : Int).toNat) ≤ v := Nat.le_trans Nat.and_le_left l2
  rw [hx (by omega) (by omega) (by omega), hx (by omega) (by omega) (by omega), hx (by omega) (by omega) (by omega), hx (by omega) (by omega) (by omega)]
  rw [Nat.and_assoc, Nat.and_assoc, Nat.and_assoc]
  have hK : (18446744073709551615 - (1048575 : Int).toNat) &&& ((18446744073709551615 - (1125899905794048 : Int).toNat) &&& ((18446744073709551615 - (70931694131085312 : Int).toNat) &&& (18446744073709551615 - (18158513697557839872 : Int).toNat))) = 3 * 2 ^ 56 := by decide +kernel
  rw [hK]
  have : v &&& 3 * 2 ^ 56 = v / 2 ^ 56 % 4 * 2 ^ 56 := by
    apply Nat.eq_of_testBit_eq
    intro i
    rw [Nat.testBit_and, Nat.testBit_mul_two_pow, Nat.testBit_mul_two_pow, show (4 : Nat) = 2 ^ 2 from rfl, Nat.testBit_mod_two_pow, Nat.testBit_div_two_pow]
    by_cases hi : 56 ≤ i
    · rw [show i - 56 + 56 = i by omega]
      have h3 : Nat.testBit 3 (i - 56) = decide (i - 56 < 2) := by
        rw [show (3 : Nat) = 2 ^ 2 - 1 from rfl, Nat.testBit_two_pow_sub_one]
      rw [h3]
      simp [hi, Bool.and_comm]
    · simp [hi]
  rw [this]
  show ((v / 72057594037927936 % 4 * 72057594037927936 : Nat) : Int) = _
  omega

/-- A word's handle, told in numbers. -/
def hof (w : Int) : Handle × Bool := if w / 72057594037927936 % 4 = 0 ∧ w / 288230376151711744 = 42 then (⟨w % 1048576, w / 1048576 % 1073741824, w / 1125899906842624 % 64⟩, true) else (⟨0, 0, 0⟩, false)

theorem hof_eq {w : Int} (hw : U64 w) : D.handle_Of w = hof w := by
  have h : St.D.handle_Of 10 w = some (hof w) := by
    unfold St.D.handle_Of
    show (St.D.field_Split 10 [hIdx, hGen, hTen, hSeal] w).bind _ = _
    rw [hsplit, hrest hw, get_hI hw, get_hG hw, get_hT hw, get_hS hw]
    unfold hof
    by_cases h1 : w / 72057594037927936 % 4 = 0
    · rw [h1, show (((0 : Int) * 72057594037927936 != 0) = false) from rfl]
      show (bif (w / 288230376151711744 != 42) then some ((⟨0, 0, 0⟩ : Handle), false) else some ((⟨IntKind.i64.wrap (w % 1048576), IntKind.i64.wrap (w / 1048576 % 1073741824), IntKind.i64.wrap (w / 1125899906842624 % 64)⟩ : Handle), true)) = _
      rw [wrap_id (by omega) (by omega), wrap_id (by omega) (by omega), wrap_id (by omega) (by omega)]
      by_cases h2 : w / 288230376151711744 = 42
      · rw [h2, if_pos ⟨rfl, rfl⟩]; rfl
      · rw [if_neg (fun h => h2 h.2), show (w / 288230376151711744 != 42) = true from by simpa using h2]; rfl
    · rw [if_neg (fun h => h1 h.1), show (w / 72057594037927936 % 4 * 72057594037927936 != 0) = true from by simp; omega]
      rfl
  unfold D.handle_Of
  rw [h]; rfl

/-- A handle that is formed. -/
structure HF (h : Handle) : Prop where
  i0 : 0 ≤ h.index
  i1 : h.index < 1048576
  g0 : 0 ≤ h.gen
  g1 : h.gen ≤ 1073741823
  t0 : 0 ≤ h.tenant
  t1 : h.tenant < 64

theorem handle_formed {h : Handle} (hf : HF h) : D.handle_Handle_Formed h = true := by
  obtain ⟨h1, h2, h3, h4, h5, h6⟩ := hf
  unfold D.handle_Handle_Formed
  simp only [ge_iff_le, h1, h2, h3, h4, h5, h6, decide_true, cond_true]

theorem put_seal {u : Int} (h0 : 0 ≤ u) (h1 : u < 288230376151711744) : D.field_Field_Put hSeal u 42 = 12105675798371893248 + u := by
  unfold D.field_Field_Put
  rw [f_hS, m_hS, k_hS]
  show bits_or .u64 (bits_andNot .u64 u 18158513697557839872) (shlI .u64 (bits_and .u64 42 63) 58) = _
  rw [andNot_eq h0 (by omega) (by omega) (by omega), show 18446744073709551615 - (18158513697557839872 : Int).toNat = 2 ^ 58 - 1 from rfl, Nat.and_two_pow_sub_one_eq_mod, show shlI .u64 (bits_and .u64 42 63) 58 = 12105675798371893248 from by decide +kernel]
  obtain ⟨x, rfl⟩ : ∃ x : Nat, u = (x : Int) := ⟨u.toNat, by omega⟩
  have hx : x < 2 ^ 58 := by omega
  rw [Int.toNat_natCast, Nat.mod_eq_of_lt hx, or_eq (by omega) (by omega) (by omega) (by omega), Int.toNat_natCast, show (12105675798371893248 : Int).toNat = 2 ^ 58 * 42 from rfl, Nat.or_comm, ← Nat.two_pow_add_eq_or_of_lt hx]
  show ((288230376151711744 * 42 + x : Nat) : Int) = _
  omega

/-- A handle's word, in numbers. -/
theorem hword_val {h : Handle} (hf : HF h) : D.handle_Handle_Word h = h.index + h.gen * 1048576 + h.tenant * 1125899906842624 + 12105675798371893248 := by
  have hh := handle_formed hf
  obtain ⟨h1, h2, h3, h4, h5, h6⟩ := hf
  have hw : St.D.handle_Handle_Word 10 h = some (h.index + h.gen * 1048576 + h.tenant * 1125899906842624 + 12105675798371893248) := by
    unfold St.D.handle_Handle_Word
    rw [hh]
    show (((St.D.field_Pack 10 [hIdx, hGen, hTen, hSeal] [IntKind.u64.wrap h.index, IntKind.u64.wrap h.gen, IntKind.u64.wrap h.tenant, 42]).bind (fun (x17 : Int × Int) => (some x17.1)))) = _
    rw [hpack, wrapu_id h1 (by omega), wrapu_id h3 (by omega), wrapu_id h5 (by omega), m_hI, m_hG, m_hT, m_hS, show decide (h.index > 1048575) = false from by simp; omega, show decide (h.gen > 1073741823) = false from by simp; omega, show decide (h.tenant > 63) = false from by simp; omega]
    rw [show decide ((42 : Int) > 63) = false from rfl]
    simp only [cond_false, Option.bind_some]
    rw [show D.field_Field_Put hIdx 0 h.index = h.index * ((2 ^ 0 : Nat) : Int) + 0 from put_at 0 20 (by omega) (by decide) h1 (by omega) (by omega) f_hI m_hI k_hI]
    rw [show D.field_Field_Put hGen (h.index * ((2 ^ 0 : Nat) : Int) + 0) h.gen = h.gen * ((2 ^ 20 : Nat) : Int) + (h.index * ((2 ^ 0 : Nat) : Int) + 0) from put_at 20 30 (by omega) (by omega) h3 (by omega) (by omega) f_hG m_hG k_hG]
    rw [show D.field_Field_Put hTen (h.gen * ((2 ^ 20 : Nat) : Int) + (h.index * ((2 ^ 0 : Nat) : Int) + 0)) h.tenant = h.tenant * ((2 ^ 50 : Nat) : Int) + (h.gen * ((2 ^ 20 : Nat) : Int) + (h.index * ((2 ^ 0 : Nat) : Int) + 0)) from put_at 50 6 (by omega) (by omega) h5 (by omega) (by omega) f_hT m_hT k_hT]
    rw [put_seal (by omega) (by omega)]
    congr 1
    omega
  unfold D.handle_Handle_Word
  rw [hw]; rfl

theorem of_hword {h : Handle} (hf : HF h) : D.handle_Of (D.handle_Handle_Word h) = (h, true) := by
  rw [hword_val hf]
  obtain ⟨h1, h2, h3, h4, h5, h6⟩ := hf
  rw [hof_eq ⟨by omega, by omega⟩]
  unfold hof
  rw [if_pos (by omega)]
  obtain ⟨a, b, c⟩ := h
  simp only at *
  rw [show (a + b * 1048576 + c * 1125899906842624 + 12105675798371893248) % 1048576 = a from by omega, show (a + b * 1048576 + c * 1125899906842624 + 12105675798371893248) / 1048576 % 1073741824 = b from by omega, show (a + b * 1048576 + c * 1125899906842624 + 12105675798371893248) / 1125899906842624 % 64 = c from by omega]

theorem mine_hword {h : Handle} (hf : HF h) {t n : Int} (ht : h.tenant = t) (hn : h.index < n) : D.handle_Mine (D.handle_Handle_Word h) t n = (h, true) := by
  unfold D.handle_Mine
  rw [of_hword hf, show (h.tenant != t) = false from by simpa using ht, show decide (h.index ≥ n) = false from by simp; omega]
  rfl

theorem mine_other {h : Handle} (hf : HF h) {t n : Int} (ht : h.tenant ≠ t) : (D.handle_Mine (D.handle_Handle_Word h) t n).2 = false := by
  unfold D.handle_Mine
  rw [of_hword hf, show (h.tenant != t) = true from by simpa using ht]
  rfl

end Go.Proofs.YtjkinpbfmihhdaaGreat

/- Nodes by handles, alone: what reading, writing, swapping, granting and dropping come to, without the code. -/
set_option linter.unusedVariables false
namespace Go.Proofs.YtjkinpbfmihhdaaGreat
open Go.RowKit

theorem runR {t : T Res} {M : Mem} {ws' : List Int} {n : Nat} {most : Int} {r : Res} {fu : Nat} (h : Runs t M.ws n r ws') (hm : (n : Int) ≤ most) (hm2 : most ≤ 1000000) (hn : n < fu) : ∃ c, D.prog_Run_Res fu (fu, t) M cap0 most = some (r, (n : Int), true, ⟨ws', c⟩) := by
  have h2 := runG_eq (z := (⟨0, 0⟩ : Res)) (fu := fu) (d := fu) (most := most) h hm hm2 (Nat.le_of_lt hn) hn
  exact h2

theorem load_runsR {at_ : Int} {f : Int → T Res} {ws ws' : List Int} {n : Nat} {r : Res} (h0 : 0 ≤ at_) (h1 : at_ < ws.length) (h : Runs (f (rd ws at_)) ws n r ws') : Runs (D.prog_Load_Res at_ f) ws (n + 1) r ws' := Runs.load h0 h1 h

theorem store_runsR {at_ w : Int} {f : Unit → T Res} {ws ws' : List Int} {n : Nat} {r : Res} (h0 : 0 ≤ at_) (h1 : at_ < ws.length) (h : Runs (f ()) (ws.set at_.toNat w) n r ws') : Runs (D.prog_Store_Res at_ w f) ws (n + 1) r ws' := Runs.store h0 h1 h

theorem swap_runsR {at_ was w : Int} {f : Bool → T Res} {ws ws' : List Int} {n : Nat} {r : Res} (h0 : 0 ≤ at_) (h1 : at_ < ws.length) (h : Runs (f (rd ws at_ == was)) (if rd ws at_ = was then ws.set at_.toNat w else ws) n r ws') : Runs (D.prog_Swap_Res at_ was w f) ws (n + 1) r ws' := by
  refine Runs.act (op := 2) (by omega) (getI_rd h0 h1) ?_
  have : acted 2 at_ was w (rd ws at_) ws = (if rd ws at_ = was then ws.set at_.toNat w else ws) := by simp [acted]
  rw [this]
  exact h

theorem seat_formed {s : Seat} : D.check_Seat_Formed s = true ↔ PF s.p ∧ (0 ≤ s.tenant ∧ s.tenant < 64) ∧ (0 ≤ s.thread ∧ s.thread < s.p.threads) := by
  unfold D.check_Seat_Formed
  rw [← plan_formed]
  cases D.plan_Plan_Formed s.p <;> cases h1 : decide (s.tenant ≥ 0) <;> cases h2 : decide (s.tenant < 64) <;> cases h3 : decide (s.thread ≥ 0) <;> (try simp_all) <;> (try omega)

/-- The words hold the same but for one place. -/
def Put1 (ws ws' : List Int) (a v : Int) : Prop := ws'.length = ws.length ∧ ∀ j, 0 ≤ j → rd ws' j = if j = a then v else rd ws j

def Eq1 (ws ws' : List Int) : Prop := ws'.length = ws.length ∧ ∀ j, 0 ≤ j → rd ws' j = rd ws j

/-- The place of a thread's first hazard. -/
def hp0 (p : Plan) (t : Int) : Int := D.plan_Plan_hazards p + t * 3

/-- The place of a node's field. -/
def fp (p : Plan) (n f : Int) : Int := sp p n + 2 + f

section
variable {s : Seat} (hs : D.check_Seat_Formed s = true) {ws : List Int} (hl : Len s.p ws) {w f : Int} {h : Handle} (hm : D.handle_Mine w s.tenant s.p.nodes = (h, true)) (hn : 0 ≤ h.index ∧ h.index < s.p.nodes)
include hs hl hm hn
theorem hp0_in : 0 < hp0 s.p s.thread ∧ hp0 s.p s.thread + 3 ≤ D.plan_Plan_counts s.p ∧ D.plan_Plan_counts s.p < D.plan_Plan_nodes s.p ∧ D.plan_Plan_nodes s.p ≤ sp s.p h.index ∧ sp s.p h.index + 5 ≤ D.plan_Plan_Size s.p := by
  obtain ⟨hp, _, ht⟩ := seat_formed.1 hs
  obtain ⟨g1, g2, g3, g4⟩ := hz_in hp
  unfold hp0 sp
  omega

theorem look_good (hf : 0 ≤ f ∧ f < 3) {do_ : Int → (Int → T Res) → T Res} (hx : rd ws (sp s.p h.index) = D.state_State_Word (D.check_live h)) {m : Nat} {r : Res} {ws' : List Int}
    (hr : Runs (do_ (fp s.p h.index f) (fun x => D.check_look_2_1_1_1 (fun x => D.check_look_1 s x) x)) (ws.set (hp0 s.p s.thread).toNat (h.index + 1)) m r ws') : Runs (D.check_look s w f do_) ws (m + 3) r ws' := by
  obtain ⟨hp, _, ht⟩ := seat_formed.1 hs
  obtain ⟨q1, q2, q3⟩ := sp_in hp hn
  obtain ⟨z1, z2, z3, z4, z5⟩ := hp0_in hs hl hm hn
  have hN := nodes_le hp
  have hnn := hp.n2
  have hl0 := hl
  unfold Len at hl
  unfold D.check_look
  rw [hs, hm, show decide (f < 0) = false from by simp; omega, show decide (f ≥ 3) = false from by simp; omega]
  simp only [Bool.not_true, cond_false]
  rw [q3]
  refine load_runsR (by omega) (by omega) ?_
  unfold D.check_look_2
  rw [show (rd ws (sp s.p h.index) != D.state_State_Word (D.check_live h)) = false from by simpa using hx]
  simp only [cond_false]
  have h1 := hset_runs hp hl0 ht (s := 0) (n := h.index) (by omega) (by omega)
  rw [show D.plan_Plan_hazards s.p + s.thread * 3 + 0 = hp0 s.p s.thread from by unfold hp0; omega] at h1
  refine (Runs.bind (g := fun _ => D.check_look_2_1 (sp s.p h.index) (D.state_State_Word (D.check_live h)) (fun x => D.check_look_1 s x) do_ s h f) h1 (m := m + 1) ?_).cast (by omega)
  unfold D.check_look_2_1
  refine load_runsR (by omega) (by rw [List.length_set]; omega) ?_
  rw [rd_set (by omega) (by omega) (by omega), if_neg (by omega)]
  unfold D.check_look_2_1_1
  rw [show (rd ws (sp s.p h.index) != D.state_State_Word (D.check_live h)) = false from by simpa using hx, fl_at hp hn hf]
  exact hr
omit hm in

theorem leave_runs {u : List Int} (hu : u.length = ws.length) {v : Int} : Runs (D.check_look_2_1_1_1 (fun x => D.check_look_1 s x) v) u 1 ⟨0, v⟩ (u.set (hp0 s.p s.thread).toNat 0) := by
  obtain ⟨hp, _, ht⟩ := seat_formed.1 hs
  unfold D.check_look_2_1_1_1 D.check_look_1
  have h1 := hset_runs hp (ws := u) (by unfold Len at *; omega) ht (s := 0) (n := -1) (by omega) (by omega)
  rw [show D.plan_Plan_hazards s.p + s.thread * 3 + 0 = hp0 s.p s.thread from by unfold hp0; omega] at h1
  refine (Runs.bind (g := fun _ => D.check_look_1_1 ⟨0, v⟩) h1 (m := 0) ?_).cast (by omega)
  exact .done _ _

theorem read_runs (hf : 0 ≤ f ∧ f < 3) (hz : rd ws (hp0 s.p s.thread) = 0) (hx : rd ws (sp s.p h.index) = D.state_State_Word (D.check_live h)) : ∃ ws', Runs (D.check_Read s w f) ws 5 ⟨0, rd ws (fp s.p h.index f)⟩ ws' ∧ Eq1 ws ws' := by
  obtain ⟨z1, z2, z3, z4, z5⟩ := hp0_in hs hl hm hn
  have hl0 := hl
  unfold Len at hl
  have hfp : fp s.p h.index f = sp s.p h.index + 2 + f := rfl
  refine ⟨(ws.set (hp0 s.p s.thread).toNat (h.index + 1)).set (hp0 s.p s.thread).toNat 0, ?_, by simp, fun j hj => ?_⟩
  · refine look_good hs hl0 hm hn hf hx (m := 2) ?_
    unfold D.check_Read_1
    refine load_runsR (by omega) (by rw [List.length_set]; omega) ?_
    rw [rd_set (by omega) (by omega) (by omega), if_neg (by omega)]
    exact leave_runs hs hl0 hn (by simp)
  · rw [rd_set (by omega) (by rw [List.length_set]; omega) hj, rd_set (by omega) (by omega) hj]
    split
    · rename_i e; rw [e, hz]
    · rfl

theorem write_runs (hf : 0 ≤ f ∧ f < 3) (hz : rd ws (hp0 s.p s.thread) = 0) (hx : rd ws (sp s.p h.index) = D.state_State_Word (D.check_live h)) (v : Int) : ∃ ws', Runs (D.check_Write s w f v) ws 5 ⟨0, 0⟩ ws' ∧ Put1 ws ws' (fp s.p h.index f) v := by
  obtain ⟨z1, z2, z3, z4, z5⟩ := hp0_in hs hl hm hn
  have hl0 := hl
  unfold Len at hl
  have hfp : fp s.p h.index f = sp s.p h.index + 2 + f := rfl
  refine ⟨((ws.set (hp0 s.p s.thread).toNat (h.index + 1)).set (fp s.p h.index f).toNat v).set (hp0 s.p s.thread).toNat 0, ?_, by simp, fun j hj => ?_⟩
  · refine look_good hs hl0 hm hn hf hx (m := 2) ?_
    unfold D.check_Write_1
    refine store_runsR (by omega) (by rw [List.length_set]; omega) ?_
    unfold D.check_Write_1_1
    exact leave_runs hs hl0 hn (by simp)
  · rw [rd_set (by omega) (by simp; omega) hj, rd_set (by omega) (by simp; omega) hj, rd_set (by omega) (by omega) hj]
    by_cases e : j = hp0 s.p s.thread
    · rw [if_pos e, if_neg (by omega), e, hz]
    · rw [if_neg e, if_neg e]

theorem swap_runs (hf : 0 ≤ f ∧ f < 3) (hz : rd ws (hp0 s.p s.thread) = 0) (hx : rd ws (sp s.p h.index) = D.state_State_Word (D.check_live h)) (was v : Int) :
    (rd ws (fp s.p h.index f) = was → ∃ ws', Runs (D.check_Swap s w f was v) ws 5 ⟨0, 1⟩ ws' ∧ Put1 ws ws' (fp s.p h.index f) v) ∧ (rd ws (fp s.p h.index f) ≠ was → ∃ ws', Runs (D.check_Swap s w f was v) ws 5 ⟨0, 0⟩ ws' ∧ Eq1 ws ws') := by
  obtain ⟨z1, z2, z3, z4, z5⟩ := hp0_in hs hl hm hn
  have hl0 := hl
  unfold Len at hl
  have hfp : fp s.p h.index f = sp s.p h.index + 2 + f := rfl
  have hr : rd (ws.set (hp0 s.p s.thread).toNat (h.index + 1)) (fp s.p h.index f) = rd ws (fp s.p h.index f) := by rw [rd_set (by omega) (by omega) (by omega), if_neg (by omega)]
  constructor
  · intro e
    refine ⟨((ws.set (hp0 s.p s.thread).toNat (h.index + 1)).set (fp s.p h.index f).toNat v).set (hp0 s.p s.thread).toNat 0, ?_, by simp, fun j hj => ?_⟩
    · refine look_good hs hl0 hm hn hf hx (m := 2) ?_
      unfold D.check_Swap_1
      refine swap_runsR (by omega) (by rw [List.length_set]; omega) ?_
      rw [hr, if_pos e, show (rd ws (fp s.p h.index f) == was) = true from by simpa using e]
      unfold D.check_Swap_1_1
      exact leave_runs hs hl0 hn (by simp)
    · rw [rd_set (by omega) (by simp; omega) hj, rd_set (by omega) (by simp; omega) hj, rd_set (by omega) (by omega) hj]
      by_cases e : j = hp0 s.p s.thread
      · rw [if_pos e, if_neg (by omega), e, hz]
      · rw [if_neg e, if_neg e]
  · intro e
    refine ⟨(ws.set (hp0 s.p s.thread).toNat (h.index + 1)).set (hp0 s.p s.thread).toNat 0, ?_, by simp, fun j hj => ?_⟩
    · refine look_good hs hl0 hm hn hf hx (m := 2) ?_
      unfold D.check_Swap_1
      refine swap_runsR (by omega) (by rw [List.length_set]; omega) ?_
      rw [hr, if_neg e, show (rd ws (fp s.p h.index f) == was) = false from by simpa using e]
      unfold D.check_Swap_1_1
      exact leave_runs hs hl0 hn (by simp)
    · rw [rd_set (by omega) (by rw [List.length_set]; omega) hj, rd_set (by omega) (by omega) hj]
      split
      · rename_i e; rw [e, hz]
      · rfl

end
end Go.Proofs.YtjkinpbfmihhdaaGreat

/- Nodes by handles, alone: granting and dropping; what is laid out at first. -/
set_option linter.unusedVariables false
namespace Go.Proofs.YtjkinpbfmihhdaaGreat
open Go.RowKit

theorem PoolAt.start {p : Plan} (hp : PF p) {ws : List Int} (h : LaidAt p ws) {t : Int} (ht : 0 ≤ t ∧ t < p.threads) : PoolAt p t ws ⟨allN p, [], fun _ => ⟨0, 0, 0⟩⟩ 0 := by
  have hN := nodes_le hp
  have hF := laid_free hp h
  refine ⟨hF, laid_ret hp h ht, List.nodup_nil, fun _ h => (by cases h), fun n n0 n1 => laid_state hp h ⟨n0, n1⟩, fun j j0 j1 => laid_hz hp h j0 j1, fun n f hn f0 f1 => ?_⟩
  have hr := hF.range n hn
  exact h.zero _ (by unfold sp; omega) fun m _ _ => by unfold sp; omega

section
variable {s : Seat} (hs : D.check_Seat_Formed s = true) (hnn : s.p.nodes ≤ 1000) {ws : List Int} {P : Pool} {g : Int} (h : PoolAt s.p s.thread ws P g) (hg : g < 900000)
include hs hnn h hg
theorem new_runs (J : Nat) (hJ : 1100 < J) : ∃ (m : Nat) (ws' : List Int) (g' : Int), m ≤ 70 * P.rt.length + 10 ∧ g' ≤ g + P.rt.length + 1 ∧
    Runs (D.check_New J s) ws m (if (P.grant s.p.gen 0).2.e = 0 then ⟨0, D.handle_Handle_Word ⟨(P.grant s.p.gen 0).2.node, (P.grant s.p.gen 0).2.gen, s.tenant⟩⟩ else ⟨(P.grant s.p.gen 0).2.e, 0⟩) ws' ∧ PoolAt s.p s.thread ws' (P.grant s.p.gen 0).1 g' ∧ KeptP s.p s.thread P ws ws' := by
  obtain ⟨hp, _, ht⟩ := seat_formed.1 hs
  obtain ⟨m, ws', g', hm, hg', hr, hP, hk⟩ := h.grant hp hnn ht (k := 0) (by omega) hg J hJ
  refine ⟨m, ws', g', hm, hg', ?_, hP, hk⟩
  unfold D.check_New
  rw [hs]
  simp only [Bool.not_true, cond_false]
  refine (Runs.bind (g := fun x => D.check_New_1 s x) hr (m := 0) ?_).cast (by omega)
  unfold D.check_New_1
  split
  · rename_i e
    rw [show ((P.grant s.p.gen 0).2.e != 0) = false from by simpa using e]
    exact .done _ _
  · rename_i e
    rw [show ((P.grant s.p.gen 0).2.e != 0) = true from by simpa using e]
    exact .done _ _

end
end Go.Proofs.YtjkinpbfmihhdaaGreat

/- Written by a program of ours (wip/gen.py): a law -/
set_option linter.unusedVariables false
set_option maxRecDepth 20000
set_option maxHeartbeats 2000000
namespace Go.Proofs.YtjkinpbfmihhdaaGreat.Wk
open Go.RowKit
theorem cl27 : callable Tryz.prog 27 = true := by kernel_rfl

theorem eg32 : Tryz.prog.eqGuardType Tryz.prog.depth 32 = false := by kernel_rfl

theorem eqs32 (x y : Res) (w : World) : (binOp .eql 32 (.agg (resC x).toArray) (.agg (resC y).toArray)).run Tryz.prog w = .ok (.bool (x == y)) w ∧ (binOp .neq 32 (.agg (resC x).toArray) (.agg (resC y).toArray)).run Tryz.prog w = .ok (.bool (!(x == y))) w :=
  eq_ints [(.i64, x.e, y.e), (.u64, x.v, y.v)] (by kernel_rfl) (by kernel_rfl) (by kernel_rfl) (by kernel_rfl) (by cases x; cases y; rw [Bool.eq_iff_iff]; simp)

theorem ts29 : sized Tryz.prog 29 8 = true := by kernel_rfl

theorem tz29 : zeroOf Tryz.prog 29 = some (.agg (seatC (⟨(⟨0, 0, 0, 0, 0, 0⟩ : Plan), 0, 0⟩ : Seat)).toArray) := by kernel_rfl

def D.cubiclelaw13_CheckTwo (fu : Nat) (a0 : Int) (a1 : Int) (a2 : Int) : Option (Bool) := (Option.bind ((D.cubiclelaw13_awake fu ).bind (fun (x2 : Bool) => (bif (!x2) then (some true) else (bif (decide (a0 < 0)) then (some true) else (some (decide (a0 > 2))))))) (fun (x6 : Bool) => (bif x6 then ((D.cubiclelaw13_awake fu ).bind (fun (x10 : Bool) => (some x10))) else ((D.cubiclelaw09_Laid fu (⟨3, 2, 7, 0, 1, 9⟩ : Plan)).bind (fun (x18 : Mem) => ((D.mem_Memory_Cap fu x18 0).bind (fun (x30 : Cap) => ((D.prog_Run_Res fu (fu, (D.check_New (fu + 1) (⟨(⟨3, 2, 7, 0, 1, 9⟩ : Plan), 0, 0⟩ : Seat))) x18 x30 99).bind (fun (x32 : Res × Int × Bool × Mem) => ((D.mem_Memory_Cap fu x32.2.2.2 0).bind (fun (x44 : Cap) => ((D.prog_Run_Res fu (fu, (D.check_Write (⟨(⟨3, 2, 7, 0, 1, 9⟩ : Plan), 0, 0⟩ : Seat) x32.1.v a0 a1)) x32.2.2.2 x44 99).bind (fun (x46 : Res × Int × Bool × Mem) => ((D.mem_Memory_Cap fu x46.2.2.2 0).bind (fun (x52 : Cap) => ((D.prog_Run_Res fu (fu, (D.check_Read (⟨(⟨3, 2, 7, 0, 1, 9⟩ : Plan), 0, 1⟩ : Seat) x32.1.v a0)) x46.2.2.2 x52 99).bind (fun (x54 : Res × Int × Bool × Mem) => ((D.mem_Memory_Cap fu x54.2.2.2 0).bind (fun (x66 : Cap) => ((D.prog_Run_Res fu (fu, (D.check_Swap (⟨(⟨3, 2, 7, 0, 1, 9⟩ : Plan), 0, 1⟩ : Seat) x32.1.v a0 a1 a2)) x54.2.2.2 x66 99).bind (fun (x68 : Res × Int × Bool × Mem) => ((D.mem_Memory_Cap fu x68.2.2.2 0).bind (fun (x80 : Cap) => ((D.prog_Run_Res fu (fu, (D.check_Read (⟨(⟨3, 2, 7, 0, 1, 9⟩ : Plan), 0, 0⟩ : Seat) x32.1.v a0)) x68.2.2.2 x80 99).bind (fun (x82 : Res × Int × Bool × Mem) => ((D.mem_Memory_Cap fu x82.2.2.2 0).bind (fun (x94 : Cap) => ((D.prog_Run_Res fu (fu, (D.check_Write (⟨(⟨3, 2, 7, 0, 1, 9⟩ : Plan), 1, 0⟩ : Seat) x32.1.v a0 1)) x82.2.2.2 x94 99).bind (fun (x96 : Res × Int × Bool × Mem) => (Option.bind (bif (x54.1 == (⟨0, a1⟩ : Res)) then (bif (x68.1 == (⟨0, 1⟩ : Res)) then (bif (x82.1 == (⟨0, a2⟩ : Res)) then (some (x96.1 == (⟨3, 0⟩ : Res))) else (some false)) else (some false)) else (some false)) (fun (x108 : Bool) => (some x108))))))))))))))))))))))))))))))))

theorem c_cubiclelaw13_CheckTwo {fu : Nat} (w0 : World) (a0 : Int) (a1 : Int) (a2 : Int) {res : Bool} (hD : D.cubiclelaw13_CheckTwo fu a0 a1 a2 = some res) :
    Calls Tryz.prog 3 #[.int .i64 a0, .int .u64 a1, .int .u64 a2] w0 (PureRes (.bool res) w0) := by
 refine enter Tryz.func3 rfl 143 rfl rfl fun fr r => ?_
 have hP : Post No [] w0 w0 := Post.nil w0
 unfold D.cubiclelaw13_CheckTwo at hD
 refine wsr ?_
 refine seq_val (.bool false) r (fun R => y_assign r rfl) rfl fun fr r => ?_
 refine wn ?_
 refine wp_seq ?_
 refine wp_seq ?_
 refine wp_joinG (N := 143) (Y := Bool) (G := Unit) (fun x γ => [(0, (I a0)), (1, (U a1)), (2, (U a2)), (6, (.bool false)), (36, (.bool x))]) (fun x γ w => Post No [] w0 w) hD ?_ ?_
 ·
  rintro y1 RPy1 nxy1 hD
  refine wp_region_lit ?_
  obtain ⟨x2, hx2, hD⟩ := bindD_elim hD
  refine seq_call r (c_cubiclelaw13_awake w0  hx2) (fun R hc => y_call r rfl cl27 hc) rfl ?_
  rintro _ w3 ⟨rfl, hb⟩
  refine ⟨_, rfl, fun fr r => ?_⟩
  have hP : Post No [] w0 w3 := hP.below hb
  refine seq_val (.bool (!x2)) r (fun R => y_un r (u := (.bool x2)) rfl rfl) rfl fun fr r => ?_
  refine seq_val (.bool (!x2)) r (fun R => y_move r rfl) rfl fun fr r => ?_
  refine seq_split (!x2) (fun h4 => ?_) (fun h4 => ?_)
  ·
   have hD := (cond_t h4).symm.trans hD
   refine s0 r h4 fun fr r => ?_
   refine s0 r h4 fun fr r => ?_
   refine seq_val (.bool true) r (fun R => y_pick r (b := true) (congrArg Value.bool h4) rfl) rfl fun fr r => ?_
   refine seq_val (.bool true) r (fun R => y_move r rfl) rfl fun fr r => ?_
   refine s0 r (rfl : true = _) fun fr r => ?_
   refine s0 r (rfl : true = _) fun fr r => ?_
   refine seq_val (.bool true) r (fun R => y_pick r (b := true) (congrArg Value.bool (rfl : true = _)) rfl) rfl fun fr r => ?_
   refine wn ?_
   exact nxy1 true () _ _ _ hD r (hs_cons rfl (hs_cons rfl (hs_cons rfl (hs_cons rfl (hs_cons rfl hs_nil))))) (hP.pick [] rfl rfl)
  ·
   have hD := (cond_f h4).symm.trans hD
   refine s1 r h4 ?_
   refine seq_val (I a0) r (fun R => y_move r rfl) rfl fun fr r => ?_
   refine s1 r h4 ?_
   refine seq_val _ r (fun R => y_bin r rfl rfl rfl rfl) rfl fun fr r => ?_
   refine seq_val (.bool (decide (a0 < 0))) r (fun R => y_pick r (b := false) (congrArg Value.bool h4) rfl) rfl fun fr r => ?_
   refine seq_val (.bool (decide (a0 < 0))) r (fun R => y_move r rfl) rfl fun fr r => ?_
   refine seq_split (decide (a0 < 0)) (fun h5 => ?_) (fun h5 => ?_)
   ·
    have hD := (cond_t h5).symm.trans hD
    refine s0 r h5 fun fr r => ?_
    refine s0 r h5 fun fr r => ?_
    refine seq_val (.bool true) r (fun R => y_pick r (b := true) (congrArg Value.bool h5) rfl) rfl fun fr r => ?_
    refine wn ?_
    exact nxy1 true () _ _ _ hD r (hs_cons rfl (hs_cons rfl (hs_cons rfl (hs_cons rfl (hs_cons rfl hs_nil))))) (hP.pick [] rfl rfl)
   ·
    have hD := (cond_f h5).symm.trans hD
    refine s1 r h5 ?_
    refine seq_val (I a0) r (fun R => y_move r rfl) rfl fun fr r => ?_
    refine s1 r h5 ?_
    refine seq_val _ r (fun R => y_bin r rfl rfl rfl rfl) rfl fun fr r => ?_
    refine seq_val (.bool (decide (a0 > 2))) r (fun R => y_pick r (b := false) (congrArg Value.bool h5) rfl) rfl fun fr r => ?_
    refine wn ?_
    exact nxy1 (decide (a0 > 2)) () _ _ _ hD r (hs_cons rfl (hs_cons rfl (hs_cons rfl (hs_cons rfl (hs_cons rfl hs_nil))))) (hP.pick [] rfl rfl)
 ·
  rintro x6 γ7 fr w8 g r hP hD
  have hP : Post No [] w0 w8 := hP
  refine wp_cond_split (t := x6) (r.ev rfl) (fun h9 => ?_) (fun h9 => ?_)
  ·
   have hD := (cond_t h9).symm.trans hD
   refine wsr ?_
   obtain ⟨x10, hx10, hD⟩ := bindD_elim hD
   refine seq_call r (c_cubiclelaw13_awake w8  hx10) (fun R hc => y_call r rfl cl27 hc) rfl ?_
   rintro _ w11 ⟨rfl, hb⟩
   refine ⟨_, rfl, fun fr r => ?_⟩
   have hP : Post No [] w0 w11 := hP.below hb
   refine seq_val (.bool x10) r (fun R => y_assign r rfl) rfl fun fr r => ?_
   refine wn ?_
   refine wp_ret ?_
   have hv : x10 = res := Option.some.inj hD
   try dsimp only [Exit.then, Exit.inBlock]
   refine ret_tmp (fn := Tryz.f3) r (t := 6) rfl (v := (.bool x10)) rfl ?_
   subst hv
   exact ⟨rfl, hP.chg.below⟩
  ·
   have hD := (cond_f h9).symm.trans hD
   refine wp_skip ?_
   refine wsr ?_
   refine seq_val (.agg (planC (⟨3, 2, 7, 0, 1, 9⟩ : Plan)).toArray) r (fun R => y_build r (by kernel_rfl)) rfl fun fr r => ?_
   refine seq_new (.cells ((planC (⟨0, 0, 0, 0, 0, 0⟩ : Plan))).toArray 25 (0, 0)) r (fun R => y_alloc tz25) rfl fun fr b12 w13 n14 r => ?_
   have hP : Post No [cellC b12 ((planC (⟨0, 0, 0, 0, 0, 0⟩ : Plan))).toArray 25] w0 w13 := hP.new n14
   refine seq_upd (.cells ((planC (⟨3, 2, 7, 0, 1, 9⟩ : Plan))).toArray 25 (0, 0)) r (fun R => y_store r (o := 0) (v := (.agg (planC (⟨3, 2, 7, 0, 1, 9⟩ : Plan)).toArray)) rfl rfl (hP.cell (i := 0) rfl) ts25 (Nat.le_of_ble_eq_true rfl) rfl rfl) rfl fun fr w16 u17 r => ?_
   have hP : Post No [cellC b12 ((planC (⟨3, 2, 7, 0, 1, 9⟩ : Plan))).toArray 25] w0 w16 := hP.upd (i := 0) rfl u17
   refine wn ?_
   refine wsr ?_
   refine seq_val (.agg (planC (⟨3, 2, 7, 0, 1, 9⟩ : Plan)).toArray) r (fun R => y_load_agg r (cs := (planC (⟨3, 2, 7, 0, 1, 9⟩ : Plan))) (n := 6) rfl (hP.cell (i := 0) rfl) ta25 rfl) rfl fun fr r => ?_
   obtain ⟨x18, hx18, hD⟩ := bindD_elim hD
   refine seq_call r (c_cubiclelaw09_Laid w16 (⟨3, 2, 7, 0, 1, 9⟩ : Plan) hx18) (fun R hc => y_call r rfl cl28 hc) rfl ?_
   rintro _ w19 ⟨mg20, rfl, hq⟩
   refine ⟨_, rfl, fun fr r => ?_⟩
   have hP : Post No [cellC b12 ((planC (⟨3, 2, 7, 0, 1, 9⟩ : Plan))).toArray 25, memK mg20 x18] w0 w19 := hP.add hq
   refine seq_val (.pointer (some ⟨mg20.mb, 0, none⟩)) r (fun R => y_assign r rfl) rfl fun fr r => ?_
   refine wn ?_
   refine wp_seq ?_
   refine wsr ?_
   refine seq_val (.pointer (some ⟨mg20.mb, 0, none⟩)) r (fun R => y_move r rfl) rfl fun fr r => ?_
   refine seq_val _ r (fun R => y_bin r rfl rfl rfl rfl) rfl fun fr r => ?_
   refine wn ?_
   refine wp_cond_split (t := false) (r.ev rfl) (fun h => absurd ((rfl : false = _).symm.trans h) (by decide)) (fun _ => ?_)
   refine wp_skip ?_
   refine wp_seq ?_
   refine wp_freeF [.val (.agg (planC (⟨3, 2, 7, 0, 1, 9⟩ : Plan)).toArray), .val (.agg (seatC (⟨(⟨3, 2, 7, 0, 1, 9⟩ : Plan), 0, 0⟩ : Seat)).toArray), .val (.agg (planC (⟨3, 2, 7, 0, 1, 9⟩ : Plan)).toArray), .val (.agg (seatC (⟨(⟨3, 2, 7, 0, 1, 9⟩ : Plan), 0, 1⟩ : Seat)).toArray), .val (.agg (planC (⟨3, 2, 7, 0, 1, 9⟩ : Plan)).toArray), .val (.agg (seatC (⟨(⟨3, 2, 7, 0, 1, 9⟩ : Plan), 1, 0⟩ : Seat)).toArray), .cell 29 8, .cell 29 8, .cell 29 8, .stored 6 ((seatC (⟨(⟨3, 2, 7, 0, 1, 9⟩ : Plan), 0, 0⟩ : Seat))).toArray 29 8 rfl, .stored 7 ((seatC (⟨(⟨3, 2, 7, 0, 1, 9⟩ : Plan), 0, 1⟩ : Seat))).toArray 29 8 rfl, .stored 8 ((seatC (⟨(⟨3, 2, 7, 0, 1, 9⟩ : Plan), 1, 0⟩ : Seat))).toArray 29 8 rfl] mixed r (by kernel_rfl) ?_ ?_
   ·
    refine fc r (fun fr1 g w' hb' hd r' => y_load_agg r' (cs := (planC (⟨3, 2, 7, 0, 1, 9⟩ : Plan))) (n := 6) rfl ((hP.below (dr hb')).cell (i := 0) rfl) ta25 rfl bz) ?_
    refine fc r (fun fr1 g w' hb' hd r' => y_build r' (v := (.agg (seatC (⟨(⟨3, 2, 7, 0, 1, 9⟩ : Plan), 0, 0⟩ : Seat)).toArray)) (bs1 (congrArg (fun z => (0, z)) (hd 0 rfl).1) (by kernel_rfl)) bz) ?_
    refine fc r (fun fr1 g w' hb' hd r' => y_load_agg r' (cs := (planC (⟨3, 2, 7, 0, 1, 9⟩ : Plan))) (n := 6) rfl ((hP.below (dr hb')).cell (i := 0) rfl) ta25 rfl bz) ?_
    refine fc r (fun fr1 g w' hb' hd r' => y_build r' (v := (.agg (seatC (⟨(⟨3, 2, 7, 0, 1, 9⟩ : Plan), 0, 1⟩ : Seat)).toArray)) (bs2 (congrArg (fun z => (0, z)) (hd 2 rfl).1) (rfl) (by kernel_rfl)) bz) ?_
    refine fc r (fun fr1 g w' hb' hd r' => y_load_agg r' (cs := (planC (⟨3, 2, 7, 0, 1, 9⟩ : Plan))) (n := 6) rfl ((hP.below (dr hb')).cell (i := 0) rfl) ta25 rfl bz) ?_
    refine fc r (fun fr1 g w' hb' hd r' => y_build r' (v := (.agg (seatC (⟨(⟨3, 2, 7, 0, 1, 9⟩ : Plan), 1, 0⟩ : Seat)).toArray)) (bs2 (congrArg (fun z => (0, z)) (hd 4 rfl).1) (rfl) (by kernel_rfl)) bz) ?_
    refine fc r (fun fr1 g w' hb' hd r' => y_alloc tz29 (fun b w2 n2 => ⟨n2.below, b, rfl, n2.eq, _, n2.at_, rfl⟩)) ?_
    refine fc r (fun fr1 g w' hb' hd r' => y_alloc tz29 (fun b w2 n2 => ⟨n2.below, b, rfl, n2.eq, _, n2.at_, rfl⟩)) ?_
    refine fc r (fun fr1 g w' hb' hd r' => y_alloc tz29 (fun b w2 n2 => ⟨n2.below, b, rfl, n2.eq, _, n2.at_, rfl⟩)) ?_
    refine eachF_cons r rfl (fun fr1 g w' hb' hd r' => ?_) ?_
    · obtain ⟨hp, _, c, hc, hn⟩ := (hd 6 rfl).1; exact y_store r' (o := 0) (c := c) (v := (.agg (seatC (⟨(⟨3, 2, 7, 0, 1, 9⟩ : Plan), 0, 0⟩ : Seat)).toArray)) hp (hd 1 rfl).1 hc ts29 (by rw [hn]; exact Nat.le_of_ble_eq_true rfl) rfl (over2_full (hn.trans rfl)) (fun w2 u2 => ⟨u2, rfl⟩)
    refine eachF_cons r rfl (fun fr1 g w' hb' hd r' => ?_) ?_
    · obtain ⟨hp, _, c, hc, hn⟩ := (hd 7 rfl).1; exact y_store r' (o := 0) (c := c) (v := (.agg (seatC (⟨(⟨3, 2, 7, 0, 1, 9⟩ : Plan), 0, 1⟩ : Seat)).toArray)) hp (hd 3 rfl).1 hc ts29 (by rw [hn]; exact Nat.le_of_ble_eq_true rfl) rfl (over2_full (hn.trans rfl)) (fun w2 u2 => ⟨u2, rfl⟩)
    refine eachF_cons r rfl (fun fr1 g w' hb' hd r' => ?_) ?_
    · obtain ⟨hp, _, c, hc, hn⟩ := (hd 8 rfl).1; exact y_store r' (o := 0) (c := c) (v := (.agg (seatC (⟨(⟨3, 2, 7, 0, 1, 9⟩ : Plan), 1, 0⟩ : Seat)).toArray)) hp (hd 5 rfl).1 hc ts29 (by rw [hn]; exact Nat.le_of_ble_eq_true rfl) rfl (over2_full (hn.trans rfl)) (fun w2 u2 => ⟨u2, rfl⟩)
    exact eachF_nil
   ·
    intro fr gg w25 hb hΦ hap r
    obtain ⟨b22, ee_b22⟩ : ∃ b, b = (gg 6).lo := ⟨_, rfl⟩
    have g6 : (gg 6).v = (.pointer (some ⟨b22, 0, none⟩)) := by rw [ee_b22]; exact (hΦ 6 rfl).1.1
    have h_b22 : w25.heap[b22]? = some (.cells ((seatC (⟨(⟨3, 2, 7, 0, 1, 9⟩ : Plan), 0, 0⟩ : Seat))).toArray 29 (0, 0)) := by rw [ee_b22]; exact (hΦ 9 rfl).1.2
    have hs6 : Fresh [cellC b22 ((seatC (⟨(⟨3, 2, 7, 0, 1, 9⟩ : Plan), 0, 0⟩ : Seat))).toArray 29] (gg 6).lo (gg 6).hi w25 := by subst ee_b22; exact Fresh.cell (hΦ 6 rfl).1.2.1 h_b22
    obtain ⟨b23, ee_b23⟩ : ∃ b, b = (gg 7).lo := ⟨_, rfl⟩
    have g7 : (gg 7).v = (.pointer (some ⟨b23, 0, none⟩)) := by rw [ee_b23]; exact (hΦ 7 rfl).1.1
    have h_b23 : w25.heap[b23]? = some (.cells ((seatC (⟨(⟨3, 2, 7, 0, 1, 9⟩ : Plan), 0, 1⟩ : Seat))).toArray 29 (0, 0)) := by rw [ee_b23]; exact (hΦ 10 rfl).1.2
    have hs7 : Fresh [cellC b23 ((seatC (⟨(⟨3, 2, 7, 0, 1, 9⟩ : Plan), 0, 1⟩ : Seat))).toArray 29] (gg 7).lo (gg 7).hi w25 := by subst ee_b23; exact Fresh.cell (hΦ 7 rfl).1.2.1 h_b23
    obtain ⟨b24, ee_b24⟩ : ∃ b, b = (gg 8).lo := ⟨_, rfl⟩
    have g8 : (gg 8).v = (.pointer (some ⟨b24, 0, none⟩)) := by rw [ee_b24]; exact (hΦ 8 rfl).1.1
    have h_b24 : w25.heap[b24]? = some (.cells ((seatC (⟨(⟨3, 2, 7, 0, 1, 9⟩ : Plan), 1, 0⟩ : Seat))).toArray 29 (0, 0)) := by rw [ee_b24]; exact (hΦ 11 rfl).1.2
    have hs8 : Fresh [cellC b24 ((seatC (⟨(⟨3, 2, 7, 0, 1, 9⟩ : Plan), 1, 0⟩ : Seat))).toArray 29] (gg 8).lo (gg 8).hi w25 := by subst ee_b24; exact Fresh.cell (hΦ 8 rfl).1.2.1 h_b24
    have r := r.congr (sc g8 (sc g7 (sc g6 (sc ((hΦ 5 rfl).1) (sc ((hΦ 4 rfl).1) (sc ((hΦ 3 rfl).1) (sc ((hΦ 2 rfl).1) (sc ((hΦ 1 rfl).1) (sc ((hΦ 0 rfl).1) rfl)))))))))
    have hP : Post No [cellC b12 ((planC (⟨3, 2, 7, 0, 1, 9⟩ : Plan))).toArray 25, memK mg20 x18, cellC b22 ((seatC (⟨(⟨3, 2, 7, 0, 1, 9⟩ : Plan), 0, 0⟩ : Seat))).toArray 29, cellC b23 ((seatC (⟨(⟨3, 2, 7, 0, 1, 9⟩ : Plan), 0, 1⟩ : Seat))).toArray 29, cellC b24 ((seatC (⟨(⟨3, 2, 7, 0, 1, 9⟩ : Plan), 1, 0⟩ : Seat))).toArray 29] w0 w25 := hP.addL (l := [([cellC b22 ((seatC (⟨(⟨3, 2, 7, 0, 1, 9⟩ : Plan), 0, 0⟩ : Seat))).toArray 29], (gg 6).lo, (gg 6).hi), ([cellC b23 ((seatC (⟨(⟨3, 2, 7, 0, 1, 9⟩ : Plan), 0, 1⟩ : Seat))).toArray 29], (gg 7).lo, (gg 7).hi), ([cellC b24 ((seatC (⟨(⟨3, 2, 7, 0, 1, 9⟩ : Plan), 1, 0⟩ : Seat))).toArray 29], (gg 8).lo, (gg 8).hi)]) hb ⟨hs6, (hΦ 6 rfl).2.1, (disj_cons (hap 6 7 rfl) (disj_cons (hap 6 8 rfl) disj_nil)), ⟨hs7, (hΦ 7 rfl).2.1, (disj_cons (hap 7 8 rfl) disj_nil), ⟨hs8, (hΦ 8 rfl).2.1, disj_nil, trivial⟩⟩⟩
    refine wsr ?_
    refine seq_val (.agg (seatC (⟨(⟨3, 2, 7, 0, 1, 9⟩ : Plan), 0, 0⟩ : Seat)).toArray) r (fun R => y_load_agg r (cs := (seatC (⟨(⟨3, 2, 7, 0, 1, 9⟩ : Plan), 0, 0⟩ : Seat))) (n := 8) rfl (hP.cell (i := 2) rfl) ta29 rfl) rfl fun fr r => ?_
    refine seq_call r (c_check_New (F := No) (n := fu) (j := fu + 1) (fun _ h => h.elim) (by omega) (⟨(⟨3, 2, 7, 0, 1, 9⟩ : Plan), 0, 0⟩ : Seat)) (fun R hc => y_call r rfl cl30 hc) rfl ?_
    rintro _ w26 ⟨v27, rfl, hb, hr28⟩
    refine ⟨_, rfl, fun fr r => ?_⟩
    have hP : Post No [cellC b12 ((planC (⟨3, 2, 7, 0, 1, 9⟩ : Plan))).toArray 25, memK mg20 x18, cellC b22 ((seatC (⟨(⟨3, 2, 7, 0, 1, 9⟩ : Plan), 0, 0⟩ : Seat))).toArray 29, cellC b23 ((seatC (⟨(⟨3, 2, 7, 0, 1, 9⟩ : Plan), 0, 1⟩ : Seat))).toArray 29, cellC b24 ((seatC (⟨(⟨3, 2, 7, 0, 1, 9⟩ : Plan), 1, 0⟩ : Seat))).toArray 29, progK Tryz.prog encRes (fu, (D.check_New (fu + 1) (⟨(⟨3, 2, 7, 0, 1, 9⟩ : Plan), 0, 0⟩ : Seat))) v27 (rg w25.heap.size w26.heap.size)] w0 w26 := hP.addProg hb hr28
    refine seq_val (.pointer (some ⟨mg20.mb, 0, none⟩)) r (fun R => y_move r rfl) rfl fun fr r => ?_
    refine seq_val (.pointer (some ⟨mg20.mb, 0, none⟩)) r (fun R => y_move r rfl) rfl fun fr r => ?_
    obtain ⟨x30, hx30, hD⟩ := bindD_elim hD
    refine seq_call r (c_mem_Memory_Cap w26 x18 (hP.mem (i := 1) rfl) 0 hx30) (fun R hc => y_call r rfl cl31 hc) rfl ?_
    rintro _ w31 ⟨rfl, hb⟩
    refine ⟨_, rfl, fun fr r => ?_⟩
    have hP : Post No [cellC b12 ((planC (⟨3, 2, 7, 0, 1, 9⟩ : Plan))).toArray 25, memK mg20 x18, cellC b22 ((seatC (⟨(⟨3, 2, 7, 0, 1, 9⟩ : Plan), 0, 0⟩ : Seat))).toArray 29, cellC b23 ((seatC (⟨(⟨3, 2, 7, 0, 1, 9⟩ : Plan), 0, 1⟩ : Seat))).toArray 29, cellC b24 ((seatC (⟨(⟨3, 2, 7, 0, 1, 9⟩ : Plan), 1, 0⟩ : Seat))).toArray 29, progK Tryz.prog encRes (fu, (D.check_New (fu + 1) (⟨(⟨3, 2, 7, 0, 1, 9⟩ : Plan), 0, 0⟩ : Seat))) v27 (rg w25.heap.size w26.heap.size)] w0 w31 := hP.below hb
    obtain ⟨x32, hx32, hD⟩ := bindD_elim hD
    refine seq_call r (c_prog_Run_Res w31 (fu, (D.check_New (fu + 1) (⟨(⟨3, 2, 7, 0, 1, 9⟩ : Plan), 0, 0⟩ : Seat))) x18 x30 99 (hP.sep.pk [5, 1] rfl rfl) hx32) (fun R hc => y_call r rfl cl29 hc) rfl ?_
    rintro _ w33 ⟨rfl, hq⟩
    refine ⟨_, rfl, fun fr r => ?_⟩
    have hP : Post No [cellC b12 ((planC (⟨3, 2, 7, 0, 1, 9⟩ : Plan))).toArray 25, memK mg20 x32.2.2.2, cellC b22 ((seatC (⟨(⟨3, 2, 7, 0, 1, 9⟩ : Plan), 0, 0⟩ : Seat))).toArray 29, cellC b23 ((seatC (⟨(⟨3, 2, 7, 0, 1, 9⟩ : Plan), 0, 1⟩ : Seat))).toArray 29, cellC b24 ((seatC (⟨(⟨3, 2, 7, 0, 1, 9⟩ : Plan), 1, 0⟩ : Seat))).toArray 29, progK Tryz.prog encRes (fu, (D.check_New (fu + 1) (⟨(⟨3, 2, 7, 0, 1, 9⟩ : Plan), 0, 0⟩ : Seat))) v27 (rg w25.heap.size w26.heap.size)] w0 w33 := hP.setN (i := 1) rfl hq
    refine seq_val (.tuple #[(.agg (resC x32.1).toArray), (I x32.2.1), (.bool x32.2.2.1)]) r (fun R => y_move r rfl) rfl fun fr r => ?_
    refine seq_val (.agg (resC x32.1).toArray) r (fun R => y_extract r (vs := #[(.agg (resC x32.1).toArray), (I x32.2.1), (.bool x32.2.2.1)]) rfl rfl) rfl fun fr r => ?_
    refine seq_val (I x32.2.1) r (fun R => y_extract r (vs := #[(.agg (resC x32.1).toArray), (I x32.2.1), (.bool x32.2.2.1)]) rfl rfl) rfl fun fr r => ?_
    refine seq_val (.bool x32.2.2.1) r (fun R => y_extract r (vs := #[(.agg (resC x32.1).toArray), (I x32.2.1), (.bool x32.2.2.1)]) rfl rfl) rfl fun fr r => ?_
    refine seq_new (.cells ((resC (⟨0, 0⟩ : Res))).toArray 32 (0, 0)) r (fun R => y_alloc tz32) rfl fun fr b34 w35 n36 r => ?_
    have hP : Post No [cellC b12 ((planC (⟨3, 2, 7, 0, 1, 9⟩ : Plan))).toArray 25, memK mg20 x32.2.2.2, cellC b22 ((seatC (⟨(⟨3, 2, 7, 0, 1, 9⟩ : Plan), 0, 0⟩ : Seat))).toArray 29, cellC b23 ((seatC (⟨(⟨3, 2, 7, 0, 1, 9⟩ : Plan), 0, 1⟩ : Seat))).toArray 29, cellC b24 ((seatC (⟨(⟨3, 2, 7, 0, 1, 9⟩ : Plan), 1, 0⟩ : Seat))).toArray 29, progK Tryz.prog encRes (fu, (D.check_New (fu + 1) (⟨(⟨3, 2, 7, 0, 1, 9⟩ : Plan), 0, 0⟩ : Seat))) v27 (rg w25.heap.size w26.heap.size), cellC b34 ((resC (⟨0, 0⟩ : Res))).toArray 32] w0 w35 := hP.new n36
    refine seq_upd (.cells ((resC x32.1)).toArray 32 (0, 0)) r (fun R => y_store r (o := 0) (v := (.agg (resC x32.1).toArray)) rfl rfl (hP.cell (i := 6) rfl) ts32 (Nat.le_of_ble_eq_true rfl) rfl rfl) rfl fun fr w38 u39 r => ?_
    have hP : Post No [cellC b12 ((planC (⟨3, 2, 7, 0, 1, 9⟩ : Plan))).toArray 25, memK mg20 x32.2.2.2, cellC b22 ((seatC (⟨(⟨3, 2, 7, 0, 1, 9⟩ : Plan), 0, 0⟩ : Seat))).toArray 29, cellC b23 ((seatC (⟨(⟨3, 2, 7, 0, 1, 9⟩ : Plan), 0, 1⟩ : Seat))).toArray 29, cellC b24 ((seatC (⟨(⟨3, 2, 7, 0, 1, 9⟩ : Plan), 1, 0⟩ : Seat))).toArray 29, progK Tryz.prog encRes (fu, (D.check_New (fu + 1) (⟨(⟨3, 2, 7, 0, 1, 9⟩ : Plan), 0, 0⟩ : Seat))) v27 (rg w25.heap.size w26.heap.size), cellC b34 ((resC x32.1)).toArray 32] w0 w38 := hP.upd (i := 6) rfl u39
    refine seq_val (I x32.2.1) r (fun R => y_assign r rfl) rfl fun fr r => ?_
    refine seq_val (.bool x32.2.2.1) r (fun R => y_assign r rfl) rfl fun fr r => ?_
    refine wn ?_
    refine wsr ?_
    refine seq_val (.agg (seatC (⟨(⟨3, 2, 7, 0, 1, 9⟩ : Plan), 0, 0⟩ : Seat)).toArray) r (fun R => y_load_agg r (cs := (seatC (⟨(⟨3, 2, 7, 0, 1, 9⟩ : Plan), 0, 0⟩ : Seat))) (n := 8) rfl (hP.cell (i := 2) rfl) ta29 rfl) rfl fun fr r => ?_
    refine seq_val _ r (fun R => y_fieldAddr r (o := 0) rfl fo32_1) rfl fun fr r => ?_
    refine seq_val (U x32.1.v) r (fun R => y_load_one r rfl (hP.cell (i := 6) rfl) to22 rfl) rfl fun fr r => ?_
    refine seq_val (I a0) r (fun R => y_move r rfl) rfl fun fr r => ?_
    refine seq_val (U a1) r (fun R => y_move r rfl) rfl fun fr r => ?_
    refine seq_call r (c_check_Write (F := No) (n := fu) (fun _ h => h.elim) (⟨(⟨3, 2, 7, 0, 1, 9⟩ : Plan), 0, 0⟩ : Seat) x32.1.v a0 a1) (fun R hc => y_call r rfl cl32 hc) rfl ?_
    rintro _ w40 ⟨v41, rfl, hb, hr42⟩
    refine ⟨_, rfl, fun fr r => ?_⟩
    have hP : Post No [cellC b12 ((planC (⟨3, 2, 7, 0, 1, 9⟩ : Plan))).toArray 25, memK mg20 x32.2.2.2, cellC b22 ((seatC (⟨(⟨3, 2, 7, 0, 1, 9⟩ : Plan), 0, 0⟩ : Seat))).toArray 29, cellC b23 ((seatC (⟨(⟨3, 2, 7, 0, 1, 9⟩ : Plan), 0, 1⟩ : Seat))).toArray 29, cellC b24 ((seatC (⟨(⟨3, 2, 7, 0, 1, 9⟩ : Plan), 1, 0⟩ : Seat))).toArray 29, progK Tryz.prog encRes (fu, (D.check_New (fu + 1) (⟨(⟨3, 2, 7, 0, 1, 9⟩ : Plan), 0, 0⟩ : Seat))) v27 (rg w25.heap.size w26.heap.size), cellC b34 ((resC x32.1)).toArray 32, progK Tryz.prog encRes (fu, (D.check_Write (⟨(⟨3, 2, 7, 0, 1, 9⟩ : Plan), 0, 0⟩ : Seat) x32.1.v a0 a1)) v41 (rg w38.heap.size w40.heap.size)] w0 w40 := hP.addProg hb hr42
    refine seq_val (.pointer (some ⟨mg20.mb, 0, none⟩)) r (fun R => y_move r rfl) rfl fun fr r => ?_
    refine seq_val (.pointer (some ⟨mg20.mb, 0, none⟩)) r (fun R => y_move r rfl) rfl fun fr r => ?_
    obtain ⟨x44, hx44, hD⟩ := bindD_elim hD
    refine seq_call r (c_mem_Memory_Cap w40 x32.2.2.2 (hP.mem (i := 1) rfl) 0 hx44) (fun R hc => y_call r rfl cl31 hc) rfl ?_
    rintro _ w45 ⟨rfl, hb⟩
    refine ⟨_, rfl, fun fr r => ?_⟩
    have hP : Post No [cellC b12 ((planC (⟨3, 2, 7, 0, 1, 9⟩ : Plan))).toArray 25, memK mg20 x32.2.2.2, cellC b22 ((seatC (⟨(⟨3, 2, 7, 0, 1, 9⟩ : Plan), 0, 0⟩ : Seat))).toArray 29, cellC b23 ((seatC (⟨(⟨3, 2, 7, 0, 1, 9⟩ : Plan), 0, 1⟩ : Seat))).toArray 29, cellC b24 ((seatC (⟨(⟨3, 2, 7, 0, 1, 9⟩ : Plan), 1, 0⟩ : Seat))).toArray 29, progK Tryz.prog encRes (fu, (D.check_New (fu + 1) (⟨(⟨3, 2, 7, 0, 1, 9⟩ : Plan), 0, 0⟩ : Seat))) v27 (rg w25.heap.size w26.heap.size), cellC b34 ((resC x32.1)).toArray 32, progK Tryz.prog encRes (fu, (D.check_Write (⟨(⟨3, 2, 7, 0, 1, 9⟩ : Plan), 0, 0⟩ : Seat) x32.1.v a0 a1)) v41 (rg w38.heap.size w40.heap.size)] w0 w45 := hP.below hb
    obtain ⟨x46, hx46, hD⟩ := bindD_elim hD
    refine seq_call r (c_prog_Run_Res w45 (fu, (D.check_Write (⟨(⟨3, 2, 7, 0, 1, 9⟩ : Plan), 0, 0⟩ : Seat) x32.1.v a0 a1)) x32.2.2.2 x44 99 (hP.sep.pk [7, 1] rfl rfl) hx46) (fun R hc => y_call r rfl cl29 hc) rfl ?_
    rintro _ w47 ⟨rfl, hq⟩
    refine ⟨_, rfl, fun fr r => ?_⟩
    have hP : Post No [cellC b12 ((planC (⟨3, 2, 7, 0, 1, 9⟩ : Plan))).toArray 25, memK mg20 x46.2.2.2, cellC b22 ((seatC (⟨(⟨3, 2, 7, 0, 1, 9⟩ : Plan), 0, 0⟩ : Seat))).toArray 29, cellC b23 ((seatC (⟨(⟨3, 2, 7, 0, 1, 9⟩ : Plan), 0, 1⟩ : Seat))).toArray 29, cellC b24 ((seatC (⟨(⟨3, 2, 7, 0, 1, 9⟩ : Plan), 1, 0⟩ : Seat))).toArray 29, progK Tryz.prog encRes (fu, (D.check_New (fu + 1) (⟨(⟨3, 2, 7, 0, 1, 9⟩ : Plan), 0, 0⟩ : Seat))) v27 (rg w25.heap.size w26.heap.size), cellC b34 ((resC x32.1)).toArray 32, progK Tryz.prog encRes (fu, (D.check_Write (⟨(⟨3, 2, 7, 0, 1, 9⟩ : Plan), 0, 0⟩ : Seat) x32.1.v a0 a1)) v41 (rg w38.heap.size w40.heap.size)] w0 w47 := hP.setN (i := 1) rfl hq
    refine wn ?_
    refine wsr ?_
    refine seq_val (.agg (seatC (⟨(⟨3, 2, 7, 0, 1, 9⟩ : Plan), 0, 1⟩ : Seat)).toArray) r (fun R => y_load_agg r (cs := (seatC (⟨(⟨3, 2, 7, 0, 1, 9⟩ : Plan), 0, 1⟩ : Seat))) (n := 8) rfl (hP.cell (i := 3) rfl) ta29 rfl) rfl fun fr r => ?_
    refine seq_val _ r (fun R => y_fieldAddr r (o := 0) rfl fo32_1) rfl fun fr r => ?_
    refine seq_val (U x32.1.v) r (fun R => y_load_one r rfl (hP.cell (i := 6) rfl) to22 rfl) rfl fun fr r => ?_
    refine seq_val (I a0) r (fun R => y_move r rfl) rfl fun fr r => ?_
    refine seq_call r (c_check_Read (F := No) (n := fu) (fun _ h => h.elim) (⟨(⟨3, 2, 7, 0, 1, 9⟩ : Plan), 0, 1⟩ : Seat) x32.1.v a0) (fun R hc => y_call r rfl cl33 hc) rfl ?_
    rintro _ w48 ⟨v49, rfl, hb, hr50⟩
    refine ⟨_, rfl, fun fr r => ?_⟩
    have hP : Post No [cellC b12 ((planC (⟨3, 2, 7, 0, 1, 9⟩ : Plan))).toArray 25, memK mg20 x46.2.2.2, cellC b22 ((seatC (⟨(⟨3, 2, 7, 0, 1, 9⟩ : Plan), 0, 0⟩ : Seat))).toArray 29, cellC b23 ((seatC (⟨(⟨3, 2, 7, 0, 1, 9⟩ : Plan), 0, 1⟩ : Seat))).toArray 29, cellC b24 ((seatC (⟨(⟨3, 2, 7, 0, 1, 9⟩ : Plan), 1, 0⟩ : Seat))).toArray 29, progK Tryz.prog encRes (fu, (D.check_New (fu + 1) (⟨(⟨3, 2, 7, 0, 1, 9⟩ : Plan), 0, 0⟩ : Seat))) v27 (rg w25.heap.size w26.heap.size), cellC b34 ((resC x32.1)).toArray 32, progK Tryz.prog encRes (fu, (D.check_Write (⟨(⟨3, 2, 7, 0, 1, 9⟩ : Plan), 0, 0⟩ : Seat) x32.1.v a0 a1)) v41 (rg w38.heap.size w40.heap.size), progK Tryz.prog encRes (fu, (D.check_Read (⟨(⟨3, 2, 7, 0, 1, 9⟩ : Plan), 0, 1⟩ : Seat) x32.1.v a0)) v49 (rg w47.heap.size w48.heap.size)] w0 w48 := hP.addProg hb hr50
    refine seq_val (.pointer (some ⟨mg20.mb, 0, none⟩)) r (fun R => y_move r rfl) rfl fun fr r => ?_
    refine seq_val (.pointer (some ⟨mg20.mb, 0, none⟩)) r (fun R => y_move r rfl) rfl fun fr r => ?_
    obtain ⟨x52, hx52, hD⟩ := bindD_elim hD
    refine seq_call r (c_mem_Memory_Cap w48 x46.2.2.2 (hP.mem (i := 1) rfl) 0 hx52) (fun R hc => y_call r rfl cl31 hc) rfl ?_
    rintro _ w53 ⟨rfl, hb⟩
    refine ⟨_, rfl, fun fr r => ?_⟩
    have hP : Post No [cellC b12 ((planC (⟨3, 2, 7, 0, 1, 9⟩ : Plan))).toArray 25, memK mg20 x46.2.2.2, cellC b22 ((seatC (⟨(⟨3, 2, 7, 0, 1, 9⟩ : Plan), 0, 0⟩ : Seat))).toArray 29, cellC b23 ((seatC (⟨(⟨3, 2, 7, 0, 1, 9⟩ : Plan), 0, 1⟩ : Seat))).toArray 29, cellC b24 ((seatC (⟨(⟨3, 2, 7, 0, 1, 9⟩ : Plan), 1, 0⟩ : Seat))).toArray 29, progK Tryz.prog encRes (fu, (D.check_New (fu + 1) (⟨(⟨3, 2, 7, 0, 1, 9⟩ : Plan), 0, 0⟩ : Seat))) v27 (rg w25.heap.size w26.heap.size), cellC b34 ((resC x32.1)).toArray 32, progK Tryz.prog encRes (fu, (D.check_Write (⟨(⟨3, 2, 7, 0, 1, 9⟩ : Plan), 0, 0⟩ : Seat) x32.1.v a0 a1)) v41 (rg w38.heap.size w40.heap.size), progK Tryz.prog encRes (fu, (D.check_Read (⟨(⟨3, 2, 7, 0, 1, 9⟩ : Plan), 0, 1⟩ : Seat) x32.1.v a0)) v49 (rg w47.heap.size w48.heap.size)] w0 w53 := hP.below hb
    obtain ⟨x54, hx54, hD⟩ := bindD_elim hD
    refine seq_call r (c_prog_Run_Res w53 (fu, (D.check_Read (⟨(⟨3, 2, 7, 0, 1, 9⟩ : Plan), 0, 1⟩ : Seat) x32.1.v a0)) x46.2.2.2 x52 99 (hP.sep.pk [8, 1] rfl rfl) hx54) (fun R hc => y_call r rfl cl29 hc) rfl ?_
    rintro _ w55 ⟨rfl, hq⟩
    refine ⟨_, rfl, fun fr r => ?_⟩
    have hP : Post No [cellC b12 ((planC (⟨3, 2, 7, 0, 1, 9⟩ : Plan))).toArray 25, memK mg20 x54.2.2.2, cellC b22 ((seatC (⟨(⟨3, 2, 7, 0, 1, 9⟩ : Plan), 0, 0⟩ : Seat))).toArray 29, cellC b23 ((seatC (⟨(⟨3, 2, 7, 0, 1, 9⟩ : Plan), 0, 1⟩ : Seat))).toArray 29, cellC b24 ((seatC (⟨(⟨3, 2, 7, 0, 1, 9⟩ : Plan), 1, 0⟩ : Seat))).toArray 29, progK Tryz.prog encRes (fu, (D.check_New (fu + 1) (⟨(⟨3, 2, 7, 0, 1, 9⟩ : Plan), 0, 0⟩ : Seat))) v27 (rg w25.heap.size w26.heap.size), cellC b34 ((resC x32.1)).toArray 32, progK Tryz.prog encRes (fu, (D.check_Write (⟨(⟨3, 2, 7, 0, 1, 9⟩ : Plan), 0, 0⟩ : Seat) x32.1.v a0 a1)) v41 (rg w38.heap.size w40.heap.size), progK Tryz.prog encRes (fu, (D.check_Read (⟨(⟨3, 2, 7, 0, 1, 9⟩ : Plan), 0, 1⟩ : Seat) x32.1.v a0)) v49 (rg w47.heap.size w48.heap.size)] w0 w55 := hP.setN (i := 1) rfl hq
    refine seq_val (.tuple #[(.agg (resC x54.1).toArray), (I x54.2.1), (.bool x54.2.2.1)]) r (fun R => y_move r rfl) rfl fun fr r => ?_
    refine seq_val (.agg (resC x54.1).toArray) r (fun R => y_extract r (vs := #[(.agg (resC x54.1).toArray), (I x54.2.1), (.bool x54.2.2.1)]) rfl rfl) rfl fun fr r => ?_
    refine seq_val (I x54.2.1) r (fun R => y_extract r (vs := #[(.agg (resC x54.1).toArray), (I x54.2.1), (.bool x54.2.2.1)]) rfl rfl) rfl fun fr r => ?_
    refine seq_val (.bool x54.2.2.1) r (fun R => y_extract r (vs := #[(.agg (resC x54.1).toArray), (I x54.2.1), (.bool x54.2.2.1)]) rfl rfl) rfl fun fr r => ?_
    refine seq_new (.cells ((resC (⟨0, 0⟩ : Res))).toArray 32 (0, 0)) r (fun R => y_alloc tz32) rfl fun fr b56 w57 n58 r => ?_
    have hP : Post No [cellC b12 ((planC (⟨3, 2, 7, 0, 1, 9⟩ : Plan))).toArray 25, memK mg20 x54.2.2.2, cellC b22 ((seatC (⟨(⟨3, 2, 7, 0, 1, 9⟩ : Plan), 0, 0⟩ : Seat))).toArray 29, cellC b23 ((seatC (⟨(⟨3, 2, 7, 0, 1, 9⟩ : Plan), 0, 1⟩ : Seat))).toArray 29, cellC b24 ((seatC (⟨(⟨3, 2, 7, 0, 1, 9⟩ : Plan), 1, 0⟩ : Seat))).toArray 29, progK Tryz.prog encRes (fu, (D.check_New (fu + 1) (⟨(⟨3, 2, 7, 0, 1, 9⟩ : Plan), 0, 0⟩ : Seat))) v27 (rg w25.heap.size w26.heap.size), cellC b34 ((resC x32.1)).toArray 32, progK Tryz.prog encRes (fu, (D.check_Write (⟨(⟨3, 2, 7, 0, 1, 9⟩ : Plan), 0, 0⟩ : Seat) x32.1.v a0 a1)) v41 (rg w38.heap.size w40.heap.size), progK Tryz.prog encRes (fu, (D.check_Read (⟨(⟨3, 2, 7, 0, 1, 9⟩ : Plan), 0, 1⟩ : Seat) x32.1.v a0)) v49 (rg w47.heap.size w48.heap.size), cellC b56 ((resC (⟨0, 0⟩ : Res))).toArray 32] w0 w57 := hP.new n58
    refine seq_upd (.cells ((resC x54.1)).toArray 32 (0, 0)) r (fun R => y_store r (o := 0) (v := (.agg (resC x54.1).toArray)) rfl rfl (hP.cell (i := 9) rfl) ts32 (Nat.le_of_ble_eq_true rfl) rfl rfl) rfl fun fr w60 u61 r => ?_
    have hP : Post No [cellC b12 ((planC (⟨3, 2, 7, 0, 1, 9⟩ : Plan))).toArray 25, memK mg20 x54.2.2.2, cellC b22 ((seatC (⟨(⟨3, 2, 7, 0, 1, 9⟩ : Plan), 0, 0⟩ : Seat))).toArray 29, cellC b23 ((seatC (⟨(⟨3, 2, 7, 0, 1, 9⟩ : Plan), 0, 1⟩ : Seat))).toArray 29, cellC b24 ((seatC (⟨(⟨3, 2, 7, 0, 1, 9⟩ : Plan), 1, 0⟩ : Seat))).toArray 29, progK Tryz.prog encRes (fu, (D.check_New (fu + 1) (⟨(⟨3, 2, 7, 0, 1, 9⟩ : Plan), 0, 0⟩ : Seat))) v27 (rg w25.heap.size w26.heap.size), cellC b34 ((resC x32.1)).toArray 32, progK Tryz.prog encRes (fu, (D.check_Write (⟨(⟨3, 2, 7, 0, 1, 9⟩ : Plan), 0, 0⟩ : Seat) x32.1.v a0 a1)) v41 (rg w38.heap.size w40.heap.size), progK Tryz.prog encRes (fu, (D.check_Read (⟨(⟨3, 2, 7, 0, 1, 9⟩ : Plan), 0, 1⟩ : Seat) x32.1.v a0)) v49 (rg w47.heap.size w48.heap.size), cellC b56 ((resC x54.1)).toArray 32] w0 w60 := hP.upd (i := 9) rfl u61
    refine seq_val (I x54.2.1) r (fun R => y_assign r rfl) rfl fun fr r => ?_
    refine seq_val (.bool x54.2.2.1) r (fun R => y_assign r rfl) rfl fun fr r => ?_
    refine wn ?_
    refine wsr ?_
    refine seq_val (.agg (seatC (⟨(⟨3, 2, 7, 0, 1, 9⟩ : Plan), 0, 1⟩ : Seat)).toArray) r (fun R => y_load_agg r (cs := (seatC (⟨(⟨3, 2, 7, 0, 1, 9⟩ : Plan), 0, 1⟩ : Seat))) (n := 8) rfl (hP.cell (i := 3) rfl) ta29 rfl) rfl fun fr r => ?_
    refine seq_val _ r (fun R => y_fieldAddr r (o := 0) rfl fo32_1) rfl fun fr r => ?_
    refine seq_val (U x32.1.v) r (fun R => y_load_one r rfl (hP.cell (i := 6) rfl) to22 rfl) rfl fun fr r => ?_
    refine seq_val (I a0) r (fun R => y_move r rfl) rfl fun fr r => ?_
    refine seq_val (U a1) r (fun R => y_move r rfl) rfl fun fr r => ?_
    refine seq_val (U a2) r (fun R => y_move r rfl) rfl fun fr r => ?_
    refine seq_call r (c_check_Swap (F := No) (n := fu) (fun _ h => h.elim) (⟨(⟨3, 2, 7, 0, 1, 9⟩ : Plan), 0, 1⟩ : Seat) x32.1.v a0 a1 a2) (fun R hc => y_call r rfl cl34 hc) rfl ?_
    rintro _ w62 ⟨v63, rfl, hb, hr64⟩
    refine ⟨_, rfl, fun fr r => ?_⟩
    have hP : Post No [cellC b12 ((planC (⟨3, 2, 7, 0, 1, 9⟩ : Plan))).toArray 25, memK mg20 x54.2.2.2, cellC b22 ((seatC (⟨(⟨3, 2, 7, 0, 1, 9⟩ : Plan), 0, 0⟩ : Seat))).toArray 29, cellC b23 ((seatC (⟨(⟨3, 2, 7, 0, 1, 9⟩ : Plan), 0, 1⟩ : Seat))).toArray 29, cellC b24 ((seatC (⟨(⟨3, 2, 7, 0, 1, 9⟩ : Plan), 1, 0⟩ : Seat))).toArray 29, progK Tryz.prog encRes (fu, (D.check_New (fu + 1) (⟨(⟨3, 2, 7, 0, 1, 9⟩ : Plan), 0, 0⟩ : Seat))) v27 (rg w25.heap.size w26.heap.size), cellC b34 ((resC x32.1)).toArray 32, progK Tryz.prog encRes (fu, (D.check_Write (⟨(⟨3, 2, 7, 0, 1, 9⟩ : Plan), 0, 0⟩ : Seat) x32.1.v a0 a1)) v41 (rg w38.heap.size w40.heap.size), progK Tryz.prog encRes (fu, (D.check_Read (⟨(⟨3, 2, 7, 0, 1, 9⟩ : Plan), 0, 1⟩ : Seat) x32.1.v a0)) v49 (rg w47.heap.size w48.heap.size), cellC b56 ((resC x54.1)).toArray 32, progK Tryz.prog encRes (fu, (D.check_Swap (⟨(⟨3, 2, 7, 0, 1, 9⟩ : Plan), 0, 1⟩ : Seat) x32.1.v a0 a1 a2)) v63 (rg w60.heap.size w62.heap.size)] w0 w62 := hP.addProg hb hr64
    refine seq_val (.pointer (some ⟨mg20.mb, 0, none⟩)) r (fun R => y_move r rfl) rfl fun fr r => ?_
    refine seq_val (.pointer (some ⟨mg20.mb, 0, none⟩)) r (fun R => y_move r rfl) rfl fun fr r => ?_
    obtain ⟨x66, hx66, hD⟩ := bindD_elim hD
    refine seq_call r (c_mem_Memory_Cap w62 x54.2.2.2 (hP.mem (i := 1) rfl) 0 hx66) (fun R hc => y_call r rfl cl31 hc) rfl ?_
    rintro _ w67 ⟨rfl, hb⟩
    refine ⟨_, rfl, fun fr r => ?_⟩
    have hP : Post No [cellC b12 ((planC (⟨3, 2, 7, 0, 1, 9⟩ : Plan))).toArray 25, memK mg20 x54.2.2.2, cellC b22 ((seatC (⟨(⟨3, 2, 7, 0, 1, 9⟩ : Plan), 0, 0⟩ : Seat))).toArray 29, cellC b23 ((seatC (⟨(⟨3, 2, 7, 0, 1, 9⟩ : Plan), 0, 1⟩ : Seat))).toArray 29, cellC b24 ((seatC (⟨(⟨3, 2, 7, 0, 1, 9⟩ : Plan), 1, 0⟩ : Seat))).toArray 29, progK Tryz.prog encRes (fu, (D.check_New (fu + 1) (⟨(⟨3, 2, 7, 0, 1, 9⟩ : Plan), 0, 0⟩ : Seat))) v27 (rg w25.heap.size w26.heap.size), cellC b34 ((resC x32.1)).toArray 32, progK Tryz.prog encRes (fu, (D.check_Write (⟨(⟨3, 2, 7, 0, 1, 9⟩ : Plan), 0, 0⟩ : Seat) x32.1.v a0 a1)) v41 (rg w38.heap.size w40.heap.size), progK Tryz.prog encRes (fu, (D.check_Read (⟨(⟨3, 2, 7, 0, 1, 9⟩ : Plan), 0, 1⟩ : Seat) x32.1.v a0)) v49 (rg w47.heap.size w48.heap.size), cellC b56 ((resC x54.1)).toArray 32, progK Tryz.prog encRes (fu, (D.check_Swap (⟨(⟨3, 2, 7, 0, 1, 9⟩ : Plan), 0, 1⟩ : Seat) x32.1.v a0 a1 a2)) v63 (rg w60.heap.size w62.heap.size)] w0 w67 := hP.below hb
    obtain ⟨x68, hx68, hD⟩ := bindD_elim hD
    refine seq_call r (c_prog_Run_Res w67 (fu, (D.check_Swap (⟨(⟨3, 2, 7, 0, 1, 9⟩ : Plan), 0, 1⟩ : Seat) x32.1.v a0 a1 a2)) x54.2.2.2 x66 99 (hP.sep.pk [10, 1] rfl rfl) hx68) (fun R hc => y_call r rfl cl29 hc) rfl ?_
    rintro _ w69 ⟨rfl, hq⟩
    refine ⟨_, rfl, fun fr r => ?_⟩
    have hP : Post No [cellC b12 ((planC (⟨3, 2, 7, 0, 1, 9⟩ : Plan))).toArray 25, memK mg20 x68.2.2.2, cellC b22 ((seatC (⟨(⟨3, 2, 7, 0, 1, 9⟩ : Plan), 0, 0⟩ : Seat))).toArray 29, cellC b23 ((seatC (⟨(⟨3, 2, 7, 0, 1, 9⟩ : Plan), 0, 1⟩ : Seat))).toArray 29, cellC b24 ((seatC (⟨(⟨3, 2, 7, 0, 1, 9⟩ : Plan), 1, 0⟩ : Seat))).toArray 29, progK Tryz.prog encRes (fu, (D.check_New (fu + 1) (⟨(⟨3, 2, 7, 0, 1, 9⟩ : Plan), 0, 0⟩ : Seat))) v27 (rg w25.heap.size w26.heap.size), cellC b34 ((resC x32.1)).toArray 32, progK Tryz.prog encRes (fu, (D.check_Write (⟨(⟨3, 2, 7, 0, 1, 9⟩ : Plan), 0, 0⟩ : Seat) x32.1.v a0 a1)) v41 (rg w38.heap.size w40.heap.size), progK Tryz.prog encRes (fu, (D.check_Read (⟨(⟨3, 2, 7, 0, 1, 9⟩ : Plan), 0, 1⟩ : Seat) x32.1.v a0)) v49 (rg w47.heap.size w48.heap.size), cellC b56 ((resC x54.1)).toArray 32, progK Tryz.prog encRes (fu, (D.check_Swap (⟨(⟨3, 2, 7, 0, 1, 9⟩ : Plan), 0, 1⟩ : Seat) x32.1.v a0 a1 a2)) v63 (rg w60.heap.size w62.heap.size)] w0 w69 := hP.setN (i := 1) rfl hq
    refine seq_val (.tuple #[(.agg (resC x68.1).toArray), (I x68.2.1), (.bool x68.2.2.1)]) r (fun R => y_move r rfl) rfl fun fr r => ?_
    refine seq_val (.agg (resC x68.1).toArray) r (fun R => y_extract r (vs := #[(.agg (resC x68.1).toArray), (I x68.2.1), (.bool x68.2.2.1)]) rfl rfl) rfl fun fr r => ?_
    refine seq_val (I x68.2.1) r (fun R => y_extract r (vs := #[(.agg (resC x68.1).toArray), (I x68.2.1), (.bool x68.2.2.1)]) rfl rfl) rfl fun fr r => ?_
    refine seq_val (.bool x68.2.2.1) r (fun R => y_extract r (vs := #[(.agg (resC x68.1).toArray), (I x68.2.1), (.bool x68.2.2.1)]) rfl rfl) rfl fun fr r => ?_
    refine seq_new (.cells ((resC (⟨0, 0⟩ : Res))).toArray 32 (0, 0)) r (fun R => y_alloc tz32) rfl fun fr b70 w71 n72 r => ?_
    have hP : Post No [cellC b12 ((planC (⟨3, 2, 7, 0, 1, 9⟩ : Plan))).toArray 25, memK mg20 x68.2.2.2, cellC b22 ((seatC (⟨(⟨3, 2, 7, 0, 1, 9⟩ : Plan), 0, 0⟩ : Seat))).toArray 29, cellC b23 ((seatC (⟨(⟨3, 2, 7, 0, 1, 9⟩ : Plan), 0, 1⟩ : Seat))).toArray 29, cellC b24 ((seatC (⟨(⟨3, 2, 7, 0, 1, 9⟩ : Plan), 1, 0⟩ : Seat))).toArray 29, progK Tryz.prog encRes (fu, (D.check_New (fu + 1) (⟨(⟨3, 2, 7, 0, 1, 9⟩ : Plan), 0, 0⟩ : Seat))) v27 (rg w25.heap.size w26.heap.size), cellC b34 ((resC x32.1)).toArray 32, progK Tryz.prog encRes (fu, (D.check_Write (⟨(⟨3, 2, 7, 0, 1, 9⟩ : Plan), 0, 0⟩ : Seat) x32.1.v a0 a1)) v41 (rg w38.heap.size w40.heap.size), progK Tryz.prog encRes (fu, (D.check_Read (⟨(⟨3, 2, 7, 0, 1, 9⟩ : Plan), 0, 1⟩ : Seat) x32.1.v a0)) v49 (rg w47.heap.size w48.heap.size), cellC b56 ((resC x54.1)).toArray 32, progK Tryz.prog encRes (fu, (D.check_Swap (⟨(⟨3, 2, 7, 0, 1, 9⟩ : Plan), 0, 1⟩ : Seat) x32.1.v a0 a1 a2)) v63 (rg w60.heap.size w62.heap.size), cellC b70 ((resC (⟨0, 0⟩ : Res))).toArray 32] w0 w71 := hP.new n72
    refine seq_upd (.cells ((resC x68.1)).toArray 32 (0, 0)) r (fun R => y_store r (o := 0) (v := (.agg (resC x68.1).toArray)) rfl rfl (hP.cell (i := 11) rfl) ts32 (Nat.le_of_ble_eq_true rfl) rfl rfl) rfl fun fr w74 u75 r => ?_
    have hP : Post No [cellC b12 ((planC (⟨3, 2, 7, 0, 1, 9⟩ : Plan))).toArray 25, memK mg20 x68.2.2.2, cellC b22 ((seatC (⟨(⟨3, 2, 7, 0, 1, 9⟩ : Plan), 0, 0⟩ : Seat))).toArray 29, cellC b23 ((seatC (⟨(⟨3, 2, 7, 0, 1, 9⟩ : Plan), 0, 1⟩ : Seat))).toArray 29, cellC b24 ((seatC (⟨(⟨3, 2, 7, 0, 1, 9⟩ : Plan), 1, 0⟩ : Seat))).toArray 29, progK Tryz.prog encRes (fu, (D.check_New (fu + 1) (⟨(⟨3, 2, 7, 0, 1, 9⟩ : Plan), 0, 0⟩ : Seat))) v27 (rg w25.heap.size w26.heap.size), cellC b34 ((resC x32.1)).toArray 32, progK Tryz.prog encRes (fu, (D.check_Write (⟨(⟨3, 2, 7, 0, 1, 9⟩ : Plan), 0, 0⟩ : Seat) x32.1.v a0 a1)) v41 (rg w38.heap.size w40.heap.size), progK Tryz.prog encRes (fu, (D.check_Read (⟨(⟨3, 2, 7, 0, 1, 9⟩ : Plan), 0, 1⟩ : Seat) x32.1.v a0)) v49 (rg w47.heap.size w48.heap.size), cellC b56 ((resC x54.1)).toArray 32, progK Tryz.prog encRes (fu, (D.check_Swap (⟨(⟨3, 2, 7, 0, 1, 9⟩ : Plan), 0, 1⟩ : Seat) x32.1.v a0 a1 a2)) v63 (rg w60.heap.size w62.heap.size), cellC b70 ((resC x68.1)).toArray 32] w0 w74 := hP.upd (i := 11) rfl u75
    refine seq_val (I x68.2.1) r (fun R => y_assign r rfl) rfl fun fr r => ?_
    refine seq_val (.bool x68.2.2.1) r (fun R => y_assign r rfl) rfl fun fr r => ?_
    refine wn ?_
    refine wsr ?_
    refine seq_val (.agg (seatC (⟨(⟨3, 2, 7, 0, 1, 9⟩ : Plan), 0, 0⟩ : Seat)).toArray) r (fun R => y_load_agg r (cs := (seatC (⟨(⟨3, 2, 7, 0, 1, 9⟩ : Plan), 0, 0⟩ : Seat))) (n := 8) rfl (hP.cell (i := 2) rfl) ta29 rfl) rfl fun fr r => ?_
    refine seq_val _ r (fun R => y_fieldAddr r (o := 0) rfl fo32_1) rfl fun fr r => ?_
    refine seq_val (U x32.1.v) r (fun R => y_load_one r rfl (hP.cell (i := 6) rfl) to22 rfl) rfl fun fr r => ?_
    refine seq_val (I a0) r (fun R => y_move r rfl) rfl fun fr r => ?_
    refine seq_call r (c_check_Read (F := No) (n := fu) (fun _ h => h.elim) (⟨(⟨3, 2, 7, 0, 1, 9⟩ : Plan), 0, 0⟩ : Seat) x32.1.v a0) (fun R hc => y_call r rfl cl33 hc) rfl ?_
    rintro _ w76 ⟨v77, rfl, hb, hr78⟩
    refine ⟨_, rfl, fun fr r => ?_⟩
    have hP : Post No [cellC b12 ((planC (⟨3, 2, 7, 0, 1, 9⟩ : Plan))).toArray 25, memK mg20 x68.2.2.2, cellC b22 ((seatC (⟨(⟨3, 2, 7, 0, 1, 9⟩ : Plan), 0, 0⟩ : Seat))).toArray 29, cellC b23 ((seatC (⟨(⟨3, 2, 7, 0, 1, 9⟩ : Plan), 0, 1⟩ : Seat))).toArray 29, cellC b24 ((seatC (⟨(⟨3, 2, 7, 0, 1, 9⟩ : Plan), 1, 0⟩ : Seat))).toArray 29, progK Tryz.prog encRes (fu, (D.check_New (fu + 1) (⟨(⟨3, 2, 7, 0, 1, 9⟩ : Plan), 0, 0⟩ : Seat))) v27 (rg w25.heap.size w26.heap.size), cellC b34 ((resC x32.1)).toArray 32, progK Tryz.prog encRes (fu, (D.check_Write (⟨(⟨3, 2, 7, 0, 1, 9⟩ : Plan), 0, 0⟩ : Seat) x32.1.v a0 a1)) v41 (rg w38.heap.size w40.heap.size), progK Tryz.prog encRes (fu, (D.check_Read (⟨(⟨3, 2, 7, 0, 1, 9⟩ : Plan), 0, 1⟩ : Seat) x32.1.v a0)) v49 (rg w47.heap.size w48.heap.size), cellC b56 ((resC x54.1)).toArray 32, progK Tryz.prog encRes (fu, (D.check_Swap (⟨(⟨3, 2, 7, 0, 1, 9⟩ : Plan), 0, 1⟩ : Seat) x32.1.v a0 a1 a2)) v63 (rg w60.heap.size w62.heap.size), cellC b70 ((resC x68.1)).toArray 32, progK Tryz.prog encRes (fu, (D.check_Read (⟨(⟨3, 2, 7, 0, 1, 9⟩ : Plan), 0, 0⟩ : Seat) x32.1.v a0)) v77 (rg w74.heap.size w76.heap.size)] w0 w76 := hP.addProg hb hr78
    refine seq_val (.pointer (some ⟨mg20.mb, 0, none⟩)) r (fun R => y_move r rfl) rfl fun fr r => ?_
    refine seq_val (.pointer (some ⟨mg20.mb, 0, none⟩)) r (fun R => y_move r rfl) rfl fun fr r => ?_
    obtain ⟨x80, hx80, hD⟩ := bindD_elim hD
    refine seq_call r (c_mem_Memory_Cap w76 x68.2.2.2 (hP.mem (i := 1) rfl) 0 hx80) (fun R hc => y_call r rfl cl31 hc) rfl ?_
    rintro _ w81 ⟨rfl, hb⟩
    refine ⟨_, rfl, fun fr r => ?_⟩
    have hP : Post No [cellC b12 ((planC (⟨3, 2, 7, 0, 1, 9⟩ : Plan))).toArray 25, memK mg20 x68.2.2.2, cellC b22 ((seatC (⟨(⟨3, 2, 7, 0, 1, 9⟩ : Plan), 0, 0⟩ : Seat))).toArray 29, cellC b23 ((seatC (⟨(⟨3, 2, 7, 0, 1, 9⟩ : Plan), 0, 1⟩ : Seat))).toArray 29, cellC b24 ((seatC (⟨(⟨3, 2, 7, 0, 1, 9⟩ : Plan), 1, 0⟩ : Seat))).toArray 29, progK Tryz.prog encRes (fu, (D.check_New (fu + 1) (⟨(⟨3, 2, 7, 0, 1, 9⟩ : Plan), 0, 0⟩ : Seat))) v27 (rg w25.heap.size w26.heap.size), cellC b34 ((resC x32.1)).toArray 32, progK Tryz.prog encRes (fu, (D.check_Write (⟨(⟨3, 2, 7, 0, 1, 9⟩ : Plan), 0, 0⟩ : Seat) x32.1.v a0 a1)) v41 (rg w38.heap.size w40.heap.size), progK Tryz.prog encRes (fu, (D.check_Read (⟨(⟨3, 2, 7, 0, 1, 9⟩ : Plan), 0, 1⟩ : Seat) x32.1.v a0)) v49 (rg w47.heap.size w48.heap.size), cellC b56 ((resC x54.1)).toArray 32, progK Tryz.prog encRes (fu, (D.check_Swap (⟨(⟨3, 2, 7, 0, 1, 9⟩ : Plan), 0, 1⟩ : Seat) x32.1.v a0 a1 a2)) v63 (rg w60.heap.size w62.heap.size), cellC b70 ((resC x68.1)).toArray 32, progK Tryz.prog encRes (fu, (D.check_Read (⟨(⟨3, 2, 7, 0, 1, 9⟩ : Plan), 0, 0⟩ : Seat) x32.1.v a0)) v77 (rg w74.heap.size w76.heap.size)] w0 w81 := hP.below hb
    obtain ⟨x82, hx82, hD⟩ := bindD_elim hD
    refine seq_call r (c_prog_Run_Res w81 (fu, (D.check_Read (⟨(⟨3, 2, 7, 0, 1, 9⟩ : Plan), 0, 0⟩ : Seat) x32.1.v a0)) x68.2.2.2 x80 99 (hP.sep.pk [12, 1] rfl rfl) hx82) (fun R hc => y_call r rfl cl29 hc) rfl ?_
    rintro _ w83 ⟨rfl, hq⟩
    refine ⟨_, rfl, fun fr r => ?_⟩
    have hP : Post No [cellC b12 ((planC (⟨3, 2, 7, 0, 1, 9⟩ : Plan))).toArray 25, memK mg20 x82.2.2.2, cellC b22 ((seatC (⟨(⟨3, 2, 7, 0, 1, 9⟩ : Plan), 0, 0⟩ : Seat))).toArray 29, cellC b23 ((seatC (⟨(⟨3, 2, 7, 0, 1, 9⟩ : Plan), 0, 1⟩ : Seat))).toArray 29, cellC b24 ((seatC (⟨(⟨3, 2, 7, 0, 1, 9⟩ : Plan), 1, 0⟩ : Seat))).toArray 29, progK Tryz.prog encRes (fu, (D.check_New (fu + 1) (⟨(⟨3, 2, 7, 0, 1, 9⟩ : Plan), 0, 0⟩ : Seat))) v27 (rg w25.heap.size w26.heap.size), cellC b34 ((resC x32.1)).toArray 32, progK Tryz.prog encRes (fu, (D.check_Write (⟨(⟨3, 2, 7, 0, 1, 9⟩ : Plan), 0, 0⟩ : Seat) x32.1.v a0 a1)) v41 (rg w38.heap.size w40.heap.size), progK Tryz.prog encRes (fu, (D.check_Read (⟨(⟨3, 2, 7, 0, 1, 9⟩ : Plan), 0, 1⟩ : Seat) x32.1.v a0)) v49 (rg w47.heap.size w48.heap.size), cellC b56 ((resC x54.1)).toArray 32, progK Tryz.prog encRes (fu, (D.check_Swap (⟨(⟨3, 2, 7, 0, 1, 9⟩ : Plan), 0, 1⟩ : Seat) x32.1.v a0 a1 a2)) v63 (rg w60.heap.size w62.heap.size), cellC b70 ((resC x68.1)).toArray 32, progK Tryz.prog encRes (fu, (D.check_Read (⟨(⟨3, 2, 7, 0, 1, 9⟩ : Plan), 0, 0⟩ : Seat) x32.1.v a0)) v77 (rg w74.heap.size w76.heap.size)] w0 w83 := hP.setN (i := 1) rfl hq
    refine seq_val (.tuple #[(.agg (resC x82.1).toArray), (I x82.2.1), (.bool x82.2.2.1)]) r (fun R => y_move r rfl) rfl fun fr r => ?_
    refine seq_val (.agg (resC x82.1).toArray) r (fun R => y_extract r (vs := #[(.agg (resC x82.1).toArray), (I x82.2.1), (.bool x82.2.2.1)]) rfl rfl) rfl fun fr r => ?_
    refine seq_val (I x82.2.1) r (fun R => y_extract r (vs := #[(.agg (resC x82.1).toArray), (I x82.2.1), (.bool x82.2.2.1)]) rfl rfl) rfl fun fr r => ?_
    refine seq_val (.bool x82.2.2.1) r (fun R => y_extract r (vs := #[(.agg (resC x82.1).toArray), (I x82.2.1), (.bool x82.2.2.1)]) rfl rfl) rfl fun fr r => ?_
    refine seq_new (.cells ((resC (⟨0, 0⟩ : Res))).toArray 32 (0, 0)) r (fun R => y_alloc tz32) rfl fun fr b84 w85 n86 r => ?_
    have hP : Post No [cellC b12 ((planC (⟨3, 2, 7, 0, 1, 9⟩ : Plan))).toArray 25, memK mg20 x82.2.2.2, cellC b22 ((seatC (⟨(⟨3, 2, 7, 0, 1, 9⟩ : Plan), 0, 0⟩ : Seat))).toArray 29, cellC b23 ((seatC (⟨(⟨3, 2, 7, 0, 1, 9⟩ : Plan), 0, 1⟩ : Seat))).toArray 29, cellC b24 ((seatC (⟨(⟨3, 2, 7, 0, 1, 9⟩ : Plan), 1, 0⟩ : Seat))).toArray 29, progK Tryz.prog encRes (fu, (D.check_New (fu + 1) (⟨(⟨3, 2, 7, 0, 1, 9⟩ : Plan), 0, 0⟩ : Seat))) v27 (rg w25.heap.size w26.heap.size), cellC b34 ((resC x32.1)).toArray 32, progK Tryz.prog encRes (fu, (D.check_Write (⟨(⟨3, 2, 7, 0, 1, 9⟩ : Plan), 0, 0⟩ : Seat) x32.1.v a0 a1)) v41 (rg w38.heap.size w40.heap.size), progK Tryz.prog encRes (fu, (D.check_Read (⟨(⟨3, 2, 7, 0, 1, 9⟩ : Plan), 0, 1⟩ : Seat) x32.1.v a0)) v49 (rg w47.heap.size w48.heap.size), cellC b56 ((resC x54.1)).toArray 32, progK Tryz.prog encRes (fu, (D.check_Swap (⟨(⟨3, 2, 7, 0, 1, 9⟩ : Plan), 0, 1⟩ : Seat) x32.1.v a0 a1 a2)) v63 (rg w60.heap.size w62.heap.size), cellC b70 ((resC x68.1)).toArray 32, progK Tryz.prog encRes (fu, (D.check_Read (⟨(⟨3, 2, 7, 0, 1, 9⟩ : Plan), 0, 0⟩ : Seat) x32.1.v a0)) v77 (rg w74.heap.size w76.heap.size), cellC b84 ((resC (⟨0, 0⟩ : Res))).toArray 32] w0 w85 := hP.new n86
    refine seq_upd (.cells ((resC x82.1)).toArray 32 (0, 0)) r (fun R => y_store r (o := 0) (v := (.agg (resC x82.1).toArray)) rfl rfl (hP.cell (i := 13) rfl) ts32 (Nat.le_of_ble_eq_true rfl) rfl rfl) rfl fun fr w88 u89 r => ?_
    have hP : Post No [cellC b12 ((planC (⟨3, 2, 7, 0, 1, 9⟩ : Plan))).toArray 25, memK mg20 x82.2.2.2, cellC b22 ((seatC (⟨(⟨3, 2, 7, 0, 1, 9⟩ : Plan), 0, 0⟩ : Seat))).toArray 29, cellC b23 ((seatC (⟨(⟨3, 2, 7, 0, 1, 9⟩ : Plan), 0, 1⟩ : Seat))).toArray 29, cellC b24 ((seatC (⟨(⟨3, 2, 7, 0, 1, 9⟩ : Plan), 1, 0⟩ : Seat))).toArray 29, progK Tryz.prog encRes (fu, (D.check_New (fu + 1) (⟨(⟨3, 2, 7, 0, 1, 9⟩ : Plan), 0, 0⟩ : Seat))) v27 (rg w25.heap.size w26.heap.size), cellC b34 ((resC x32.1)).toArray 32, progK Tryz.prog encRes (fu, (D.check_Write (⟨(⟨3, 2, 7, 0, 1, 9⟩ : Plan), 0, 0⟩ : Seat) x32.1.v a0 a1)) v41 (rg w38.heap.size w40.heap.size), progK Tryz.prog encRes (fu, (D.check_Read (⟨(⟨3, 2, 7, 0, 1, 9⟩ : Plan), 0, 1⟩ : Seat) x32.1.v a0)) v49 (rg w47.heap.size w48.heap.size), cellC b56 ((resC x54.1)).toArray 32, progK Tryz.prog encRes (fu, (D.check_Swap (⟨(⟨3, 2, 7, 0, 1, 9⟩ : Plan), 0, 1⟩ : Seat) x32.1.v a0 a1 a2)) v63 (rg w60.heap.size w62.heap.size), cellC b70 ((resC x68.1)).toArray 32, progK Tryz.prog encRes (fu, (D.check_Read (⟨(⟨3, 2, 7, 0, 1, 9⟩ : Plan), 0, 0⟩ : Seat) x32.1.v a0)) v77 (rg w74.heap.size w76.heap.size), cellC b84 ((resC x82.1)).toArray 32] w0 w88 := hP.upd (i := 13) rfl u89
    refine seq_val (I x82.2.1) r (fun R => y_assign r rfl) rfl fun fr r => ?_
    refine seq_val (.bool x82.2.2.1) r (fun R => y_assign r rfl) rfl fun fr r => ?_
    refine wn ?_
    refine wsr ?_
    refine seq_val (.agg (seatC (⟨(⟨3, 2, 7, 0, 1, 9⟩ : Plan), 1, 0⟩ : Seat)).toArray) r (fun R => y_load_agg r (cs := (seatC (⟨(⟨3, 2, 7, 0, 1, 9⟩ : Plan), 1, 0⟩ : Seat))) (n := 8) rfl (hP.cell (i := 4) rfl) ta29 rfl) rfl fun fr r => ?_
    refine seq_val _ r (fun R => y_fieldAddr r (o := 0) rfl fo32_1) rfl fun fr r => ?_
    refine seq_val (U x32.1.v) r (fun R => y_load_one r rfl (hP.cell (i := 6) rfl) to22 rfl) rfl fun fr r => ?_
    refine seq_val (I a0) r (fun R => y_move r rfl) rfl fun fr r => ?_
    refine seq_call r (c_check_Write (F := No) (n := fu) (fun _ h => h.elim) (⟨(⟨3, 2, 7, 0, 1, 9⟩ : Plan), 1, 0⟩ : Seat) x32.1.v a0 1) (fun R hc => y_call r rfl cl32 hc) rfl ?_
    rintro _ w90 ⟨v91, rfl, hb, hr92⟩
    refine ⟨_, rfl, fun fr r => ?_⟩
    have hP : Post No [cellC b12 ((planC (⟨3, 2, 7, 0, 1, 9⟩ : Plan))).toArray 25, memK mg20 x82.2.2.2, cellC b22 ((seatC (⟨(⟨3, 2, 7, 0, 1, 9⟩ : Plan), 0, 0⟩ : Seat))).toArray 29, cellC b23 ((seatC (⟨(⟨3, 2, 7, 0, 1, 9⟩ : Plan), 0, 1⟩ : Seat))).toArray 29, cellC b24 ((seatC (⟨(⟨3, 2, 7, 0, 1, 9⟩ : Plan), 1, 0⟩ : Seat))).toArray 29, progK Tryz.prog encRes (fu, (D.check_New (fu + 1) (⟨(⟨3, 2, 7, 0, 1, 9⟩ : Plan), 0, 0⟩ : Seat))) v27 (rg w25.heap.size w26.heap.size), cellC b34 ((resC x32.1)).toArray 32, progK Tryz.prog encRes (fu, (D.check_Write (⟨(⟨3, 2, 7, 0, 1, 9⟩ : Plan), 0, 0⟩ : Seat) x32.1.v a0 a1)) v41 (rg w38.heap.size w40.heap.size), progK Tryz.prog encRes (fu, (D.check_Read (⟨(⟨3, 2, 7, 0, 1, 9⟩ : Plan), 0, 1⟩ : Seat) x32.1.v a0)) v49 (rg w47.heap.size w48.heap.size), cellC b56 ((resC x54.1)).toArray 32, progK Tryz.prog encRes (fu, (D.check_Swap (⟨(⟨3, 2, 7, 0, 1, 9⟩ : Plan), 0, 1⟩ : Seat) x32.1.v a0 a1 a2)) v63 (rg w60.heap.size w62.heap.size), cellC b70 ((resC x68.1)).toArray 32, progK Tryz.prog encRes (fu, (D.check_Read (⟨(⟨3, 2, 7, 0, 1, 9⟩ : Plan), 0, 0⟩ : Seat) x32.1.v a0)) v77 (rg w74.heap.size w76.heap.size), cellC b84 ((resC x82.1)).toArray 32, progK Tryz.prog encRes (fu, (D.check_Write (⟨(⟨3, 2, 7, 0, 1, 9⟩ : Plan), 1, 0⟩ : Seat) x32.1.v a0 1)) v91 (rg w88.heap.size w90.heap.size)] w0 w90 := hP.addProg hb hr92
    refine seq_val (.pointer (some ⟨mg20.mb, 0, none⟩)) r (fun R => y_move r rfl) rfl fun fr r => ?_
    refine seq_val (.pointer (some ⟨mg20.mb, 0, none⟩)) r (fun R => y_move r rfl) rfl fun fr r => ?_
    obtain ⟨x94, hx94, hD⟩ := bindD_elim hD
    refine seq_call r (c_mem_Memory_Cap w90 x82.2.2.2 (hP.mem (i := 1) rfl) 0 hx94) (fun R hc => y_call r rfl cl31 hc) rfl ?_
    rintro _ w95 ⟨rfl, hb⟩
    refine ⟨_, rfl, fun fr r => ?_⟩
    have hP : Post No [cellC b12 ((planC (⟨3, 2, 7, 0, 1, 9⟩ : Plan))).toArray 25, memK mg20 x82.2.2.2, cellC b22 ((seatC (⟨(⟨3, 2, 7, 0, 1, 9⟩ : Plan), 0, 0⟩ : Seat))).toArray 29, cellC b23 ((seatC (⟨(⟨3, 2, 7, 0, 1, 9⟩ : Plan), 0, 1⟩ : Seat))).toArray 29, cellC b24 ((seatC (⟨(⟨3, 2, 7, 0, 1, 9⟩ : Plan), 1, 0⟩ : Seat))).toArray 29, progK Tryz.prog encRes (fu, (D.check_New (fu + 1) (⟨(⟨3, 2, 7, 0, 1, 9⟩ : Plan), 0, 0⟩ : Seat))) v27 (rg w25.heap.size w26.heap.size), cellC b34 ((resC x32.1)).toArray 32, progK Tryz.prog encRes (fu, (D.check_Write (⟨(⟨3, 2, 7, 0, 1, 9⟩ : Plan), 0, 0⟩ : Seat) x32.1.v a0 a1)) v41 (rg w38.heap.size w40.heap.size), progK Tryz.prog encRes (fu, (D.check_Read (⟨(⟨3, 2, 7, 0, 1, 9⟩ : Plan), 0, 1⟩ : Seat) x32.1.v a0)) v49 (rg w47.heap.size w48.heap.size), cellC b56 ((resC x54.1)).toArray 32, progK Tryz.prog encRes (fu, (D.check_Swap (⟨(⟨3, 2, 7, 0, 1, 9⟩ : Plan), 0, 1⟩ : Seat) x32.1.v a0 a1 a2)) v63 (rg w60.heap.size w62.heap.size), cellC b70 ((resC x68.1)).toArray 32, progK Tryz.prog encRes (fu, (D.check_Read (⟨(⟨3, 2, 7, 0, 1, 9⟩ : Plan), 0, 0⟩ : Seat) x32.1.v a0)) v77 (rg w74.heap.size w76.heap.size), cellC b84 ((resC x82.1)).toArray 32, progK Tryz.prog encRes (fu, (D.check_Write (⟨(⟨3, 2, 7, 0, 1, 9⟩ : Plan), 1, 0⟩ : Seat) x32.1.v a0 1)) v91 (rg w88.heap.size w90.heap.size)] w0 w95 := hP.below hb
    obtain ⟨x96, hx96, hD⟩ := bindD_elim hD
    refine seq_call r (c_prog_Run_Res w95 (fu, (D.check_Write (⟨(⟨3, 2, 7, 0, 1, 9⟩ : Plan), 1, 0⟩ : Seat) x32.1.v a0 1)) x82.2.2.2 x94 99 (hP.sep.pk [14, 1] rfl rfl) hx96) (fun R hc => y_call r rfl cl29 hc) rfl ?_
    rintro _ w97 ⟨rfl, hq⟩
    refine ⟨_, rfl, fun fr r => ?_⟩
    have hP : Post No [cellC b12 ((planC (⟨3, 2, 7, 0, 1, 9⟩ : Plan))).toArray 25, memK mg20 x96.2.2.2, cellC b22 ((seatC (⟨(⟨3, 2, 7, 0, 1, 9⟩ : Plan), 0, 0⟩ : Seat))).toArray 29, cellC b23 ((seatC (⟨(⟨3, 2, 7, 0, 1, 9⟩ : Plan), 0, 1⟩ : Seat))).toArray 29, cellC b24 ((seatC (⟨(⟨3, 2, 7, 0, 1, 9⟩ : Plan), 1, 0⟩ : Seat))).toArray 29, progK Tryz.prog encRes (fu, (D.check_New (fu + 1) (⟨(⟨3, 2, 7, 0, 1, 9⟩ : Plan), 0, 0⟩ : Seat))) v27 (rg w25.heap.size w26.heap.size), cellC b34 ((resC x32.1)).toArray 32, progK Tryz.prog encRes (fu, (D.check_Write (⟨(⟨3, 2, 7, 0, 1, 9⟩ : Plan), 0, 0⟩ : Seat) x32.1.v a0 a1)) v41 (rg w38.heap.size w40.heap.size), progK Tryz.prog encRes (fu, (D.check_Read (⟨(⟨3, 2, 7, 0, 1, 9⟩ : Plan), 0, 1⟩ : Seat) x32.1.v a0)) v49 (rg w47.heap.size w48.heap.size), cellC b56 ((resC x54.1)).toArray 32, progK Tryz.prog encRes (fu, (D.check_Swap (⟨(⟨3, 2, 7, 0, 1, 9⟩ : Plan), 0, 1⟩ : Seat) x32.1.v a0 a1 a2)) v63 (rg w60.heap.size w62.heap.size), cellC b70 ((resC x68.1)).toArray 32, progK Tryz.prog encRes (fu, (D.check_Read (⟨(⟨3, 2, 7, 0, 1, 9⟩ : Plan), 0, 0⟩ : Seat) x32.1.v a0)) v77 (rg w74.heap.size w76.heap.size), cellC b84 ((resC x82.1)).toArray 32, progK Tryz.prog encRes (fu, (D.check_Write (⟨(⟨3, 2, 7, 0, 1, 9⟩ : Plan), 1, 0⟩ : Seat) x32.1.v a0 1)) v91 (rg w88.heap.size w90.heap.size)] w0 w97 := hP.setN (i := 1) rfl hq
    refine seq_val (.tuple #[(.agg (resC x96.1).toArray), (I x96.2.1), (.bool x96.2.2.1)]) r (fun R => y_move r rfl) rfl fun fr r => ?_
    refine seq_val (.agg (resC x96.1).toArray) r (fun R => y_extract r (vs := #[(.agg (resC x96.1).toArray), (I x96.2.1), (.bool x96.2.2.1)]) rfl rfl) rfl fun fr r => ?_
    refine seq_val (I x96.2.1) r (fun R => y_extract r (vs := #[(.agg (resC x96.1).toArray), (I x96.2.1), (.bool x96.2.2.1)]) rfl rfl) rfl fun fr r => ?_
    refine seq_val (.bool x96.2.2.1) r (fun R => y_extract r (vs := #[(.agg (resC x96.1).toArray), (I x96.2.1), (.bool x96.2.2.1)]) rfl rfl) rfl fun fr r => ?_
    refine seq_new (.cells ((resC (⟨0, 0⟩ : Res))).toArray 32 (0, 0)) r (fun R => y_alloc tz32) rfl fun fr b98 w99 n100 r => ?_
    have hP : Post No [cellC b12 ((planC (⟨3, 2, 7, 0, 1, 9⟩ : Plan))).toArray 25, memK mg20 x96.2.2.2, cellC b22 ((seatC (⟨(⟨3, 2, 7, 0, 1, 9⟩ : Plan), 0, 0⟩ : Seat))).toArray 29, cellC b23 ((seatC (⟨(⟨3, 2, 7, 0, 1, 9⟩ : Plan), 0, 1⟩ : Seat))).toArray 29, cellC b24 ((seatC (⟨(⟨3, 2, 7, 0, 1, 9⟩ : Plan), 1, 0⟩ : Seat))).toArray 29, progK Tryz.prog encRes (fu, (D.check_New (fu + 1) (⟨(⟨3, 2, 7, 0, 1, 9⟩ : Plan), 0, 0⟩ : Seat))) v27 (rg w25.heap.size w26.heap.size), cellC b34 ((resC x32.1)).toArray 32, progK Tryz.prog encRes (fu, (D.check_Write (⟨(⟨3, 2, 7, 0, 1, 9⟩ : Plan), 0, 0⟩ : Seat) x32.1.v a0 a1)) v41 (rg w38.heap.size w40.heap.size), progK Tryz.prog encRes (fu, (D.check_Read (⟨(⟨3, 2, 7, 0, 1, 9⟩ : Plan), 0, 1⟩ : Seat) x32.1.v a0)) v49 (rg w47.heap.size w48.heap.size), cellC b56 ((resC x54.1)).toArray 32, progK Tryz.prog encRes (fu, (D.check_Swap (⟨(⟨3, 2, 7, 0, 1, 9⟩ : Plan), 0, 1⟩ : Seat) x32.1.v a0 a1 a2)) v63 (rg w60.heap.size w62.heap.size), cellC b70 ((resC x68.1)).toArray 32, progK Tryz.prog encRes (fu, (D.check_Read (⟨(⟨3, 2, 7, 0, 1, 9⟩ : Plan), 0, 0⟩ : Seat) x32.1.v a0)) v77 (rg w74.heap.size w76.heap.size), cellC b84 ((resC x82.1)).toArray 32, progK Tryz.prog encRes (fu, (D.check_Write (⟨(⟨3, 2, 7, 0, 1, 9⟩ : Plan), 1, 0⟩ : Seat) x32.1.v a0 1)) v91 (rg w88.heap.size w90.heap.size), cellC b98 ((resC (⟨0, 0⟩ : Res))).toArray 32] w0 w99 := hP.new n100
    refine seq_upd (.cells ((resC x96.1)).toArray 32 (0, 0)) r (fun R => y_store r (o := 0) (v := (.agg (resC x96.1).toArray)) rfl rfl (hP.cell (i := 15) rfl) ts32 (Nat.le_of_ble_eq_true rfl) rfl rfl) rfl fun fr w102 u103 r => ?_
    have hP : Post No [cellC b12 ((planC (⟨3, 2, 7, 0, 1, 9⟩ : Plan))).toArray 25, memK mg20 x96.2.2.2, cellC b22 ((seatC (⟨(⟨3, 2, 7, 0, 1, 9⟩ : Plan), 0, 0⟩ : Seat))).toArray 29, cellC b23 ((seatC (⟨(⟨3, 2, 7, 0, 1, 9⟩ : Plan), 0, 1⟩ : Seat))).toArray 29, cellC b24 ((seatC (⟨(⟨3, 2, 7, 0, 1, 9⟩ : Plan), 1, 0⟩ : Seat))).toArray 29, progK Tryz.prog encRes (fu, (D.check_New (fu + 1) (⟨(⟨3, 2, 7, 0, 1, 9⟩ : Plan), 0, 0⟩ : Seat))) v27 (rg w25.heap.size w26.heap.size), cellC b34 ((resC x32.1)).toArray 32, progK Tryz.prog encRes (fu, (D.check_Write (⟨(⟨3, 2, 7, 0, 1, 9⟩ : Plan), 0, 0⟩ : Seat) x32.1.v a0 a1)) v41 (rg w38.heap.size w40.heap.size), progK Tryz.prog encRes (fu, (D.check_Read (⟨(⟨3, 2, 7, 0, 1, 9⟩ : Plan), 0, 1⟩ : Seat) x32.1.v a0)) v49 (rg w47.heap.size w48.heap.size), cellC b56 ((resC x54.1)).toArray 32, progK Tryz.prog encRes (fu, (D.check_Swap (⟨(⟨3, 2, 7, 0, 1, 9⟩ : Plan), 0, 1⟩ : Seat) x32.1.v a0 a1 a2)) v63 (rg w60.heap.size w62.heap.size), cellC b70 ((resC x68.1)).toArray 32, progK Tryz.prog encRes (fu, (D.check_Read (⟨(⟨3, 2, 7, 0, 1, 9⟩ : Plan), 0, 0⟩ : Seat) x32.1.v a0)) v77 (rg w74.heap.size w76.heap.size), cellC b84 ((resC x82.1)).toArray 32, progK Tryz.prog encRes (fu, (D.check_Write (⟨(⟨3, 2, 7, 0, 1, 9⟩ : Plan), 1, 0⟩ : Seat) x32.1.v a0 1)) v91 (rg w88.heap.size w90.heap.size), cellC b98 ((resC x96.1)).toArray 32] w0 w102 := hP.upd (i := 15) rfl u103
    refine seq_val (I x96.2.1) r (fun R => y_assign r rfl) rfl fun fr r => ?_
    refine seq_val (.bool x96.2.2.1) r (fun R => y_assign r rfl) rfl fun fr r => ?_
    refine wn ?_
    refine wp_seq ?_
    have hP : Post No [cellC b12 ((planC (⟨3, 2, 7, 0, 1, 9⟩ : Plan))).toArray 25, memK mg20 x96.2.2.2, cellC b22 ((seatC (⟨(⟨3, 2, 7, 0, 1, 9⟩ : Plan), 0, 0⟩ : Seat))).toArray 29, cellC b23 ((seatC (⟨(⟨3, 2, 7, 0, 1, 9⟩ : Plan), 0, 1⟩ : Seat))).toArray 29, cellC b24 ((seatC (⟨(⟨3, 2, 7, 0, 1, 9⟩ : Plan), 1, 0⟩ : Seat))).toArray 29, cellC b34 ((resC x32.1)).toArray 32, cellC b56 ((resC x54.1)).toArray 32, cellC b70 ((resC x68.1)).toArray 32, cellC b84 ((resC x82.1)).toArray 32, cellC b98 ((resC x96.1)).toArray 32] w0 w102 := hP.pick [0, 1, 2, 3, 4, 6, 9, 11, 13, 15] rfl rfl
    refine wp_joinG (N := 143) (Y := Bool) (G := Unit) (fun x γ => [(0, (I a0)), (1, (U a1)), (2, (U a2)), (36, (.bool x6)), (7, (.pointer (some ⟨b12, 0, none⟩))), (8, (.pointer (some ⟨mg20.mb, 0, none⟩))), (42, (.bool false)), (9, (.pointer (some ⟨b22, 0, none⟩))), (10, (.pointer (some ⟨b23, 0, none⟩))), (11, (.pointer (some ⟨b24, 0, none⟩))), (12, (.pointer (some ⟨b34, 0, none⟩))), (15, (.pointer (some ⟨b56, 0, none⟩))), (18, (.pointer (some ⟨b70, 0, none⟩))), (21, (.pointer (some ⟨b84, 0, none⟩))), (24, (.pointer (some ⟨b98, 0, none⟩))), (6, (.bool x))]) (fun x γ w => Post No [cellC b12 ((planC (⟨3, 2, 7, 0, 1, 9⟩ : Plan))).toArray 25, memK mg20 x96.2.2.2, cellC b22 ((seatC (⟨(⟨3, 2, 7, 0, 1, 9⟩ : Plan), 0, 0⟩ : Seat))).toArray 29, cellC b23 ((seatC (⟨(⟨3, 2, 7, 0, 1, 9⟩ : Plan), 0, 1⟩ : Seat))).toArray 29, cellC b24 ((seatC (⟨(⟨3, 2, 7, 0, 1, 9⟩ : Plan), 1, 0⟩ : Seat))).toArray 29, cellC b34 ((resC x32.1)).toArray 32, cellC b56 ((resC x54.1)).toArray 32, cellC b70 ((resC x68.1)).toArray 32, cellC b84 ((resC x82.1)).toArray 32, cellC b98 ((resC x96.1)).toArray 32] w0 w) hD ?_ ?_
    ·
     rintro y104 RPy104 nxy104 hD
     refine wp_region_lit ?_
     refine seq_val (.agg (resC x54.1).toArray) r (fun R => y_load_agg r (cs := (resC x54.1)) (n := 2) rfl (hP.cell (i := 6) rfl) ta32 rfl) rfl fun fr r => ?_
     refine seq_val (U a1) r (fun R => y_move r rfl) rfl fun fr r => ?_
     refine seq_val (.agg (resC (⟨0, a1⟩ : Res)).toArray) r (fun R => y_build r (by kernel_rfl)) rfl fun fr r => ?_
     refine seq_val _ r (fun R => y_bin r rfl rfl (run_eqGuard_agg _ _ _ _ _ _ _ eg32) (eqs32 _ _ _).1) rfl fun fr r => ?_
     refine seq_val (.bool (x54.1 == (⟨0, a1⟩ : Res))) r (fun R => y_move r rfl) rfl fun fr r => ?_
     refine seq_split (x54.1 == (⟨0, a1⟩ : Res)) (fun h105 => ?_) (fun h105 => ?_)
     ·
      have hD := (cond_t h105).symm.trans hD
      refine s1 r h105 ?_
      refine seq_val (.agg (resC x68.1).toArray) r (fun R => y_load_agg r (cs := (resC x68.1)) (n := 2) rfl (hP.cell (i := 7) rfl) ta32 rfl) rfl fun fr r => ?_
      refine s1 r h105 ?_
      refine seq_val (.agg (resC (⟨0, 1⟩ : Res)).toArray) r (fun R => y_build r (by kernel_rfl)) rfl fun fr r => ?_
      refine s1 r h105 ?_
      refine seq_val _ r (fun R => y_bin r rfl rfl (run_eqGuard_agg _ _ _ _ _ _ _ eg32) (eqs32 _ _ _).1) rfl fun fr r => ?_
      refine seq_val (.bool (x68.1 == (⟨0, 1⟩ : Res))) r (fun R => y_pick r (b := true) (congrArg Value.bool h105) rfl) rfl fun fr r => ?_
      refine seq_val (.bool (x68.1 == (⟨0, 1⟩ : Res))) r (fun R => y_move r rfl) rfl fun fr r => ?_
      refine seq_split (x68.1 == (⟨0, 1⟩ : Res)) (fun h106 => ?_) (fun h106 => ?_)
      ·
       have hD := (cond_t h106).symm.trans hD
       refine s1 r h106 ?_
       refine seq_val (.agg (resC x82.1).toArray) r (fun R => y_load_agg r (cs := (resC x82.1)) (n := 2) rfl (hP.cell (i := 8) rfl) ta32 rfl) rfl fun fr r => ?_
       refine s1 r h106 ?_
       refine seq_val (U a2) r (fun R => y_move r rfl) rfl fun fr r => ?_
       refine s1 r h106 ?_
       refine seq_val (.agg (resC (⟨0, a2⟩ : Res)).toArray) r (fun R => y_build r (by kernel_rfl)) rfl fun fr r => ?_
       refine s1 r h106 ?_
       refine seq_val _ r (fun R => y_bin r rfl rfl (run_eqGuard_agg _ _ _ _ _ _ _ eg32) (eqs32 _ _ _).1) rfl fun fr r => ?_
       refine seq_val (.bool (x82.1 == (⟨0, a2⟩ : Res))) r (fun R => y_pick r (b := true) (congrArg Value.bool h106) rfl) rfl fun fr r => ?_
       refine seq_val (.bool (x82.1 == (⟨0, a2⟩ : Res))) r (fun R => y_move r rfl) rfl fun fr r => ?_
       refine seq_split (x82.1 == (⟨0, a2⟩ : Res)) (fun h107 => ?_) (fun h107 => ?_)
       ·
        have hD := (cond_t h107).symm.trans hD
        refine s1 r h107 ?_
        refine seq_val (.agg (resC x96.1).toArray) r (fun R => y_load_agg r (cs := (resC x96.1)) (n := 2) rfl (hP.cell (i := 9) rfl) ta32 rfl) rfl fun fr r => ?_
        refine s1 r h107 ?_
        refine seq_val (.agg (resC (⟨3, 0⟩ : Res)).toArray) r (fun R => y_build r (by kernel_rfl)) rfl fun fr r => ?_
        refine s1 r h107 ?_
        refine seq_val _ r (fun R => y_bin r rfl rfl (run_eqGuard_agg _ _ _ _ _ _ _ eg32) (eqs32 _ _ _).1) rfl fun fr r => ?_
        refine seq_val (.bool (x96.1 == (⟨3, 0⟩ : Res))) r (fun R => y_pick r (b := true) (congrArg Value.bool h107) rfl) rfl fun fr r => ?_
        refine seq_val (.bool (x96.1 == (⟨3, 0⟩ : Res))) r (fun R => y_assign r rfl) rfl fun fr r => ?_
        refine wn ?_
        exact nxy104 (x96.1 == (⟨3, 0⟩ : Res)) () _ _ _ hD r (hs_cons rfl (hs_cons rfl (hs_cons rfl (hs_cons rfl (hs_cons rfl (hs_cons rfl (hs_cons rfl (hs_cons rfl (hs_cons rfl (hs_cons rfl (hs_cons rfl (hs_cons rfl (hs_cons rfl (hs_cons rfl (hs_cons rfl (hs_cons rfl hs_nil)))))))))))))))) (hP.pick [0, 1, 2, 3, 4, 5, 6, 7, 8, 9] rfl rfl)
       ·
        have hD := (cond_f h107).symm.trans hD
        refine s0 r h107 fun fr r => ?_
        refine s0 r h107 fun fr r => ?_
        refine s0 r h107 fun fr r => ?_
        refine seq_val (.bool false) r (fun R => y_pick r (b := false) (congrArg Value.bool h107) rfl) rfl fun fr r => ?_
        refine seq_val (.bool false) r (fun R => y_assign r rfl) rfl fun fr r => ?_
        refine wn ?_
        exact nxy104 false () _ _ _ hD r (hs_cons rfl (hs_cons rfl (hs_cons rfl (hs_cons rfl (hs_cons rfl (hs_cons rfl (hs_cons rfl (hs_cons rfl (hs_cons rfl (hs_cons rfl (hs_cons rfl (hs_cons rfl (hs_cons rfl (hs_cons rfl (hs_cons rfl (hs_cons rfl hs_nil)))))))))))))))) (hP.pick [0, 1, 2, 3, 4, 5, 6, 7, 8, 9] rfl rfl)
      ·
       have hD := (cond_f h106).symm.trans hD
       refine s0 r h106 fun fr r => ?_
       refine s0 r h106 fun fr r => ?_
       refine s0 r h106 fun fr r => ?_
       refine s0 r h106 fun fr r => ?_
       refine seq_val (.bool false) r (fun R => y_pick r (b := false) (congrArg Value.bool h106) rfl) rfl fun fr r => ?_
       refine seq_val (.bool false) r (fun R => y_move r rfl) rfl fun fr r => ?_
       refine s0 r (rfl : false = _) fun fr r => ?_
       refine s0 r (rfl : false = _) fun fr r => ?_
       refine s0 r (rfl : false = _) fun fr r => ?_
       refine seq_val (.bool false) r (fun R => y_pick r (b := false) (congrArg Value.bool (rfl : false = _)) rfl) rfl fun fr r => ?_
       refine seq_val (.bool false) r (fun R => y_assign r rfl) rfl fun fr r => ?_
       refine wn ?_
       exact nxy104 false () _ _ _ hD r (hs_cons rfl (hs_cons rfl (hs_cons rfl (hs_cons rfl (hs_cons rfl (hs_cons rfl (hs_cons rfl (hs_cons rfl (hs_cons rfl (hs_cons rfl (hs_cons rfl (hs_cons rfl (hs_cons rfl (hs_cons rfl (hs_cons rfl (hs_cons rfl hs_nil)))))))))))))))) (hP.pick [0, 1, 2, 3, 4, 5, 6, 7, 8, 9] rfl rfl)
     ·
      have hD := (cond_f h105).symm.trans hD
      refine s0 r h105 fun fr r => ?_
      refine s0 r h105 fun fr r => ?_
      refine s0 r h105 fun fr r => ?_
      refine seq_val (.bool false) r (fun R => y_pick r (b := false) (congrArg Value.bool h105) rfl) rfl fun fr r => ?_
      refine seq_val (.bool false) r (fun R => y_move r rfl) rfl fun fr r => ?_
      refine s0 r (rfl : false = _) fun fr r => ?_
      refine s0 r (rfl : false = _) fun fr r => ?_
      refine s0 r (rfl : false = _) fun fr r => ?_
      refine s0 r (rfl : false = _) fun fr r => ?_
      refine seq_val (.bool false) r (fun R => y_pick r (b := false) (congrArg Value.bool (rfl : false = _)) rfl) rfl fun fr r => ?_
      refine seq_val (.bool false) r (fun R => y_move r rfl) rfl fun fr r => ?_
      refine s0 r (rfl : false = _) fun fr r => ?_
      refine s0 r (rfl : false = _) fun fr r => ?_
      refine s0 r (rfl : false = _) fun fr r => ?_
      refine seq_val (.bool false) r (fun R => y_pick r (b := false) (congrArg Value.bool (rfl : false = _)) rfl) rfl fun fr r => ?_
      refine seq_val (.bool false) r (fun R => y_assign r rfl) rfl fun fr r => ?_
      refine wn ?_
      exact nxy104 false () _ _ _ hD r (hs_cons rfl (hs_cons rfl (hs_cons rfl (hs_cons rfl (hs_cons rfl (hs_cons rfl (hs_cons rfl (hs_cons rfl (hs_cons rfl (hs_cons rfl (hs_cons rfl (hs_cons rfl (hs_cons rfl (hs_cons rfl (hs_cons rfl (hs_cons rfl hs_nil)))))))))))))))) (hP.pick [0, 1, 2, 3, 4, 5, 6, 7, 8, 9] rfl rfl)
    ·
     rintro x108 γ109 fr w110 g r hP hD
     have hP : Post No [cellC b12 ((planC (⟨3, 2, 7, 0, 1, 9⟩ : Plan))).toArray 25, memK mg20 x96.2.2.2, cellC b22 ((seatC (⟨(⟨3, 2, 7, 0, 1, 9⟩ : Plan), 0, 0⟩ : Seat))).toArray 29, cellC b23 ((seatC (⟨(⟨3, 2, 7, 0, 1, 9⟩ : Plan), 0, 1⟩ : Seat))).toArray 29, cellC b24 ((seatC (⟨(⟨3, 2, 7, 0, 1, 9⟩ : Plan), 1, 0⟩ : Seat))).toArray 29, cellC b34 ((resC x32.1)).toArray 32, cellC b56 ((resC x54.1)).toArray 32, cellC b70 ((resC x68.1)).toArray 32, cellC b84 ((resC x82.1)).toArray 32, cellC b98 ((resC x96.1)).toArray 32] w0 w110 := hP
     refine wp_ret ?_
     have hv : x108 = res := Option.some.inj hD
     try dsimp only [Exit.then, Exit.inBlock]
     refine ret_tmp (fn := Tryz.f3) r (t := 6) rfl (v := (.bool x108)) rfl ?_
     subst hv
     exact ⟨rfl, hP.chg.below⟩

end Go.Proofs.YtjkinpbfmihhdaaGreat.Wk

/- CheckTwo: what the walk found answers as the law says. -/
set_option linter.unusedVariables false
namespace Go.Proofs.YtjkinpbfmihhdaaGreat
open Go.RowKit
theorem awake13 : D.cubiclelaw13_awake 2000 = some true := by decide +kernel

def p2 : Plan := ⟨3, 2, 7, 0, 1, 9⟩

theorem p2F : PF p2 := ref_formed (by decide +kernel)

theorem pure_CheckTwo (f v u : Int) (_ : -9223372036854775808 ≤ f ∧ f ≤ 9223372036854775807) (_ : 0 ≤ v ∧ v ≤ 18446744073709551615) (_ : 0 ≤ u ∧ u ≤ 18446744073709551615) : ∃ fu, Wk.D.cubiclelaw13_CheckTwo fu f v u = some true := by
  refine ⟨2000, ?_⟩
  unfold Wk.D.cubiclelaw13_CheckTwo
  rw [awake13]
  simp only [Option.bind_some, Bool.not_true, cond_false]
  cases h1 : decide (f < 0)
  case true => rfl
  cases h2 : decide (f > 2)
  case true => rfl
  simp only [decide_eq_false_iff_not] at h1 h2
  have hf : 0 ≤ f ∧ f < 3 := by omega
  simp only [cond_false, Option.bind_some]
  obtain ⟨M, hM, hL⟩ := laid_eq p2F (p := p2) (by decide) (fu := 2000) (by omega)
  have sa : D.check_Seat_Formed ⟨p2, 0, 0⟩ = true := seat_formed.2 ⟨p2F, by decide, by decide⟩
  have sb : D.check_Seat_Formed ⟨p2, 0, 1⟩ = true := seat_formed.2 ⟨p2F, by decide, by decide⟩
  have sc : D.check_Seat_Formed ⟨p2, 1, 0⟩ = true := seat_formed.2 ⟨p2F, by decide, by decide⟩
  have hP := PoolAt.start p2F hL (t := 0) (by decide)
  obtain ⟨m, w1, g1, hm, _, hr1, hP1, hk1⟩ := new_runs (s := ⟨p2, 0, 0⟩) sa (by decide) hP (by decide) 2001 (by omega)
  have hgr : ((⟨allN p2, [], fun _ => ⟨0, 0, 0⟩⟩ : Pool).grant p2.gen 0) = (⟨[1, 2], [], fun q => if q = 0 then ⟨0, 1, 0⟩ else ⟨0, 0, 0⟩⟩, ⟨0, 0, 0⟩) := rfl
  rw [show (⟨p2, 0, 0⟩ : Seat).p.gen = p2.gen from rfl, hgr] at hr1 hP1
  simp only [if_true] at hr1
  generalize hw : D.handle_Handle_Word ⟨0, 0, 0⟩ = w at hr1
  have hH : HF (⟨0, 0, 0⟩ : Handle) := ⟨by decide, by decide, by decide, by decide, by decide, by decide⟩
  have hmine : D.handle_Mine w 0 p2.nodes = (⟨0, 0, 0⟩, true) := by rw [← hw]; exact mine_hword hH rfl (by decide)
  have hother : (D.handle_Mine w 1 p2.nodes).2 = false := by rw [← hw]; exact mine_other hH (by decide)
  have hn : 0 ≤ (⟨0, 0, 0⟩ : Handle).index ∧ (⟨0, 0, 0⟩ : Handle).index < p2.nodes := by decide
  have hz0 : rd w1 (hp0 p2 0) = 0 := hP1.hz 0 (by decide) (by decide)
  have hz1 : rd w1 (hp0 p2 1) = 0 := hP1.hz 3 (by decide) (by decide)
  have hst : rd w1 (sp p2 0) = D.state_State_Word (D.check_live ⟨0, 0, 0⟩) := (hP1.st 0 (by decide) (by decide)).1
  have hl1 : Len p2 w1 := hP1.free.len
  obtain ⟨z1, z2, z3, z4, z5⟩ := hp0_in (s := ⟨p2, 0, 0⟩) sa hl1 hmine hn
  obtain ⟨y1, y2, y3, y4, y5⟩ := hp0_in (s := ⟨p2, 0, 1⟩) sb hl1 hmine hn
  have hfp : fp p2 0 f = sp p2 0 + 2 + f := rfl
  simp only at z1 z2 z3 z4 z5 y1 y2 y3 y4 y5
  obtain ⟨w2, hr2, hl2, hp2⟩ := write_runs (s := ⟨p2, 0, 0⟩) sa hl1 hmine hn hf hz0 hst v
  simp only at hp2
  have q2 : ∀ j, 0 ≤ j → j ≠ fp p2 0 f → rd w2 j = rd w1 j := fun j hj hne => by rw [hp2 j hj, if_neg hne]
  have e2 : rd w2 (fp p2 0 f) = v := by rw [hp2 _ (by omega), if_pos rfl]
  have a2 : rd w2 (hp0 p2 0) = 0 := by rw [q2 _ (by omega) (by omega)]; exact hz0
  have b2 : rd w2 (hp0 p2 1) = 0 := by rw [q2 _ (by omega) (by omega)]; exact hz1
  have s2 : rd w2 (sp p2 0) = D.state_State_Word (D.check_live ⟨0, 0, 0⟩) := by rw [q2 _ (by omega) (by omega)]; exact hst
  have hlen2 : Len p2 w2 := by unfold Len at *; omega
  obtain ⟨w3, hr3, hl3, hp3⟩ := read_runs (s := ⟨p2, 0, 1⟩) sb hlen2 hmine hn hf b2 s2
  have hlen3 : Len p2 w3 := by unfold Len at *; omega
  have e3 : rd w3 (fp p2 0 f) = v := by rw [hp3 _ (by omega), e2]
  have a3 : rd w3 (hp0 p2 0) = 0 := by rw [hp3 _ (by omega)]; exact a2
  have b3 : rd w3 (hp0 p2 1) = 0 := by rw [hp3 _ (by omega)]; exact b2
  have s3 : rd w3 (sp p2 0) = D.state_State_Word (D.check_live ⟨0, 0, 0⟩) := by rw [hp3 _ (by omega)]; exact s2
  obtain ⟨w4, hr4, hl4, hp4⟩ := (swap_runs (s := ⟨p2, 0, 1⟩) sb hlen3 hmine hn hf b3 s3 v u).1 e3
  simp only at hp4
  have q4 : ∀ j, 0 ≤ j → j ≠ fp p2 0 f → rd w4 j = rd w3 j := fun j hj hne => by rw [hp4 j hj, if_neg hne]
  have e4 : rd w4 (fp p2 0 f) = u := by rw [hp4 _ (by omega), if_pos rfl]
  have a4 : rd w4 (hp0 p2 0) = 0 := by rw [q4 _ (by omega) (by omega)]; exact a3
  have s4 : rd w4 (sp p2 0) = D.state_State_Word (D.check_live ⟨0, 0, 0⟩) := by rw [q4 _ (by omega) (by omega)]; exact s3
  have hlen4 : Len p2 w4 := by unfold Len at *; omega
  obtain ⟨w5, hr5, hl5, hp5⟩ := read_runs (s := ⟨p2, 0, 0⟩) sa hlen4 hmine hn hf a4 s4
  have hr6 : Runs (D.check_Write ⟨p2, 1, 0⟩ w f 1) w5 0 ⟨3, 0⟩ w5 := by
    unfold D.check_Write D.check_look
    rw [sc, hother, show decide (f < 0) = false from by simp; omega, show decide (f ≥ 3) = false from by simp; omega]
    exact .done _ _
  have hpl : (⟨3, 2, 7, 0, 1, 9⟩ : Plan) = p2 := rfl
  rw [hpl, hM]
  simp only [Option.bind_some, Cap_eq]
  obtain ⟨c1, hc1⟩ := runR (fu := 2000) (most := 99) (M := M) hr1 (by simp at hm; omega) (by omega) (by simp at hm; omega)
  rw [hc1]
  simp only [Option.bind_some]
  obtain ⟨c2, hc2⟩ := runR (fu := 2000) (most := 99) (M := ⟨w1, c1⟩) hr2 (by omega) (by omega) (by omega)
  rw [hc2]
  simp only [Option.bind_some]
  obtain ⟨c3, hc3⟩ := runR (fu := 2000) (most := 99) (M := ⟨w2, c2⟩) hr3 (by omega) (by omega) (by omega)
  rw [hc3]
  simp only [Option.bind_some]
  obtain ⟨c4, hc4⟩ := runR (fu := 2000) (most := 99) (M := ⟨w3, c3⟩) hr4 (by omega) (by omega) (by omega)
  rw [hc4]
  simp only [Option.bind_some]
  obtain ⟨c5, hc5⟩ := runR (fu := 2000) (most := 99) (M := ⟨w4, c4⟩) hr5 (by omega) (by omega) (by omega)
  rw [hc5]
  simp only [Option.bind_some]
  obtain ⟨c6, hc6⟩ := runR (fu := 2000) (most := 99) (M := ⟨w5, c5⟩) hr6 (by omega) (by omega) (by omega)
  rw [hc6]
  simp only [Option.bind_some]
  have e2' : rd w2 (fp (⟨p2, 0, 1⟩ : Seat).p (⟨0, 0, 0⟩ : Handle).index f) = v := e2
  have e4' : rd w4 (fp (⟨p2, 0, 0⟩ : Seat).p (⟨0, 0, 0⟩ : Handle).index f) = u := e4
  rw [e2', e4']
  simp

end Go.Proofs.YtjkinpbfmihhdaaGreat

/- A law's row from what its walk hands back: arguments opened. -/
namespace Go.Proofs.YtjkinpbfmihhdaaGreat
open Go.ChangeShapes Go.WideShapes Go.RowKit Go.Deep Go.ChangeAt
section
variable {H : Type} {enc : TypeId × Value → H} {P : Program} {w : World} {base : Nat} {spare : Nat → Bool} {held : Bool}
end
theorem laidOut : laidOutB Tryz.prog = true := by kernel_rfl

end Go.Proofs.YtjkinpbfmihhdaaGreat

/- Written by a program of ours (wip/gen.py): layer 17 -/
import Derived.Test.YtjkinpbfmihhdaaGreatDaM11
set_option linter.all false
set_option linter.unusedVariables false
set_option maxRecDepth 20000
set_option maxHeartbeats 2000000
namespace Go.Proofs.YtjkinpbfmihhdaaGreat
open Go.RowKit
theorem cl102 : callable Tryz.prog 102 = true := by kernel_rfl

theorem cl28 : callable Tryz.prog 28 = true := by kernel_rfl

theorem cl29 : callable Tryz.prog 29 = true := by kernel_rfl

theorem cl99 : callable Tryz.prog 99 = true := by kernel_rfl

theorem is55 : isSlice Tryz.prog 55 = true := by kernel_rfl

theorem sl55 : sliceTy Tryz.prog 55 1 = true := by kernel_rfl

theorem ts25 : sized Tryz.prog 25 6 = true := by kernel_rfl

theorem tz25 : zeroOf Tryz.prog 25 = some (.agg (planC (⟨0, 0, 0, 0, 0, 0⟩ : Plan)).toArray) := by kernel_rfl

def D.cubiclelaw17_awake (fu : Nat)  : Option (Bool) := ((D.cubiclelaw09_Laid fu (⟨2, 1, 4, 1, 2, 1⟩ : Plan)).bind (fun (x7 : Mem) => ((D.mem_Memory_Cap fu x7 0).bind (fun (x15 : Cap) => ((D.prog_Run_Res fu (fu, (D.domain_Make (fu + 1) (⟨(⟨2, 1, 4, 1, 2, 1⟩ : Plan), 0, 0⟩ : Seat) 2)) x7 x15 99).bind (fun (x17 : Res × Int × Bool × Mem) => ((D.domain_Kinds fu (⟨2, 1, 4, 1, 2, 1⟩ : Plan) x17.2.2.2 0).bind (fun (x25 : List Int) => (Option.bind (bif x17.2.2.1 then (bif (x17.1.e == 0) then (bif ((x25.length : Int) == 1) then ((getI x25 0).bind (fun (x33 : Int) => (some (x33 == 2)))) else (some false)) else (some false)) else (some false)) (fun (x34 : Bool) => (some x34)))))))))))

theorem c_cubiclelaw17_awake {fu : Nat} (w0 : World) {res : Bool} (hD : D.cubiclelaw17_awake fu  = some res) :
    Calls Tryz.prog 97 #[] w0 (PureRes (.bool res) w0) := by
 refine enter Tryz.func97 rfl 43 rfl rfl fun fr r => ?_
 have hP : Post No [] w0 w0 := Post.nil w0
 unfold D.cubiclelaw17_awake at hD
 refine wsr ?_
 refine seq_val (.bool false) r (fun R => y_assign r rfl) rfl fun fr r => ?_
 refine wn ?_
 refine wsr ?_
 refine seq_val (.agg (planC (⟨2, 1, 4, 1, 2, 1⟩ : Plan)).toArray) r (fun R => y_build r (by kernel_rfl)) rfl fun fr r => ?_
 refine seq_new (.cells ((planC (⟨0, 0, 0, 0, 0, 0⟩ : Plan))).toArray 25 (0, 0)) r (fun R => y_alloc tz25) rfl fun fr b1 w2 n3 r => ?_
 have hP : Post No [cellC b1 ((planC (⟨0, 0, 0, 0, 0, 0⟩ : Plan))).toArray 25] w0 w2 := hP.new n3
 refine seq_upd (.cells ((planC (⟨2, 1, 4, 1, 2, 1⟩ : Plan))).toArray 25 (0, 0)) r (fun R => y_store r (o := 0) (v := (.agg (planC (⟨2, 1, 4, 1, 2, 1⟩ : Plan)).toArray)) rfl rfl (hP.cell (i := 0) rfl) ts25 (Nat.le_of_ble_eq_true rfl) rfl rfl) rfl fun fr w5 u6 r => ?_
 have hP : Post No [cellC b1 ((planC (⟨2, 1, 4, 1, 2, 1⟩ : Plan))).toArray 25] w0 w5 := hP.upd (i := 0) rfl u6
 refine wn ?_
 refine wsr ?_
 refine seq_val (.agg (planC (⟨2, 1, 4, 1, 2, 1⟩ : Plan)).toArray) r (fun R => y_load_agg r (cs := (planC (⟨2, 1, 4, 1, 2, 1⟩ : Plan))) (n := 6) rfl (hP.cell (i := 0) rfl) ta25 rfl) rfl fun fr r => ?_
 obtain ⟨x7, hx7, hD⟩ := bindD_elim hD
 refine seq_call r (c_cubiclelaw09_Laid w5 (⟨2, 1, 4, 1, 2, 1⟩ : Plan) hx7) (fun R hc => y_call r rfl cl28 hc) rfl ?_
 rintro _ w8 ⟨mg9, rfl, hq⟩
 refine ⟨_, rfl, fun fr r => ?_⟩
 have hP : Post No [cellC b1 ((planC (⟨2, 1, 4, 1, 2, 1⟩ : Plan))).toArray 25, memK mg9 x7] w0 w8 := hP.add hq
 refine seq_val (.pointer (some ⟨mg9.mb, 0, none⟩)) r (fun R => y_assign r rfl) rfl fun fr r => ?_
 refine wn ?_
 refine wp_seq ?_
 refine wsr ?_
 refine seq_val (.pointer (some ⟨mg9.mb, 0, none⟩)) r (fun R => y_move r rfl) rfl fun fr r => ?_
 refine seq_val _ r (fun R => y_bin r rfl rfl rfl rfl) rfl fun fr r => ?_
 refine wn ?_
 refine wp_cond_split (t := false) (r.ev rfl) (fun h => absurd ((rfl : false = _).symm.trans h) (by decide)) (fun _ => ?_)
 refine wp_skip ?_
 refine wsr ?_
 refine seq_val (.agg (planC (⟨2, 1, 4, 1, 2, 1⟩ : Plan)).toArray) r (fun R => y_load_agg r (cs := (planC (⟨2, 1, 4, 1, 2, 1⟩ : Plan))) (n := 6) rfl (hP.cell (i := 0) rfl) ta25 rfl) rfl fun fr r => ?_
 refine seq_val (.agg (seatC (⟨(⟨2, 1, 4, 1, 2, 1⟩ : Plan), 0, 0⟩ : Seat)).toArray) r (fun R => y_build r (by kernel_rfl)) rfl fun fr r => ?_
 refine seq_call r (c_domain_Make (F := No) (n := fu) (j := fu + 1) (fun _ h => h.elim) (by omega) (⟨(⟨2, 1, 4, 1, 2, 1⟩ : Plan), 0, 0⟩ : Seat) 2) (fun R hc => y_call r rfl cl99 hc) rfl ?_
 rintro _ w11 ⟨v12, rfl, hb, hr13⟩
 refine ⟨_, rfl, fun fr r => ?_⟩
 have hP : Post No [cellC b1 ((planC (⟨2, 1, 4, 1, 2, 1⟩ : Plan))).toArray 25, memK mg9 x7, progK Tryz.prog encRes (fu, (D.domain_Make (fu + 1) (⟨(⟨2, 1, 4, 1, 2, 1⟩ : Plan), 0, 0⟩ : Seat) 2)) v12 (rg w8.heap.size w11.heap.size)] w0 w11 := hP.addProg hb hr13
 refine seq_val (.pointer (some ⟨mg9.mb, 0, none⟩)) r (fun R => y_move r rfl) rfl fun fr r => ?_
 refine seq_val (.pointer (some ⟨mg9.mb, 0, none⟩)) r (fun R => y_move r rfl) rfl fun fr r => ?_
 obtain ⟨x15, hx15, hD⟩ := bindD_elim hD
 refine seq_call r (c_mem_Memory_Cap w11 x7 (hP.mem (i := 1) rfl) 0 hx15) (fun R hc => y_call r rfl cl31 hc) rfl ?_
 rintro _ w16 ⟨rfl, hb⟩
 refine ⟨_, rfl, fun fr r => ?_⟩
 have hP : Post No [cellC b1 ((planC (⟨2, 1, 4, 1, 2, 1⟩ : Plan))).toArray 25, memK mg9 x7, progK Tryz.prog encRes (fu, (D.domain_Make (fu + 1) (⟨(⟨2, 1, 4, 1, 2, 1⟩ : Plan), 0, 0⟩ : Seat) 2)) v12 (rg w8.heap.size w11.heap.size)] w0 w16 := hP.below hb
 obtain ⟨x17, hx17, hD⟩ := bindD_elim hD
 refine seq_call r (c_prog_Run_Res w16 (fu, (D.domain_Make (fu + 1) (⟨(⟨2, 1, 4, 1, 2, 1⟩ : Plan), 0, 0⟩ : Seat) 2)) x7 x15 99 (hP.sep.pk [2, 1] rfl rfl) hx17) (fun R hc => y_call r rfl cl29 hc) rfl ?_
 rintro _ w18 ⟨rfl, hq⟩
 refine ⟨_, rfl, fun fr r => ?_⟩
 have hP : Post No [cellC b1 ((planC (⟨2, 1, 4, 1, 2, 1⟩ : Plan))).toArray 25, memK mg9 x17.2.2.2, progK Tryz.prog encRes (fu, (D.domain_Make (fu + 1) (⟨(⟨2, 1, 4, 1, 2, 1⟩ : Plan), 0, 0⟩ : Seat) 2)) v12 (rg w8.heap.size w11.heap.size)] w0 w18 := hP.setN (i := 1) rfl hq
 refine seq_val (.tuple #[(.agg (resC x17.1).toArray), (I x17.2.1), (.bool x17.2.2.1)]) r (fun R => y_move r rfl) rfl fun fr r => ?_
 refine seq_val (.agg (resC x17.1).toArray) r (fun R => y_extract r (vs := #[(.agg (resC x17.1).toArray), (I x17.2.1), (.bool x17.2.2.1)]) rfl rfl) rfl fun fr r => ?_
 refine seq_val (I x17.2.1) r (fun R => y_extract r (vs := #[(.agg (resC x17.1).toArray), (I x17.2.1), (.bool x17.2.2.1)]) rfl rfl) rfl fun fr r => ?_
 refine seq_val (.bool x17.2.2.1) r (fun R => y_extract r (vs := #[(.agg (resC x17.1).toArray), (I x17.2.1), (.bool x17.2.2.1)]) rfl rfl) rfl fun fr r => ?_
 refine seq_new (.cells ((resC (⟨0, 0⟩ : Res))).toArray 32 (0, 0)) r (fun R => y_alloc tz32) rfl fun fr b19 w20 n21 r => ?_
 have hP : Post No [cellC b1 ((planC (⟨2, 1, 4, 1, 2, 1⟩ : Plan))).toArray 25, memK mg9 x17.2.2.2, progK Tryz.prog encRes (fu, (D.domain_Make (fu + 1) (⟨(⟨2, 1, 4, 1, 2, 1⟩ : Plan), 0, 0⟩ : Seat) 2)) v12 (rg w8.heap.size w11.heap.size), cellC b19 ((resC (⟨0, 0⟩ : Res))).toArray 32] w0 w20 := hP.new n21
 refine seq_upd (.cells ((resC x17.1)).toArray 32 (0, 0)) r (fun R => y_store r (o := 0) (v := (.agg (resC x17.1).toArray)) rfl rfl (hP.cell (i := 3) rfl) ts32 (Nat.le_of_ble_eq_true rfl) rfl rfl) rfl fun fr w23 u24 r => ?_
 have hP : Post No [cellC b1 ((planC (⟨2, 1, 4, 1, 2, 1⟩ : Plan))).toArray 25, memK mg9 x17.2.2.2, progK Tryz.prog encRes (fu, (D.domain_Make (fu + 1) (⟨(⟨2, 1, 4, 1, 2, 1⟩ : Plan), 0, 0⟩ : Seat) 2)) v12 (rg w8.heap.size w11.heap.size), cellC b19 ((resC x17.1)).toArray 32] w0 w23 := hP.upd (i := 3) rfl u24
 refine seq_val (I x17.2.1) r (fun R => y_assign r rfl) rfl fun fr r => ?_
 refine seq_val (.bool x17.2.2.1) r (fun R => y_assign r rfl) rfl fun fr r => ?_
 refine wn ?_
 refine wsr ?_
 refine seq_val (.agg (planC (⟨2, 1, 4, 1, 2, 1⟩ : Plan)).toArray) r (fun R => y_load_agg r (cs := (planC (⟨2, 1, 4, 1, 2, 1⟩ : Plan))) (n := 6) rfl (hP.cell (i := 0) rfl) ta25 rfl) rfl fun fr r => ?_
 refine seq_val (.pointer (some ⟨mg9.mb, 0, none⟩)) r (fun R => y_move r rfl) rfl fun fr r => ?_
 obtain ⟨x25, hx25, hD⟩ := bindD_elim hD
 refine seq_call r (c_domain_Kinds w23 (⟨2, 1, 4, 1, 2, 1⟩ : Plan) x17.2.2.2 (hP.mem (i := 1) rfl) 0 hx25) (fun R hc => y_call r rfl cl102 hc) rfl ?_
 rintro _ w26 ⟨v27, rfl, hq⟩
 refine ⟨_, rfl, fun fr r => ?_⟩
 have hP : Post No [cellC b1 ((planC (⟨2, 1, 4, 1, 2, 1⟩ : Plan))).toArray 25, memK mg9 x17.2.2.2, progK Tryz.prog encRes (fu, (D.domain_Make (fu + 1) (⟨(⟨2, 1, 4, 1, 2, 1⟩ : Plan), 0, 0⟩ : Seat) 2)) v12 (rg w8.heap.size w11.heap.size), cellC b19 ((resC x17.1)).toArray 32, rowK 3 1 i64 v27 x25] w0 w26 := hP.add hq
 refine seq_val v27 r (fun R => y_assign r rfl) rfl fun fr r => ?_
 refine wn ?_
 refine wp_seq ?_
 have hP : Post No [cellC b1 ((planC (⟨2, 1, 4, 1, 2, 1⟩ : Plan))).toArray 25, memK mg9 x17.2.2.2, cellC b19 ((resC x17.1)).toArray 32, rowK 3 1 i64 v27 x25] w0 w26 := hP.pick [0, 1, 3, 4] rfl rfl
 refine wp_joinG (N := 43) (Y := Bool) (G := Unit) (fun x γ => [(1, (.pointer (some ⟨b1, 0, none⟩))), (2, (.pointer (some ⟨mg9.mb, 0, none⟩))), (11, (.bool false)), (3, (.pointer (some ⟨b19, 0, none⟩))), (5, (.bool x17.2.2.1)), (6, v27), (0, (.bool x))]) (fun x γ w => Post No [cellC b1 ((planC (⟨2, 1, 4, 1, 2, 1⟩ : Plan))).toArray 25, memK mg9 x17.2.2.2, cellC b19 ((resC x17.1)).toArray 32, rowK 3 1 i64 v27 x25] w0 w) hD ?_ ?_
 ·
  rintro y29 RPy29 nxy29 hD
  refine wp_region_lit ?_
  refine seq_val (.bool x17.2.2.1) r (fun R => y_move r rfl) rfl fun fr r => ?_
  refine seq_val (.bool x17.2.2.1) r (fun R => y_move r rfl) rfl fun fr r => ?_
  refine seq_split x17.2.2.1 (fun h30 => ?_) (fun h30 => ?_)
  ·
   have hD := (cond_t h30).symm.trans hD
   refine s1 r h30 ?_
   refine seq_val _ r (fun R => y_fieldAddr r (o := 0) rfl fo32_0) rfl fun fr r => ?_
   refine s1 r h30 ?_
   refine seq_val (I x17.1.e) r (fun R => y_load_one r rfl (hP.cell (i := 2) rfl) to30 rfl) rfl fun fr r => ?_
   refine s1 r h30 ?_
   refine seq_val _ r (fun R => y_bin r rfl rfl rfl rfl) rfl fun fr r => ?_
   refine seq_val (.bool (x17.1.e == 0)) r (fun R => y_pick r (b := true) (congrArg Value.bool h30) rfl) rfl fun fr r => ?_
   refine seq_val (.bool (x17.1.e == 0)) r (fun R => y_move r rfl) rfl fun fr r => ?_
   refine seq_split (x17.1.e == 0) (fun h31 => ?_) (fun h31 => ?_)
   ·
    have hD := (cond_t h31).symm.trans hD
    refine s1 r h31 ?_
    refine seq_val v27 r (fun R => y_move r rfl) rfl fun fr r => ?_
    refine s1 r h31 ?_
    refine seq_val (I (x25.length : Int)) r (fun R => y_rowLen r (hP.row (i := 3) rfl).ro is72 rfl) rfl fun fr r => ?_
    refine s1 r h31 ?_
    refine seq_val _ r (fun R => y_bin r rfl rfl rfl rfl) rfl fun fr r => ?_
    refine seq_val (.bool ((x25.length : Int) == 1)) r (fun R => y_pick r (b := true) (congrArg Value.bool h31) rfl) rfl fun fr r => ?_
    refine seq_val (.bool ((x25.length : Int) == 1)) r (fun R => y_move r rfl) rfl fun fr r => ?_
    refine seq_split ((x25.length : Int) == 1) (fun h32 => ?_) (fun h32 => ?_)
    ·
     have hD := (cond_t h32).symm.trans hD
     refine s1 r h32 ?_
     refine seq_val v27 r (fun R => y_move r rfl) rfl fun fr r => ?_
     refine s1 r h32 ?_
     obtain ⟨x33, hx33, hD⟩ := bindD_elim hD
     refine seq_val (.pointer (some ⟨rowB v27, rowO v27 + (0 : Int).toNat * 1, none⟩)) r (fun R => y_rowAddr r (hP.row (i := 3) rfl).ro hx33 sl72 rfl rfl) rfl fun fr r => ?_
     refine s1 r h32 ?_
     refine seq_val (I x33) r (fun R => y_loadL_one r (u := (I x33)) (RoAt.at_ (f := i64) (x := x33) (hP.row (i := 3) rfl).ro (fun _ => rfl) hx33) rfl to3) rfl fun fr r => ?_
     refine s1 r h32 ?_
     refine seq_val _ r (fun R => y_bin r rfl rfl rfl rfl) rfl fun fr r => ?_
     refine seq_val (.bool (x33 == 2)) r (fun R => y_pick r (b := true) (congrArg Value.bool h32) rfl) rfl fun fr r => ?_
     refine seq_val (.bool (x33 == 2)) r (fun R => y_assign r rfl) rfl fun fr r => ?_
     refine wn ?_
     exact nxy29 (x33 == 2) () _ _ _ hD r (hs_cons rfl (hs_cons rfl (hs_cons rfl (hs_cons rfl (hs_cons rfl (hs_cons rfl (hs_cons rfl hs_nil))))))) (hP.pick [0, 1, 2, 3] rfl rfl)
    ·
     have hD := (cond_f h32).symm.trans hD
     refine s0 r h32 fun fr r => ?_
     refine s0 r h32 fun fr r => ?_
     refine s0 r h32 fun fr r => ?_
     refine s0 r h32 fun fr r => ?_
     refine seq_val (.bool false) r (fun R => y_pick r (b := false) (congrArg Value.bool h32) rfl) rfl fun fr r => ?_
     refine seq_val (.bool false) r (fun R => y_assign r rfl) rfl fun fr r => ?_
     refine wn ?_
     exact nxy29 false () _ _ _ hD r (hs_cons rfl (hs_cons rfl (hs_cons rfl (hs_cons rfl (hs_cons rfl (hs_cons rfl (hs_cons rfl hs_nil))))))) (hP.pick [0, 1, 2, 3] rfl rfl)
   ·
    have hD := (cond_f h31).symm.trans hD
    refine s0 r h31 fun fr r => ?_
    refine s0 r h31 fun fr r => ?_
    refine s0 r h31 fun fr r => ?_
    refine seq_val (.bool false) r (fun R => y_pick r (b := false) (congrArg Value.bool h31) rfl) rfl fun fr r => ?_
    refine seq_val (.bool false) r (fun R => y_move r rfl) rfl fun fr r => ?_
    refine s0 r (rfl : false = _) fun fr r => ?_
    refine s0 r (rfl : false = _) fun fr r => ?_
    refine s0 r (rfl : false = _) fun fr r => ?_
    refine s0 r (rfl : false = _) fun fr r => ?_
    refine seq_val (.bool false) r (fun R => y_pick r (b := false) (congrArg Value.bool (rfl : false = _)) rfl) rfl fun fr r => ?_
    refine seq_val (.bool false) r (fun R => y_assign r rfl) rfl fun fr r => ?_
    refine wn ?_
    exact nxy29 false () _ _ _ hD r (hs_cons rfl (hs_cons rfl (hs_cons rfl (hs_cons rfl (hs_cons rfl (hs_cons rfl (hs_cons rfl hs_nil))))))) (hP.pick [0, 1, 2, 3] rfl rfl)
  ·
   have hD := (cond_f h30).symm.trans hD
   refine s0 r h30 fun fr r => ?_
   refine s0 r h30 fun fr r => ?_
   refine s0 r h30 fun fr r => ?_
   refine seq_val (.bool false) r (fun R => y_pick r (b := false) (congrArg Value.bool h30) rfl) rfl fun fr r => ?_
   refine seq_val (.bool false) r (fun R => y_move r rfl) rfl fun fr r => ?_
   refine s0 r (rfl : false = _) fun fr r => ?_
   refine s0 r (rfl : false = _) fun fr r => ?_
   refine s0 r (rfl : false = _) fun fr r => ?_
   refine seq_val (.bool false) r (fun R => y_pick r (b := false) (congrArg Value.bool (rfl : false = _)) rfl) rfl fun fr r => ?_
   refine seq_val (.bool false) r (fun R => y_move r rfl) rfl fun fr r => ?_
   refine s0 r (rfl : false = _) fun fr r => ?_
   refine s0 r (rfl : false = _) fun fr r => ?_
   refine s0 r (rfl : false = _) fun fr r => ?_
   refine s0 r (rfl : false = _) fun fr r => ?_
   refine seq_val (.bool false) r (fun R => y_pick r (b := false) (congrArg Value.bool (rfl : false = _)) rfl) rfl fun fr r => ?_
   refine seq_val (.bool false) r (fun R => y_assign r rfl) rfl fun fr r => ?_
   refine wn ?_
   exact nxy29 false () _ _ _ hD r (hs_cons rfl (hs_cons rfl (hs_cons rfl (hs_cons rfl (hs_cons rfl (hs_cons rfl (hs_cons rfl hs_nil))))))) (hP.pick [0, 1, 2, 3] rfl rfl)
 ·
  rintro x34 γ35 fr w36 g r hP hD
  have hP : Post No [cellC b1 ((planC (⟨2, 1, 4, 1, 2, 1⟩ : Plan))).toArray 25, memK mg9 x17.2.2.2, cellC b19 ((resC x17.1)).toArray 32, rowK 3 1 i64 v27 x25] w0 w36 := hP
  refine wp_ret ?_
  have hv : x34 = res := Option.some.inj hD
  try dsimp only [Exit.then, Exit.inBlock]
  refine ret_tmp (fn := Tryz.f97) r (t := 0) rfl (v := (.bool x34)) rfl ?_
  subst hv
  exact ⟨rfl, hP.chg.below⟩

def D.cubiclelaw17_kind (a0 : Bool) : Int := (bif a0 then 1 else 2)

theorem c_cubiclelaw17_kind (w0 : World) 
    (a0 : Bool) :
    Calls Tryz.prog 101 #[.bool a0] w0 (PureRes (.int .i64 (D.cubiclelaw17_kind a0)) w0) := by
 refine enter Tryz.func101 rfl 4 rfl rfl fun fr r => ?_
 have hB := Below.refl w0.heap.size w0
 refine wsr ?_
 refine seq_val (I 0) r (fun R => y_assign r rfl) rfl fun fr r => ?_
 refine wn ?_
 refine wp_seq ?_
 refine wsr ?_
 refine seq_val (.bool a0) r (fun R => y_move r rfl) rfl fun fr r => ?_
 refine wn ?_
 refine wp_cond_split (t := a0) (r.ev rfl) (fun h1 => ?_) (fun h1 => ?_)
 ·
  refine wsr ?_
  refine seq_val (I 1) r (fun R => y_assign r rfl) rfl fun fr r => ?_
  refine wn ?_
  refine wp_ret ?_
  have hd : D.cubiclelaw17_kind a0 = 1 := (cond_t h1).trans (rfl)
  refine ret_tmp r rfl rfl ?_
  rw [hd]
  exact ⟨rfl, hB⟩
 ·
  refine wp_skip ?_
  refine wsr ?_
  refine seq_val (I 2) r (fun R => y_assign r rfl) rfl fun fr r => ?_
  refine wn ?_
  refine wp_ret ?_
  have hd : D.cubiclelaw17_kind a0 = 2 := (cond_f h1).trans (rfl)
  refine ret_tmp r rfl rfl ?_
  rw [hd]
  exact ⟨rfl, hB⟩

def D.cubiclelaw17_race (fu : Nat) (a0 : Nat × T Res) (a1 : Nat × T Res) (a2 : Mem) (a3 : List Bool) : Option (Res × Res × Bool × Mem) := (loopThen (fun (x17 : Int × (Nat × T Res) × (Nat × T Res) × Mem) => (bif (decide (x17.1 < (a3.length : Int))) then ((getI a3 x17.1).bind (fun (x22 : Bool) => (Option.bind (bif x22 then ((D.mem_Memory_Cap fu x17.2.2.2 0).bind (fun (x25 : Cap) => ((D.prog_Prog_Res_Step fu x17.2.1 x17.2.2.2 x25).bind (fun (x26 : (Nat × T Res) × Bool × Mem) => (some (x26.2.2, x26.1, x17.2.2.1)))))) else ((D.mem_Memory_Cap fu x17.2.2.2 0).bind (fun (x34 : Cap) => ((D.prog_Prog_Res_Step fu x17.2.2.1 x17.2.2.2 x34).bind (fun (x35 : (Nat × T Res) × Bool × Mem) => (some (x35.2.2, x17.2.1, x35.1))))))) (fun (x43 : Mem × (Nat × T Res) × (Nat × T Res)) => (some (Lp.next ((IntKind.i64.wrap (x17.1 + 1)), x43.2.1, x43.2.2, x43.1))))))) else (some (Lp.brk (x17.1, x17.2.1, x17.2.2.1, x17.2.2.2))))) fu (0, a0, a1, a2) (fun (x46 : Int × (Nat × T Res) × (Nat × T Res) × Mem) => ((D.mem_Memory_Cap fu x46.2.2.2 0).bind (fun (x49 : Cap) => ((D.prog_Run_Res fu x46.2.1 x46.2.2.2 x49 600).bind (fun (x50 : Res × Int × Bool × Mem) => ((D.mem_Memory_Cap fu x50.2.2.2 0).bind (fun (x53 : Cap) => ((D.prog_Run_Res fu x46.2.2.1 x50.2.2.2 x53 600).bind (fun (x54 : Res × Int × Bool × Mem) => (Option.bind (bif x50.2.2.1 then (some (x50.1, x54.1, x54.2.2.1)) else (some (x50.1, x54.1, false))) (fun (x61 : Res × Res × Bool) => (some (x61.1, x61.2.1, x61.2.2, x54.2.2.2))))))))))))))

theorem c_cubiclelaw17_race {fu : Nat} (w0 : World) {a0_v : Value} {a0_F : List Nat} (a0 : Nat × T Res) {a1_v : Value} {a1_F : List Nat} (a1 : Nat × T Res) {a2_g : MG} (a2 : Mem) {a3_v : Value} (a3 : List Bool) (hS : Sep [progK Tryz.prog encRes a0 a0_v a0_F, progK Tryz.prog encRes a1 a1_v a1_F, memK a2_g a2, roK 4 1 boolE a3_v a3] w0) {res : Res × Res × Bool × Mem} (hD : D.cubiclelaw17_race fu a0 a1 a2 a3 = some res) :
    Calls Tryz.prog 100 #[a0_v, a1_v, .pointer (some ⟨a2_g.mb, 0, none⟩), a3_v] w0 (fun e w' => e = .returned (.tuple #[(.agg (resC res.1).toArray), (.agg (resC res.2.1).toArray), (.bool res.2.2.1)]) ∧ Done (fun b => b ∈ (memK a2_g a2).own) No [memK a2_g res.2.2.2] w0 w') := by
 refine enter Tryz.func100 rfl 74 rfl rfl fun fr r => ?_
 have hP : Post (fun b => b ∈ (memK a2_g a2).own) [progK Tryz.prog encRes a0 a0_v a0_F, progK Tryz.prog encRes a1 a1_v a1_F, memK a2_g a2, roK 4 1 boolE a3_v a3] w0 w0 := .start hS (by simp [memK, progK, roK])
 unfold D.cubiclelaw17_race at hD
 refine wsr ?_
 refine seq_new (.cells a0_v.cells 39 (0, 0)) r (fun R => y_box r (v := a0_v) rfl) rfl fun fr b1 w2 n3 r => ?_
 have hP : Post (fun b => b ∈ (memK a2_g a2).own) [progK Tryz.prog encRes a0 a0_v a0_F, progK Tryz.prog encRes a1 a1_v a1_F, memK a2_g a2, roK 4 1 boolE a3_v a3, cellC b1 a0_v.cells 39] w0 w2 := hP.new n3
 refine seq_new (.cells a1_v.cells 39 (0, 0)) r (fun R => y_box r (v := a1_v) rfl) rfl fun fr b5 w6 n7 r => ?_
 have hP : Post (fun b => b ∈ (memK a2_g a2).own) [progK Tryz.prog encRes a0 a0_v a0_F, progK Tryz.prog encRes a1 a1_v a1_F, memK a2_g a2, roK 4 1 boolE a3_v a3, cellC b1 a0_v.cells 39, cellC b5 a1_v.cells 39] w0 w6 := hP.new n7
 refine seq_new (.cells ((resC (⟨0, 0⟩ : Res))).toArray 32 (0, 0)) r (fun R => y_alloc tz32) rfl fun fr b9 w10 n11 r => ?_
 have hP : Post (fun b => b ∈ (memK a2_g a2).own) [progK Tryz.prog encRes a0 a0_v a0_F, progK Tryz.prog encRes a1 a1_v a1_F, memK a2_g a2, roK 4 1 boolE a3_v a3, cellC b1 a0_v.cells 39, cellC b5 a1_v.cells 39, cellC b9 ((resC (⟨0, 0⟩ : Res))).toArray 32] w0 w10 := hP.new n11
 refine seq_new (.cells ((resC (⟨0, 0⟩ : Res))).toArray 32 (0, 0)) r (fun R => y_alloc tz32) rfl fun fr b13 w14 n15 r => ?_
 have hP : Post (fun b => b ∈ (memK a2_g a2).own) [progK Tryz.prog encRes a0 a0_v a0_F, progK Tryz.prog encRes a1 a1_v a1_F, memK a2_g a2, roK 4 1 boolE a3_v a3, cellC b1 a0_v.cells 39, cellC b5 a1_v.cells 39, cellC b9 ((resC (⟨0, 0⟩ : Res))).toArray 32, cellC b13 ((resC (⟨0, 0⟩ : Res))).toArray 32] w0 w14 := hP.new n15
 refine seq_val (.bool false) r (fun R => y_assign r rfl) rfl fun fr r => ?_
 refine wn ?_
 refine wp_seq ?_
 refine wsr ?_
 refine seq_val (I 0) r (fun R => y_assign r rfl) rfl fun fr r => ?_
 refine wn ?_
 refine wp_loopG (X := Int × (Nat × T Res) × (Nat × T Res) × Mem) (G := Value × List Nat × Value × List Nat) (x0 := (0, a0, a1, a2)) (fun x γ => [(0, a0_v), (1, a1_v), (2, (.pointer (some ⟨a2_g.mb, 0, none⟩))), (3, a3_v), (4, (.pointer (some ⟨b1, 0, none⟩))), (5, (.pointer (some ⟨b5, 0, none⟩))), (8, (.pointer (some ⟨b9, 0, none⟩))), (9, (.pointer (some ⟨b13, 0, none⟩))), (10, (.bool false)), (11, (I x.1))]) (fun x γ w => Post (fun b => b ∈ (memK a2_g a2).own) [progK Tryz.prog encRes x.2.1 γ.1 γ.2.1, progK Tryz.prog encRes x.2.2.1 γ.2.2.1 γ.2.2.2, memK a2_g x.2.2.2, roK 4 1 boolE a3_v a3, cellC b1 γ.1.cells 39, cellC b5 γ.2.2.1.cells 39, cellC b9 ((resC (⟨0, 0⟩ : Res))).toArray 32, cellC b13 ((resC (⟨0, 0⟩ : Res))).toArray 32] w0 w) (a0_v, a0_F, a1_v, a1_F) r (hs_cons rfl (hs_cons rfl (hs_cons rfl (hs_cons rfl (hs_cons rfl (hs_cons rfl (hs_cons rfl (hs_cons rfl (hs_cons rfl (hs_cons rfl hs_nil)))))))))) hP hD ?_ ?_
 ·
  rintro x17 γ18 fr w20 g y19 RPy19 nxy19 bky19 rty19 r hP hD
  have hP : Post (fun b => b ∈ (memK a2_g a2).own) [progK Tryz.prog encRes x17.2.1 γ18.1 γ18.2.1, progK Tryz.prog encRes x17.2.2.1 γ18.2.2.1 γ18.2.2.2, memK a2_g x17.2.2.2, roK 4 1 boolE a3_v a3, cellC b1 γ18.1.cells 39, cellC b5 γ18.2.2.1.cells 39, cellC b9 ((resC (⟨0, 0⟩ : Res))).toArray 32, cellC b13 ((resC (⟨0, 0⟩ : Res))).toArray 32] w0 w20 := hP
  refine wp_seq ?_
  refine wsr ?_
  refine seq_val (I x17.1) r (fun R => y_move r rfl) rfl fun fr r => ?_
  refine seq_val a3_v r (fun R => y_move r rfl) rfl fun fr r => ?_
  refine seq_val (I (a3.length : Int)) r (fun R => y_rowLen r (hP.ro (i := 3) rfl) is55 rfl) rfl fun fr r => ?_
  refine seq_val _ r (fun R => y_bin r rfl rfl rfl rfl) rfl fun fr r => ?_
  refine wn ?_
  refine wp_cond_split (t := (decide (x17.1 < (a3.length : Int)))) (r.ev rfl) (fun h21 => ?_) (fun h21 => ?_)
  ·
   have hD := (cond_t h21).symm.trans hD
   refine wp_skip ?_
   refine wp_seq ?_
   refine wp_block ?_
   refine wsr ?_
   refine seq_val a3_v r (fun R => y_move r rfl) rfl fun fr r => ?_
   refine seq_val (I x17.1) r (fun R => y_move r rfl) rfl fun fr r => ?_
   obtain ⟨x22, hx22, hD⟩ := bindD_elim hD
   refine seq_val (.pointer (some ⟨rowB a3_v, rowO a3_v + x17.1.toNat * 1, none⟩)) r (fun R => y_rowAddr r (hP.ro (i := 3) rfl) hx22 sl55 rfl rfl) rfl fun fr r => ?_
   refine seq_val (.bool x22) r (fun R => y_loadL_one r (u := (.bool x22)) (RoAt.at_ (f := boolE) (x := x22) (hP.ro (i := 3) rfl) (fun _ => rfl) hx22) rfl to4) rfl fun fr r => ?_
   refine wn ?_
   refine wp_joinG (N := 74) (Y := Mem × (Nat × T Res) × (Nat × T Res)) (G := Value × List Nat × Value × List Nat) (fun x γ => [(0, a0_v), (1, a1_v), (2, (.pointer (some ⟨a2_g.mb, 0, none⟩))), (3, a3_v), (4, (.pointer (some ⟨b1, 0, none⟩))), (5, (.pointer (some ⟨b5, 0, none⟩))), (8, (.pointer (some ⟨b9, 0, none⟩))), (9, (.pointer (some ⟨b13, 0, none⟩))), (10, (.bool false)), (11, (I x17.1)), (25, (.bool (decide (x17.1 < (a3.length : Int))))), (31, (.bool x22))]) (fun x γ w => Post (fun b => b ∈ (memK a2_g a2).own) [progK Tryz.prog encRes x.2.1 γ.1 γ.2.1, progK Tryz.prog encRes x.2.2 γ.2.2.1 γ.2.2.2, memK a2_g x.1, roK 4 1 boolE a3_v a3, cellC b1 γ.1.cells 39, cellC b5 γ.2.2.1.cells 39, cellC b9 ((resC (⟨0, 0⟩ : Res))).toArray 32, cellC b13 ((resC (⟨0, 0⟩ : Res))).toArray 32] w0 w) hD ?_ ?_
   ·
    rintro y23 RPy23 nxy23 hD
    refine wp_cond_split (t := x22) (r.ev rfl) (fun h24 => ?_) (fun h24 => ?_)
    ·
     have hD := (cond_t h24).symm.trans hD
     refine wp_seq ?_
     obtain ⟨x25, hx25, hD⟩ := bindD_elim hD
     obtain ⟨x26, hx26, hD⟩ := bindD_elim hD
     refine wp_freeE a2_g.bs [.val γ18.1, .val (.pointer (some ⟨a2_g.mb, 0, none⟩)), .val (.pointer (some ⟨a2_g.mb, 0, none⟩)), .val (.agg (capC x25).toArray), .eff (EffR Tryz.prog encRes w20.heap.size γ18.2.1 (memK a2_g x26.2.2) x26.1 (.bool x26.2.1)) EffR.st, .dep 4 (fun u v => v = u ∧ ∃ y, v = .tuple #[y, (.bool x26.2.1)] ∧ Shape encRes y), .dep 5 (fun u v => Shape encRes v ∧ u = .tuple #[v, (.bool x26.2.1)]), .val (.bool x26.2.1), .cell 39 8, .storedD 8 6 (fun v => v.cells) 39 8, .val (.bool x26.2.1)] mixed r (fun b hb => hP.sep.lt (i := 2) rfl (.inl hb)) (by kernel_rfl) ?_ ?_
     ·
      refine eachE_early r rfl (by kernel_rfl) (fun fr1 g w' hb' hd r' => ?_) ?_
      · exact y_loadp r' ((hP.below (dr hb')).prog (i := 0) rfl).shape rfl ((hP.below (dr hb')).cell (i := 4) rfl) ta39 ⟨Below.refl _ _, rfl⟩
      refine eachE_early r rfl (by kernel_rfl) (fun fr1 g w' hb' hd r' => ?_) ?_
      · exact y_move r' (v := (.pointer (some ⟨a2_g.mb, 0, none⟩))) rfl ⟨Below.refl _ _, rfl⟩
      refine eachE_late r rfl (fun fr1 g w' hk' hd r' => ?_) ?_
      · exact y_move r' (v := (.pointer (some ⟨a2_g.mb, 0, none⟩))) rfl ⟨Below.refl _ _, rfl⟩
      refine eachE_early r rfl (by kernel_rfl) (fun fr1 g w' hb' hd r' => ?_) ?_
      · exact y_call r' (args := [(.pointer (some ⟨a2_g.mb, 0, none⟩)), (I 0)]) (lc (hd 2 rfl).1 (lc rfl l0)) cl31 ((c_mem_Memory_Cap _ x17.2.2.2 ((hP.below (dr hb')).mem (i := 2) rfl) 0 hx25).mono (by rintro _ w2 ⟨rfl, hb2⟩; exact ⟨_, rfl, hb2, rfl⟩))
      refine eachE_early r rfl (by kernel_rfl) (fun fr1 g w' hb' hd r' => ?_) ?_
      · exact y_call r' (args := [γ18.1, (.pointer (some ⟨a2_g.mb, 0, none⟩)), (.agg (capC x25).toArray)]) (lc (hd 0 rfl).1 (lc (hd 1 rfl).1 (lc (hd 3 rfl).1 l0))) cl37 ((c_prog_Prog_Res_Step _ x17.2.1 x17.2.2.2 x25 ((hP.below (dr hb')).sep.pk [0, 2] rfl rfl) hx26).mono (by rintro _ w2 ⟨y, F, rfl, hq⟩; exact ⟨_, rfl, hq.chg.kept, EffR.of hq (fun b hb => hP.sep.lt (i := 2) rfl hb) (fun b hb => hP.sep.lt (i := 0) rfl (.inr hb))⟩))
      refine eachE_late r rfl (fun fr1 g w' hk' hd r' => ?_) ?_
      · obtain ⟨y, F, hv, _, _, _, hr, _⟩ := (hd 4 rfl).1; exact y_move r' (v := (g 4).v) rfl ⟨Below.refl _ _, rfl, y, hv, hr.shape⟩
      refine eachE_late r rfl (fun fr1 g w' hk' hd r' => ?_) ?_
      · obtain ⟨_, y, hv, hs⟩ := (hd 5 rfl).1; exact y_extract r' (vs := #[y, (.bool x26.2.1)]) hv rfl ⟨Below.refl _ _, hs, hv⟩
      refine eachE_late r rfl (fun fr1 g w' hk' hd r' => ?_) ?_
      · obtain ⟨_, y, hv, hs⟩ := (hd 5 rfl).1; exact y_extract r' (vs := #[y, (.bool x26.2.1)]) hv rfl ⟨Below.refl _ _, rfl⟩
      refine eachE_late r rfl (fun fr1 g w' hk' hd r' => ?_) ?_
      · exact y_alloc tz39 (fun b w2 n2 => ⟨n2.below, b, rfl, n2.eq, _, n2.at_, rfl⟩)
      refine eachE_late r rfl (fun fr1 g w' hk' hd r' => ?_) ?_
      · obtain ⟨hp, _, c, hc, hn⟩ := (hd 8 rfl).1; obtain ⟨hs, _⟩ := (hd 6 rfl).1; exact y_storep r' hs hp rfl hc ts39 hn (fun w2 u2 => ⟨u2, rfl, hs.cells.1⟩)
      refine eachE_late r rfl (fun fr1 g w' hk' hd r' => ?_) ?_
      · exact y_assign r' (v := (.bool x26.2.1)) (hd 7 rfl).1 ⟨Below.refl _ _, rfl⟩
      exact eachF_nil
     ·
      intro fr gg w31 hb hΦ hap r
      obtain ⟨v27, F28, g4, hcE, _, _, hrE, hFE⟩ := (hΦ 4 rfl).1
      have g5 := (hΦ 5 rfl).1.1.trans g4
      have g6 : (gg 6).v = v27 := tup_eq ((hΦ 6 rfl).1.2.symm.trans g5)
      obtain ⟨b30, ee_b30⟩ : ∃ b, b = (gg 8).lo := ⟨_, rfl⟩
      have g8 : (gg 8).v = (.pointer (some ⟨b30, 0, none⟩)) := by rw [ee_b30]; exact (hΦ 8 rfl).1.1
      have h_b30 : w31.heap[b30]? = some (.cells v27.cells 39 (0, 0)) := by rw [ee_b30, ← g6]; exact (hΦ 9 rfl).1.2
      have hs8 : Fresh [cellC b30 v27.cells 39] (gg 8).lo (gg 8).hi w31 := by subst ee_b30; exact Fresh.cell (hΦ 8 rfl).1.2.1 h_b30
      have r := r.congr (sc ((hΦ 10 rfl).1) (sc g8 (sc ((hΦ 7 rfl).1) (sc g6 (sc g5 (sc g4 (sc ((hΦ 3 rfl).1) (sc ((hΦ 2 rfl).1) (sc ((hΦ 1 rfl).1) (sc ((hΦ 0 rfl).1) rfl))))))))))
      have hP : Post (fun b => b ∈ (memK a2_g a2).own) [progK Tryz.prog encRes x17.2.1 γ18.1 γ18.2.1, progK Tryz.prog encRes x17.2.2.1 γ18.2.2.1 γ18.2.2.2, memK a2_g x26.2.2, roK 4 1 boolE a3_v a3, cellC b1 γ18.1.cells 39, cellC b5 γ18.2.2.1.cells 39, cellC b9 ((resC (⟨0, 0⟩ : Res))).toArray 32, cellC b13 ((resC (⟨0, 0⟩ : Res))).toArray 32, progK Tryz.prog encRes x26.1 v27 F28, cellC b30 v27.cells 39] w0 w31 := hP.effR (i := 2) (k := 0) (l := [([cellC b30 v27.cells 39], (gg 8).lo, (gg 8).hi)]) rfl rfl rfl hb hcE rfl rfl rfl hrE hFE (hΦ 4 rfl).2.1 (hΦ 4 rfl).2.2.2 ⟨hs8, (hΦ 8 rfl).2.1, disj_nil, trivial⟩ (disj_cons (hap 4 8 rfl) disj_nil)
      refine wp_region_lit ?_
      refine seq_val v27 r (fun R => y_loadp r (hP.prog (i := 8) rfl).shape rfl (hP.cell (i := 9) rfl) ta39) rfl fun fr r => ?_
      refine seq_upd (.cells v27.cells 39 (0, 0)) r (fun R => y_storep r (hP.prog (i := 8) rfl).shape rfl rfl (hP.cell (i := 4) rfl) ts39 (by have h := (hP.prog (i := 0) rfl).shape.cells.1; simpa using h)) rfl fun fr w32 u33 r => ?_
      have hP : Post (fun b => b ∈ (memK a2_g a2).own) [progK Tryz.prog encRes x17.2.1 γ18.1 γ18.2.1, progK Tryz.prog encRes x17.2.2.1 γ18.2.2.1 γ18.2.2.2, memK a2_g x26.2.2, roK 4 1 boolE a3_v a3, cellC b1 v27.cells 39, cellC b5 γ18.2.2.1.cells 39, cellC b9 ((resC (⟨0, 0⟩ : Res))).toArray 32, cellC b13 ((resC (⟨0, 0⟩ : Res))).toArray 32, progK Tryz.prog encRes x26.1 v27 F28, cellC b30 v27.cells 39] w0 w32 := hP.upd (i := 4) rfl u33
      refine wn ?_
      exact nxy23 (x26.2.2, x26.1, x17.2.2.1) (v27, F28, γ18.2.2.1, γ18.2.2.2) _ _ _ hD r (hs_cons rfl (hs_cons rfl (hs_cons rfl (hs_cons rfl (hs_cons rfl (hs_cons rfl (hs_cons rfl (hs_cons rfl (hs_cons rfl (hs_cons rfl (hs_cons rfl (hs_cons rfl hs_nil)))))))))))) (hP.pick [8, 1, 2, 3, 4, 5, 6, 7] rfl rfl)
    ·
     have hD := (cond_f h24).symm.trans hD
     refine wp_seq ?_
     obtain ⟨x34, hx34, hD⟩ := bindD_elim hD
     obtain ⟨x35, hx35, hD⟩ := bindD_elim hD
     refine wp_freeE a2_g.bs [.val γ18.2.2.1, .val (.pointer (some ⟨a2_g.mb, 0, none⟩)), .val (.pointer (some ⟨a2_g.mb, 0, none⟩)), .val (.agg (capC x34).toArray), .eff (EffR Tryz.prog encRes w20.heap.size γ18.2.2.2 (memK a2_g x35.2.2) x35.1 (.bool x35.2.1)) EffR.st, .dep 4 (fun u v => v = u ∧ ∃ y, v = .tuple #[y, (.bool x35.2.1)] ∧ Shape encRes y), .dep 5 (fun u v => Shape encRes v ∧ u = .tuple #[v, (.bool x35.2.1)]), .val (.bool x35.2.1), .cell 39 8, .storedD 8 6 (fun v => v.cells) 39 8, .val (.bool x35.2.1)] mixed r (fun b hb => hP.sep.lt (i := 2) rfl (.inl hb)) (by kernel_rfl) ?_ ?_
     ·
      refine eachE_early r rfl (by kernel_rfl) (fun fr1 g w' hb' hd r' => ?_) ?_
      · exact y_loadp r' ((hP.below (dr hb')).prog (i := 1) rfl).shape rfl ((hP.below (dr hb')).cell (i := 5) rfl) ta39 ⟨Below.refl _ _, rfl⟩
      refine eachE_early r rfl (by kernel_rfl) (fun fr1 g w' hb' hd r' => ?_) ?_
      · exact y_move r' (v := (.pointer (some ⟨a2_g.mb, 0, none⟩))) rfl ⟨Below.refl _ _, rfl⟩
      refine eachE_late r rfl (fun fr1 g w' hk' hd r' => ?_) ?_
      · exact y_move r' (v := (.pointer (some ⟨a2_g.mb, 0, none⟩))) rfl ⟨Below.refl _ _, rfl⟩
      refine eachE_early r rfl (by kernel_rfl) (fun fr1 g w' hb' hd r' => ?_) ?_
      · exact y_call r' (args := [(.pointer (some ⟨a2_g.mb, 0, none⟩)), (I 0)]) (lc (hd 2 rfl).1 (lc rfl l0)) cl31 ((c_mem_Memory_Cap _ x17.2.2.2 ((hP.below (dr hb')).mem (i := 2) rfl) 0 hx34).mono (by rintro _ w2 ⟨rfl, hb2⟩; exact ⟨_, rfl, hb2, rfl⟩))
      refine eachE_early r rfl (by kernel_rfl) (fun fr1 g w' hb' hd r' => ?_) ?_
      · exact y_call r' (args := [γ18.2.2.1, (.pointer (some ⟨a2_g.mb, 0, none⟩)), (.agg (capC x34).toArray)]) (lc (hd 0 rfl).1 (lc (hd 1 rfl).1 (lc (hd 3 rfl).1 l0))) cl37 ((c_prog_Prog_Res_Step _ x17.2.2.1 x17.2.2.2 x34 ((hP.below (dr hb')).sep.pk [1, 2] rfl rfl) hx35).mono (by rintro _ w2 ⟨y, F, rfl, hq⟩; exact ⟨_, rfl, hq.chg.kept, EffR.of hq (fun b hb => hP.sep.lt (i := 2) rfl hb) (fun b hb => hP.sep.lt (i := 1) rfl (.inr hb))⟩))
      refine eachE_late r rfl (fun fr1 g w' hk' hd r' => ?_) ?_
      · obtain ⟨y, F, hv, _, _, _, hr, _⟩ := (hd 4 rfl).1; exact y_move r' (v := (g 4).v) rfl ⟨Below.refl _ _, rfl, y, hv, hr.shape⟩
      refine eachE_late r rfl (fun fr1 g w' hk' hd r' => ?_) ?_
      · obtain ⟨_, y, hv, hs⟩ := (hd 5 rfl).1; exact y_extract r' (vs := #[y, (.bool x35.2.1)]) hv rfl ⟨Below.refl _ _, hs, hv⟩
      refine eachE_late r rfl (fun fr1 g w' hk' hd r' => ?_) ?_
      · obtain ⟨_, y, hv, hs⟩ := (hd 5 rfl).1; exact y_extract r' (vs := #[y, (.bool x35.2.1)]) hv rfl ⟨Below.refl _ _, rfl⟩
      refine eachE_late r rfl (fun fr1 g w' hk' hd r' => ?_) ?_
      · exact y_alloc tz39 (fun b w2 n2 => ⟨n2.below, b, rfl, n2.eq, _, n2.at_, rfl⟩)
      refine eachE_late r rfl (fun fr1 g w' hk' hd r' => ?_) ?_
      · obtain ⟨hp, _, c, hc, hn⟩ := (hd 8 rfl).1; obtain ⟨hs, _⟩ := (hd 6 rfl).1; exact y_storep r' hs hp rfl hc ts39 hn (fun w2 u2 => ⟨u2, rfl, hs.cells.1⟩)
      refine eachE_late r rfl (fun fr1 g w' hk' hd r' => ?_) ?_
      · exact y_assign r' (v := (.bool x35.2.1)) (hd 7 rfl).1 ⟨Below.refl _ _, rfl⟩
      exact eachF_nil
     ·
      intro fr gg w40 hb hΦ hap r
      obtain ⟨v36, F37, g4, hcE, _, _, hrE, hFE⟩ := (hΦ 4 rfl).1
      have g5 := (hΦ 5 rfl).1.1.trans g4
      have g6 : (gg 6).v = v36 := tup_eq ((hΦ 6 rfl).1.2.symm.trans g5)
      obtain ⟨b39, ee_b39⟩ : ∃ b, b = (gg 8).lo := ⟨_, rfl⟩
      have g8 : (gg 8).v = (.pointer (some ⟨b39, 0, none⟩)) := by rw [ee_b39]; exact (hΦ 8 rfl).1.1
      have h_b39 : w40.heap[b39]? = some (.cells v36.cells 39 (0, 0)) := by rw [ee_b39, ← g6]; exact (hΦ 9 rfl).1.2
      have hs8 : Fresh [cellC b39 v36.cells 39] (gg 8).lo (gg 8).hi w40 := by subst ee_b39; exact Fresh.cell (hΦ 8 rfl).1.2.1 h_b39
      have r := r.congr (sc ((hΦ 10 rfl).1) (sc g8 (sc ((hΦ 7 rfl).1) (sc g6 (sc g5 (sc g4 (sc ((hΦ 3 rfl).1) (sc ((hΦ 2 rfl).1) (sc ((hΦ 1 rfl).1) (sc ((hΦ 0 rfl).1) rfl))))))))))
      have hP : Post (fun b => b ∈ (memK a2_g a2).own) [progK Tryz.prog encRes x17.2.1 γ18.1 γ18.2.1, progK Tryz.prog encRes x17.2.2.1 γ18.2.2.1 γ18.2.2.2, memK a2_g x35.2.2, roK 4 1 boolE a3_v a3, cellC b1 γ18.1.cells 39, cellC b5 γ18.2.2.1.cells 39, cellC b9 ((resC (⟨0, 0⟩ : Res))).toArray 32, cellC b13 ((resC (⟨0, 0⟩ : Res))).toArray 32, progK Tryz.prog encRes x35.1 v36 F37, cellC b39 v36.cells 39] w0 w40 := hP.effR (i := 2) (k := 1) (l := [([cellC b39 v36.cells 39], (gg 8).lo, (gg 8).hi)]) rfl rfl rfl hb hcE rfl rfl rfl hrE hFE (hΦ 4 rfl).2.1 (hΦ 4 rfl).2.2.2 ⟨hs8, (hΦ 8 rfl).2.1, disj_nil, trivial⟩ (disj_cons (hap 4 8 rfl) disj_nil)
      refine wp_region_lit ?_
      refine seq_val v36 r (fun R => y_loadp r (hP.prog (i := 8) rfl).shape rfl (hP.cell (i := 9) rfl) ta39) rfl fun fr r => ?_
      refine seq_upd (.cells v36.cells 39 (0, 0)) r (fun R => y_storep r (hP.prog (i := 8) rfl).shape rfl rfl (hP.cell (i := 5) rfl) ts39 (by have h := (hP.prog (i := 1) rfl).shape.cells.1; simpa using h)) rfl fun fr w41 u42 r => ?_
      have hP : Post (fun b => b ∈ (memK a2_g a2).own) [progK Tryz.prog encRes x17.2.1 γ18.1 γ18.2.1, progK Tryz.prog encRes x17.2.2.1 γ18.2.2.1 γ18.2.2.2, memK a2_g x35.2.2, roK 4 1 boolE a3_v a3, cellC b1 γ18.1.cells 39, cellC b5 v36.cells 39, cellC b9 ((resC (⟨0, 0⟩ : Res))).toArray 32, cellC b13 ((resC (⟨0, 0⟩ : Res))).toArray 32, progK Tryz.prog encRes x35.1 v36 F37, cellC b39 v36.cells 39] w0 w41 := hP.upd (i := 5) rfl u42
      refine wn ?_
      exact nxy23 (x35.2.2, x17.2.1, x35.1) (γ18.1, γ18.2.1, v36, F37) _ _ _ hD r (hs_cons rfl (hs_cons rfl (hs_cons rfl (hs_cons rfl (hs_cons rfl (hs_cons rfl (hs_cons rfl (hs_cons rfl (hs_cons rfl (hs_cons rfl (hs_cons rfl (hs_cons rfl hs_nil)))))))))))) (hP.pick [0, 8, 2, 3, 4, 5, 6, 7] rfl rfl)
   ·
    rintro x43 γ44 fr w45 g r hP hD
    have hP : Post (fun b => b ∈ (memK a2_g a2).own) [progK Tryz.prog encRes x43.2.1 γ44.1 γ44.2.1, progK Tryz.prog encRes x43.2.2 γ44.2.2.1 γ44.2.2.2, memK a2_g x43.1, roK 4 1 boolE a3_v a3, cellC b1 γ44.1.cells 39, cellC b5 γ44.2.2.1.cells 39, cellC b9 ((resC (⟨0, 0⟩ : Res))).toArray 32, cellC b13 ((resC (⟨0, 0⟩ : Res))).toArray 32] w0 w45 := hP
    refine wp_region_lit ?_
    refine seq_val (I x17.1) r (fun R => y_move r rfl) rfl fun fr r => ?_
    refine seq_val _ r (fun R => y_bin r rfl rfl rfl rfl) rfl fun fr r => ?_
    refine seq_val (I (W (x17.1 + 1))) r (fun R => y_assign r rfl) rfl fun fr r => ?_
    refine wn ?_
    exact nxy19 ((W (x17.1 + 1)), x43.2.1, x43.2.2, x43.1) (γ44.1, γ44.2.1, γ44.2.2.1, γ44.2.2.2) _ _ _ hD r (hs_cons rfl (hs_cons rfl (hs_cons rfl (hs_cons rfl (hs_cons rfl (hs_cons rfl (hs_cons rfl (hs_cons rfl (hs_cons rfl (hs_cons rfl hs_nil)))))))))) (hP.pick [0, 1, 2, 3, 4, 5, 6, 7] rfl rfl)
  ·
   have hD := (cond_f h21).symm.trans hD
   refine wp_exit ?_
   exact bky19 (x17.1, x17.2.1, x17.2.2.1, x17.2.2.2) (γ18.1, γ18.2.1, γ18.2.2.1, γ18.2.2.2) _ _ _ hD r (hs_cons rfl (hs_cons rfl (hs_cons rfl (hs_cons rfl (hs_cons rfl (hs_cons rfl (hs_cons rfl (hs_cons rfl (hs_cons rfl (hs_cons rfl hs_nil)))))))))) (hP.pick [0, 1, 2, 3, 4, 5, 6, 7] rfl rfl)
 ·
  rintro x46 γ47 fr w48 g r hP hD
  have hP : Post (fun b => b ∈ (memK a2_g a2).own) [progK Tryz.prog encRes x46.2.1 γ47.1 γ47.2.1, progK Tryz.prog encRes x46.2.2.1 γ47.2.2.1 γ47.2.2.2, memK a2_g x46.2.2.2, roK 4 1 boolE a3_v a3, cellC b1 γ47.1.cells 39, cellC b5 γ47.2.2.1.cells 39, cellC b9 ((resC (⟨0, 0⟩ : Res))).toArray 32, cellC b13 ((resC (⟨0, 0⟩ : Res))).toArray 32] w0 w48 := hP
  refine wp_seq ?_
  obtain ⟨x49, hx49, hD⟩ := bindD_elim hD
  obtain ⟨x50, hx50, hD⟩ := bindD_elim hD
  refine wp_freeE a2_g.bs [.val γ47.1, .val (.pointer (some ⟨a2_g.mb, 0, none⟩)), .val (.pointer (some ⟨a2_g.mb, 0, none⟩)), .val (.agg (capC x49).toArray), .eff (EffP w48.heap.size (memK a2_g x50.2.2.2) (fun _ : Unit => (.tuple #[(.agg (resC x50.1).toArray), (I x50.2.1), (.bool x50.2.2.1)])) (fun _ : Unit => [])) (EffP.st _ _ _ _), .val (.tuple #[(.agg (resC x50.1).toArray), (I x50.2.1), (.bool x50.2.2.1)]), .val (.agg (resC x50.1).toArray), .val (I x50.2.1), .val (.bool x50.2.2.1), .cell 32 2, .stored 9 ((resC x50.1)).toArray 32 2 rfl, .val (I x50.2.1), .val (.bool x50.2.2.1)] mixed r (fun b hb => hP.sep.lt (i := 2) rfl (.inl hb)) (by kernel_rfl) ?_ ?_
  ·
   refine eachE_early r rfl (by kernel_rfl) (fun fr1 g w' hb' hd r' => ?_) ?_
   · exact y_loadp r' ((hP.below (dr hb')).prog (i := 0) rfl).shape rfl ((hP.below (dr hb')).cell (i := 4) rfl) ta39 ⟨Below.refl _ _, rfl⟩
   refine eachE_early r rfl (by kernel_rfl) (fun fr1 g w' hb' hd r' => ?_) ?_
   · exact y_move r' (v := (.pointer (some ⟨a2_g.mb, 0, none⟩))) rfl ⟨Below.refl _ _, rfl⟩
   refine eachE_late r rfl (fun fr1 g w' hk' hd r' => ?_) ?_
   · exact y_move r' (v := (.pointer (some ⟨a2_g.mb, 0, none⟩))) rfl ⟨Below.refl _ _, rfl⟩
   refine eachE_early r rfl (by kernel_rfl) (fun fr1 g w' hb' hd r' => ?_) ?_
   · exact y_call r' (args := [(.pointer (some ⟨a2_g.mb, 0, none⟩)), (I 0)]) (lc (hd 2 rfl).1 (lc rfl l0)) cl31 ((c_mem_Memory_Cap _ x46.2.2.2 ((hP.below (dr hb')).mem (i := 2) rfl) 0 hx49).mono (by rintro _ w2 ⟨rfl, hb2⟩; exact ⟨_, rfl, hb2, rfl⟩))
   refine eachE_early r rfl (by kernel_rfl) (fun fr1 g w' hb' hd r' => ?_) ?_
   · exact y_call r' (args := [γ47.1, (.pointer (some ⟨a2_g.mb, 0, none⟩)), (.agg (capC x49).toArray), (I 600)]) (lc (hd 0 rfl).1 (lc (hd 1 rfl).1 (lc (hd 3 rfl).1 (lc rfl l0)))) cl29 ((c_prog_Run_Res _ x46.2.1 x46.2.2.2 x49 600 ((hP.below (dr hb')).sep.pk [0, 2] rfl rfl) hx50).mono (by rintro _ w2 ⟨rfl, hq⟩; exact ⟨_, rfl, hq.chg.kept, EffP.of () hq rfl (fun b hb => hP.sep.lt (i := 2) rfl hb)⟩))
   refine eachE_late r rfl (fun fr1 g w' hk' hd r' => ?_) ?_
   · exact y_move r' (v := (.tuple #[(.agg (resC x50.1).toArray), (I x50.2.1), (.bool x50.2.2.1)])) (EffP.val (hd 4 rfl).1) ⟨Below.refl _ _, rfl⟩
   refine eachE_late r rfl (fun fr1 g w' hk' hd r' => ?_) ?_
   · exact y_extract r' (vs := #[(.agg (resC x50.1).toArray), (I x50.2.1), (.bool x50.2.2.1)]) (hd 5 rfl).1 rfl ⟨Below.refl _ _, rfl⟩
   refine eachE_late r rfl (fun fr1 g w' hk' hd r' => ?_) ?_
   · exact y_extract r' (vs := #[(.agg (resC x50.1).toArray), (I x50.2.1), (.bool x50.2.2.1)]) (hd 5 rfl).1 rfl ⟨Below.refl _ _, rfl⟩
   refine eachE_late r rfl (fun fr1 g w' hk' hd r' => ?_) ?_
   · exact y_extract r' (vs := #[(.agg (resC x50.1).toArray), (I x50.2.1), (.bool x50.2.2.1)]) (hd 5 rfl).1 rfl ⟨Below.refl _ _, rfl⟩
   refine eachE_late r rfl (fun fr1 g w' hk' hd r' => ?_) ?_
   · exact y_alloc tz32 (fun b w2 n2 => ⟨n2.below, b, rfl, n2.eq, _, n2.at_, rfl⟩)
   refine eachE_late r rfl (fun fr1 g w' hk' hd r' => ?_) ?_
   · obtain ⟨hp, _, c, hc, hn⟩ := (hd 9 rfl).1; exact y_store r' (o := 0) (c := c) (v := (.agg (resC x50.1).toArray)) hp (hd 6 rfl).1 hc ts32 (by rw [hn]; exact Nat.le_of_ble_eq_true rfl) rfl (over2_full (hn.trans rfl)) (fun w2 u2 => ⟨u2, rfl⟩)
   refine eachE_late r rfl (fun fr1 g w' hk' hd r' => ?_) ?_
   · exact y_assign r' (v := (I x50.2.1)) (hd 7 rfl).1 ⟨Below.refl _ _, rfl⟩
   refine eachE_late r rfl (fun fr1 g w' hk' hd r' => ?_) ?_
   · exact y_assign r' (v := (.bool x50.2.2.1)) (hd 8 rfl).1 ⟨Below.refl _ _, rfl⟩
   exact eachF_nil
  ·
   intro fr gg w52 hb hΦ hap r
   obtain ⟨⟨⟩, g4, hcE, _, hs4⟩ := (hΦ 4 rfl).1
   obtain ⟨b51, ee_b51⟩ : ∃ b, b = (gg 9).lo := ⟨_, rfl⟩
   have g9 : (gg 9).v = (.pointer (some ⟨b51, 0, none⟩)) := by rw [ee_b51]; exact (hΦ 9 rfl).1.1
   have h_b51 : w52.heap[b51]? = some (.cells ((resC x50.1)).toArray 32 (0, 0)) := by rw [ee_b51]; exact (hΦ 10 rfl).1.2
   have hs9 : Fresh [cellC b51 ((resC x50.1)).toArray 32] (gg 9).lo (gg 9).hi w52 := by subst ee_b51; exact Fresh.cell (hΦ 9 rfl).1.2.1 h_b51
   have r := r.congr (sc ((hΦ 12 rfl).1) (sc ((hΦ 11 rfl).1) (sc g9 (sc ((hΦ 8 rfl).1) (sc ((hΦ 7 rfl).1) (sc ((hΦ 6 rfl).1) (sc ((hΦ 5 rfl).1) (sc g4 (sc ((hΦ 3 rfl).1) (sc ((hΦ 2 rfl).1) (sc ((hΦ 1 rfl).1) (sc ((hΦ 0 rfl).1) rfl))))))))))))
   have hP : Post (fun b => b ∈ (memK a2_g a2).own) [progK Tryz.prog encRes x46.2.1 γ47.1 γ47.2.1, progK Tryz.prog encRes x46.2.2.1 γ47.2.2.1 γ47.2.2.2, memK a2_g x50.2.2.2, roK 4 1 boolE a3_v a3, cellC b1 γ47.1.cells 39, cellC b5 γ47.2.2.1.cells 39, cellC b9 ((resC (⟨0, 0⟩ : Res))).toArray 32, cellC b13 ((resC (⟨0, 0⟩ : Res))).toArray 32, cellC b51 ((resC x50.1)).toArray 32] w0 w52 := hP.effL (i := 2) (l := [([cellC b51 ((resC x50.1)).toArray 32], (gg 9).lo, (gg 9).hi)]) rfl hb hcE rfl rfl ⟨hs9, (hΦ 9 rfl).2.1, disj_nil, trivial⟩
   refine wp_seq ?_
   obtain ⟨x53, hx53, hD⟩ := bindD_elim hD
   obtain ⟨x54, hx54, hD⟩ := bindD_elim hD
   refine wp_freeE a2_g.bs [.val γ47.2.2.1, .val (.pointer (some ⟨a2_g.mb, 0, none⟩)), .val (.pointer (some ⟨a2_g.mb, 0, none⟩)), .val (.agg (capC x53).toArray), .eff (EffP w52.heap.size (memK a2_g x54.2.2.2) (fun _ : Unit => (.tuple #[(.agg (resC x54.1).toArray), (I x54.2.1), (.bool x54.2.2.1)])) (fun _ : Unit => [])) (EffP.st _ _ _ _), .val (.tuple #[(.agg (resC x54.1).toArray), (I x54.2.1), (.bool x54.2.2.1)]), .val (.agg (resC x54.1).toArray), .val (I x54.2.1), .val (.bool x54.2.2.1), .cell 32 2, .stored 9 ((resC x54.1)).toArray 32 2 rfl, .val (I x54.2.1), .val (.bool x54.2.2.1)] mixed r (fun b hb => hP.sep.lt (i := 2) rfl (.inl hb)) (by kernel_rfl) ?_ ?_
   ·
    refine eachE_early r rfl (by kernel_rfl) (fun fr1 g w' hb' hd r' => ?_) ?_
    · exact y_loadp r' ((hP.below (dr hb')).prog (i := 1) rfl).shape rfl ((hP.below (dr hb')).cell (i := 5) rfl) ta39 ⟨Below.refl _ _, rfl⟩
    refine eachE_early r rfl (by kernel_rfl) (fun fr1 g w' hb' hd r' => ?_) ?_
    · exact y_move r' (v := (.pointer (some ⟨a2_g.mb, 0, none⟩))) rfl ⟨Below.refl _ _, rfl⟩
    refine eachE_late r rfl (fun fr1 g w' hk' hd r' => ?_) ?_
    · exact y_move r' (v := (.pointer (some ⟨a2_g.mb, 0, none⟩))) rfl ⟨Below.refl _ _, rfl⟩
    refine eachE_early r rfl (by kernel_rfl) (fun fr1 g w' hb' hd r' => ?_) ?_
    · exact y_call r' (args := [(.pointer (some ⟨a2_g.mb, 0, none⟩)), (I 0)]) (lc (hd 2 rfl).1 (lc rfl l0)) cl31 ((c_mem_Memory_Cap _ x50.2.2.2 ((hP.below (dr hb')).mem (i := 2) rfl) 0 hx53).mono (by rintro _ w2 ⟨rfl, hb2⟩; exact ⟨_, rfl, hb2, rfl⟩))
    refine eachE_early r rfl (by kernel_rfl) (fun fr1 g w' hb' hd r' => ?_) ?_
    · exact y_call r' (args := [γ47.2.2.1, (.pointer (some ⟨a2_g.mb, 0, none⟩)), (.agg (capC x53).toArray), (I 600)]) (lc (hd 0 rfl).1 (lc (hd 1 rfl).1 (lc (hd 3 rfl).1 (lc rfl l0)))) cl29 ((c_prog_Run_Res _ x46.2.2.1 x50.2.2.2 x53 600 ((hP.below (dr hb')).sep.pk [1, 2] rfl rfl) hx54).mono (by rintro _ w2 ⟨rfl, hq⟩; exact ⟨_, rfl, hq.chg.kept, EffP.of () hq rfl (fun b hb => hP.sep.lt (i := 2) rfl hb)⟩))
    refine eachE_late r rfl (fun fr1 g w' hk' hd r' => ?_) ?_
    · exact y_move r' (v := (.tuple #[(.agg (resC x54.1).toArray), (I x54.2.1), (.bool x54.2.2.1)])) (EffP.val (hd 4 rfl).1) ⟨Below.refl _ _, rfl⟩
    refine eachE_late r rfl (fun fr1 g w' hk' hd r' => ?_) ?_
    · exact y_extract r' (vs := #[(.agg (resC x54.1).toArray), (I x54.2.1), (.bool x54.2.2.1)]) (hd 5 rfl).1 rfl ⟨Below.refl _ _, rfl⟩
    refine eachE_late r rfl (fun fr1 g w' hk' hd r' => ?_) ?_
    · exact y_extract r' (vs := #[(.agg (resC x54.1).toArray), (I x54.2.1), (.bool x54.2.2.1)]) (hd 5 rfl).1 rfl ⟨Below.refl _ _, rfl⟩
    refine eachE_late r rfl (fun fr1 g w' hk' hd r' => ?_) ?_
    · exact y_extract r' (vs := #[(.agg (resC x54.1).toArray), (I x54.2.1), (.bool x54.2.2.1)]) (hd 5 rfl).1 rfl ⟨Below.refl _ _, rfl⟩
    refine eachE_late r rfl (fun fr1 g w' hk' hd r' => ?_) ?_
    · exact y_alloc tz32 (fun b w2 n2 => ⟨n2.below, b, rfl, n2.eq, _, n2.at_, rfl⟩)
    refine eachE_late r rfl (fun fr1 g w' hk' hd r' => ?_) ?_
    · obtain ⟨hp, _, c, hc, hn⟩ := (hd 9 rfl).1; exact y_store r' (o := 0) (c := c) (v := (.agg (resC x54.1).toArray)) hp (hd 6 rfl).1 hc ts32 (by rw [hn]; exact Nat.le_of_ble_eq_true rfl) rfl (over2_full (hn.trans rfl)) (fun w2 u2 => ⟨u2, rfl⟩)
    refine eachE_late r rfl (fun fr1 g w' hk' hd r' => ?_) ?_
    · exact y_assign r' (v := (I x54.2.1)) (hd 7 rfl).1 ⟨Below.refl _ _, rfl⟩
    refine eachE_late r rfl (fun fr1 g w' hk' hd r' => ?_) ?_
    · exact y_assign r' (v := (.bool x54.2.2.1)) (hd 8 rfl).1 ⟨Below.refl _ _, rfl⟩
    exact eachF_nil
   ·
    intro fr gg w56 hb hΦ hap r
    obtain ⟨⟨⟩, g4, hcE, _, hs4⟩ := (hΦ 4 rfl).1
    obtain ⟨b55, ee_b55⟩ : ∃ b, b = (gg 9).lo := ⟨_, rfl⟩
    have g9 : (gg 9).v = (.pointer (some ⟨b55, 0, none⟩)) := by rw [ee_b55]; exact (hΦ 9 rfl).1.1
    have h_b55 : w56.heap[b55]? = some (.cells ((resC x54.1)).toArray 32 (0, 0)) := by rw [ee_b55]; exact (hΦ 10 rfl).1.2
    have hs9 : Fresh [cellC b55 ((resC x54.1)).toArray 32] (gg 9).lo (gg 9).hi w56 := by subst ee_b55; exact Fresh.cell (hΦ 9 rfl).1.2.1 h_b55
    have r := r.congr (sc ((hΦ 12 rfl).1) (sc ((hΦ 11 rfl).1) (sc g9 (sc ((hΦ 8 rfl).1) (sc ((hΦ 7 rfl).1) (sc ((hΦ 6 rfl).1) (sc ((hΦ 5 rfl).1) (sc g4 (sc ((hΦ 3 rfl).1) (sc ((hΦ 2 rfl).1) (sc ((hΦ 1 rfl).1) (sc ((hΦ 0 rfl).1) rfl))))))))))))
    have hP : Post (fun b => b ∈ (memK a2_g a2).own) [progK Tryz.prog encRes x46.2.1 γ47.1 γ47.2.1, progK Tryz.prog encRes x46.2.2.1 γ47.2.2.1 γ47.2.2.2, memK a2_g x54.2.2.2, roK 4 1 boolE a3_v a3, cellC b1 γ47.1.cells 39, cellC b5 γ47.2.2.1.cells 39, cellC b9 ((resC (⟨0, 0⟩ : Res))).toArray 32, cellC b13 ((resC (⟨0, 0⟩ : Res))).toArray 32, cellC b51 ((resC x50.1)).toArray 32, cellC b55 ((resC x54.1)).toArray 32] w0 w56 := hP.effL (i := 2) (l := [([cellC b55 ((resC x54.1)).toArray 32], (gg 9).lo, (gg 9).hi)]) rfl hb hcE rfl rfl ⟨hs9, (hΦ 9 rfl).2.1, disj_nil, trivial⟩
    refine wp_seq ?_
    refine wp_joinG (N := 74) (Y := Res × Res × Bool) (G := Unit) (fun x γ => [(0, a0_v), (1, a1_v), (2, (.pointer (some ⟨a2_g.mb, 0, none⟩))), (3, a3_v), (4, (.pointer (some ⟨b1, 0, none⟩))), (5, (.pointer (some ⟨b5, 0, none⟩))), (8, (.pointer (some ⟨b9, 0, none⟩))), (9, (.pointer (some ⟨b13, 0, none⟩))), (11, (I x46.1)), (16, (.pointer (some ⟨b51, 0, none⟩))), (18, (.bool x50.2.2.1)), (19, (.pointer (some ⟨b55, 0, none⟩))), (21, (.bool x54.2.2.1)), (10, (.bool x.2.2))]) (fun x γ w => Post (fun b => b ∈ (memK a2_g a2).own) [progK Tryz.prog encRes x46.2.1 γ47.1 γ47.2.1, progK Tryz.prog encRes x46.2.2.1 γ47.2.2.1 γ47.2.2.2, memK a2_g x54.2.2.2, roK 4 1 boolE a3_v a3, cellC b1 γ47.1.cells 39, cellC b5 γ47.2.2.1.cells 39, cellC b9 ((resC x.1)).toArray 32, cellC b13 ((resC x.2.1)).toArray 32, cellC b51 ((resC x50.1)).toArray 32, cellC b55 ((resC x54.1)).toArray 32] w0 w) hD ?_ ?_
    ·
     rintro y57 RPy57 nxy57 hD
     refine seq_split x50.2.2.1 (fun h58 => ?_) (fun h58 => ?_)
     ·
      have hD := (cond_t h58).symm.trans hD
      refine wp_putsP [b9, b13] [.val (.agg (resC x50.1).toArray), .val (.agg (resC x54.1).toArray), .val (.bool x50.2.2.1), .val (.bool x50.2.2.1), .val (.bool x54.2.2.1), .val (.bool x54.2.2.1), .put 0 ((resC x50.1)).toArray 32, .put 1 ((resC x54.1)).toArray 32, .val (.bool x54.2.2.1)] mixed r (hP.lt2 (i1 := 6) (i2 := 7) rfl rfl) (nd2 (hP.cne (i1 := 6) (i2 := 7) rfl rfl rfl)) (by kernel_rfl) ?_ ?_
      ·
       refine eachP_val r rfl rfl (fun fr1 g w' hk' hd r' => ?_) ?_
       · exact y_load_agg r' (cs := (resC x50.1)) (n := 2) rfl (hP.cellP (i1 := 6) (i2 := 7) rfl rfl (drK hk') (i := 8) rfl rfl rfl) ta32 rfl ⟨Below.refl _ _, rfl⟩
       refine eachP_val r rfl rfl (fun fr1 g w' hk' hd r' => ?_) ?_
       · exact y_load_agg r' (cs := (resC x54.1)) (n := 2) rfl (hP.cellP (i1 := 6) (i2 := 7) rfl rfl (drK hk') (i := 9) rfl rfl rfl) ta32 rfl ⟨Below.refl _ _, rfl⟩
       refine eachP_val r rfl rfl (fun fr1 g w' hk' hd r' => ?_) ?_
       · exact y_move r' (v := (.bool x50.2.2.1)) rfl ⟨Below.refl _ _, rfl⟩
       refine eachP_val r rfl rfl (fun fr1 g w' hk' hd r' => ?_) ?_
       · exact y_move r' (v := (.bool x50.2.2.1)) (hd 2 rfl) ⟨Below.refl _ _, rfl⟩
       refine eachP_want true r rfl rfl rfl rfl (fun g hd => Eq.trans (show g 3 = .bool x50.2.2.1 from hd 3 rfl) (congrArg Value.bool h58)) (fun fr1 g w' hk' hd r' => ?_) ?_
       · exact y_move r' (v := (.bool x54.2.2.1)) rfl ⟨Below.refl _ _, rfl⟩
       refine eachP_val r rfl rfl (fun fr1 g w' hk' hd r' => ?_) ?_
       · exact y_pick r' (b := true) (v := (.bool x54.2.2.1)) (Eq.trans (show g 3 = .bool x50.2.2.1 from (hd 3 rfl)) (congrArg Value.bool h58)) (hd 4 rfl) ⟨Below.refl _ _, rfl⟩
       refine eachP_put (k := 0) (b := b9) r rfl rfl rfl (fun fr1 g w' hk' hd r' hu => ?_) ?_
       · exact y_store r' (o := 0) (v := (.agg (resC x50.1).toArray)) rfl (hd 0 rfl) (hu.trans (hP.cell (i := 6) rfl)) ts32 (Nat.le_of_ble_eq_true rfl) rfl rfl (fun w2 u2 => ⟨u2, rfl⟩)
       refine eachP_put (k := 1) (b := b13) r rfl rfl rfl (fun fr1 g w' hk' hd r' hu => ?_) ?_
       · exact y_store r' (o := 0) (v := (.agg (resC x54.1).toArray)) rfl (hd 1 rfl) (hu.trans (hP.cell (i := 7) rfl)) ts32 (Nat.le_of_ble_eq_true rfl) rfl rfl (fun w2 u2 => ⟨u2, rfl⟩)
       refine eachP_val r rfl rfl (fun fr1 g w' hk' hd r' => ?_) ?_
       · exact y_assign r' (v := (.bool x54.2.2.1)) (hd 5 rfl) ⟨Below.refl _ _, rfl⟩
       exact eachP_nil
      ·
       intro fr gg w59 hb hΦ hpt r
       have g0 : gg 0 = (.agg (resC x50.1).toArray) := hΦ 0 rfl
       have g1 : gg 1 = (.agg (resC x54.1).toArray) := hΦ 1 rfl
       have g2 : gg 2 = (.bool x50.2.2.1) := hΦ 2 rfl
       have g3 : gg 3 = (.bool x50.2.2.1) := hΦ 3 rfl
       have g4 : gg 4 = (.bool x54.2.2.1) := hΦ 4 rfl
       have g5 : gg 5 = (.bool x54.2.2.1) := hΦ 5 rfl
       have g8 : gg 8 = (.bool x54.2.2.1) := hΦ 8 rfl
       have r := r.congr (sc g8 (sc g5 (sc g4 (sc g3 (sc g2 (sc g1 (sc g0 rfl)))))))
       have hP : Post (fun b => b ∈ (memK a2_g a2).own) [progK Tryz.prog encRes x46.2.1 γ47.1 γ47.2.1, progK Tryz.prog encRes x46.2.2.1 γ47.2.2.1 γ47.2.2.2, memK a2_g x54.2.2.2, roK 4 1 boolE a3_v a3, cellC b1 γ47.1.cells 39, cellC b5 γ47.2.2.1.cells 39, cellC b9 ((resC x50.1)).toArray 32, cellC b13 ((resC x54.1)).toArray 32, cellC b51 ((resC x50.1)).toArray 32, cellC b55 ((resC x54.1)).toArray 32] w0 w59 := hP.put2 (i1 := 6) (i2 := 7) rfl rfl rfl hb (hpt 6 _ _ _ _ rfl rfl rfl) (hpt 7 _ _ _ _ rfl rfl rfl)
       exact nxy57 (x50.1, x54.1, x54.2.2.1) () _ _ _ hD r (hs_cons rfl (hs_cons rfl (hs_cons rfl (hs_cons rfl (hs_cons rfl (hs_cons rfl (hs_cons rfl (hs_cons rfl (hs_cons rfl (hs_cons rfl (hs_cons rfl (hs_cons rfl (hs_cons rfl (hs_cons rfl hs_nil)))))))))))))) (hP.pick [0, 1, 2, 3, 4, 5, 6, 7, 8, 9] rfl rfl)
     ·
      have hD := (cond_f h58).symm.trans hD
      refine wp_putsP [b9, b13] [.val (.agg (resC x50.1).toArray), .val (.agg (resC x54.1).toArray), .val (.bool x50.2.2.1), .val (.bool x50.2.2.1), .val undef, .val (.bool false), .put 0 ((resC x50.1)).toArray 32, .put 1 ((resC x54.1)).toArray 32, .val (.bool false)] mixed r (hP.lt2 (i1 := 6) (i2 := 7) rfl rfl) (nd2 (hP.cne (i1 := 6) (i2 := 7) rfl rfl rfl)) (by kernel_rfl) ?_ ?_
      ·
       refine eachP_val r rfl rfl (fun fr1 g w' hk' hd r' => ?_) ?_
       · exact y_load_agg r' (cs := (resC x50.1)) (n := 2) rfl (hP.cellP (i1 := 6) (i2 := 7) rfl rfl (drK hk') (i := 8) rfl rfl rfl) ta32 rfl ⟨Below.refl _ _, rfl⟩
       refine eachP_val r rfl rfl (fun fr1 g w' hk' hd r' => ?_) ?_
       · exact y_load_agg r' (cs := (resC x54.1)) (n := 2) rfl (hP.cellP (i1 := 6) (i2 := 7) rfl rfl (drK hk') (i := 9) rfl rfl rfl) ta32 rfl ⟨Below.refl _ _, rfl⟩
       refine eachP_val r rfl rfl (fun fr1 g w' hk' hd r' => ?_) ?_
       · exact y_move r' (v := (.bool x50.2.2.1)) rfl ⟨Below.refl _ _, rfl⟩
       refine eachP_val r rfl rfl (fun fr1 g w' hk' hd r' => ?_) ?_
       · exact y_move r' (v := (.bool x50.2.2.1)) (hd 2 rfl) ⟨Below.refl _ _, rfl⟩
       refine eachP_skip true (.bool false) r rfl rfl rfl rfl (fun g hd => Eq.trans (show g 3 = .bool x50.2.2.1 from hd 3 rfl) (congrArg Value.bool h58)) (by simp [boolOf]) ?_
       refine eachP_val r rfl rfl (fun fr1 g w' hk' hd r' => ?_) ?_
       · exact y_pick r' (b := false) (v := (.bool false)) (Eq.trans (show g 3 = .bool x50.2.2.1 from (hd 3 rfl)) (congrArg Value.bool h58)) rfl ⟨Below.refl _ _, rfl⟩
       refine eachP_put (k := 0) (b := b9) r rfl rfl rfl (fun fr1 g w' hk' hd r' hu => ?_) ?_
       · exact y_store r' (o := 0) (v := (.agg (resC x50.1).toArray)) rfl (hd 0 rfl) (hu.trans (hP.cell (i := 6) rfl)) ts32 (Nat.le_of_ble_eq_true rfl) rfl rfl (fun w2 u2 => ⟨u2, rfl⟩)
       refine eachP_put (k := 1) (b := b13) r rfl rfl rfl (fun fr1 g w' hk' hd r' hu => ?_) ?_
       · exact y_store r' (o := 0) (v := (.agg (resC x54.1).toArray)) rfl (hd 1 rfl) (hu.trans (hP.cell (i := 7) rfl)) ts32 (Nat.le_of_ble_eq_true rfl) rfl rfl (fun w2 u2 => ⟨u2, rfl⟩)
       refine eachP_val r rfl rfl (fun fr1 g w' hk' hd r' => ?_) ?_
       · exact y_assign r' (v := (.bool false)) (hd 5 rfl) ⟨Below.refl _ _, rfl⟩
       exact eachP_nil
      ·
       intro fr gg w60 hb hΦ hpt r
       have g0 : gg 0 = (.agg (resC x50.1).toArray) := hΦ 0 rfl
       have g1 : gg 1 = (.agg (resC x54.1).toArray) := hΦ 1 rfl
       have g2 : gg 2 = (.bool x50.2.2.1) := hΦ 2 rfl
       have g3 : gg 3 = (.bool x50.2.2.1) := hΦ 3 rfl
       have g4 : gg 4 = undef := hΦ 4 rfl
       have g5 : gg 5 = (.bool false) := hΦ 5 rfl
       have g8 : gg 8 = (.bool false) := hΦ 8 rfl
       have r := r.congr (sc g8 (sc g5 (sc g4 (sc g3 (sc g2 (sc g1 (sc g0 rfl)))))))
       have hP : Post (fun b => b ∈ (memK a2_g a2).own) [progK Tryz.prog encRes x46.2.1 γ47.1 γ47.2.1, progK Tryz.prog encRes x46.2.2.1 γ47.2.2.1 γ47.2.2.2, memK a2_g x54.2.2.2, roK 4 1 boolE a3_v a3, cellC b1 γ47.1.cells 39, cellC b5 γ47.2.2.1.cells 39, cellC b9 ((resC x50.1)).toArray 32, cellC b13 ((resC x54.1)).toArray 32, cellC b51 ((resC x50.1)).toArray 32, cellC b55 ((resC x54.1)).toArray 32] w0 w60 := hP.put2 (i1 := 6) (i2 := 7) rfl rfl rfl hb (hpt 6 _ _ _ _ rfl rfl rfl) (hpt 7 _ _ _ _ rfl rfl rfl)
       exact nxy57 (x50.1, x54.1, false) () _ _ _ hD r (hs_cons rfl (hs_cons rfl (hs_cons rfl (hs_cons rfl (hs_cons rfl (hs_cons rfl (hs_cons rfl (hs_cons rfl (hs_cons rfl (hs_cons rfl (hs_cons rfl (hs_cons rfl (hs_cons rfl (hs_cons rfl hs_nil)))))))))))))) (hP.pick [0, 1, 2, 3, 4, 5, 6, 7, 8, 9] rfl rfl)
    ·
     rintro x61 γ62 fr w63 g r hP hD
     have hP : Post (fun b => b ∈ (memK a2_g a2).own) [progK Tryz.prog encRes x46.2.1 γ47.1 γ47.2.1, progK Tryz.prog encRes x46.2.2.1 γ47.2.2.1 γ47.2.2.2, memK a2_g x54.2.2.2, roK 4 1 boolE a3_v a3, cellC b1 γ47.1.cells 39, cellC b5 γ47.2.2.1.cells 39, cellC b9 ((resC x61.1)).toArray 32, cellC b13 ((resC x61.2.1)).toArray 32, cellC b51 ((resC x50.1)).toArray 32, cellC b55 ((resC x54.1)).toArray 32] w0 w63 := hP
     refine wp_ret ?_
     have hv : (x61.1, x61.2.1, x61.2.2, x54.2.2.2) = res := Option.some.inj hD
     try dsimp only [Exit.then, Exit.inBlock]
     refine ret_cell2_tmp (fn := Tryz.f100) r rfl rfl rfl (v2 := (.bool x61.2.2)) rfl (hP.cell (i := 6) rfl) (k := 2) rfl ta32 (hP.cell (i := 7) rfl) (k1 := 2) rfl ta32 ?_
     subst hv
     exact ⟨rfl, (hP.pick [2] rfl rfl).done (rest_cons rfl rest_nil)⟩

end Go.Proofs.YtjkinpbfmihhdaaGreat

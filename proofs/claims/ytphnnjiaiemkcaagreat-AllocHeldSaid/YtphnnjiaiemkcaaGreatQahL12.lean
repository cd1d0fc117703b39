/- Written by a program of ours (wip/gen.py): layer 12 -/
import Derived.Test.YtphnnjiaiemkcaaGreatQahAllocs
set_option linter.unusedVariables false
set_option maxRecDepth 20000
set_option maxHeartbeats 2000000
namespace Go.Proofs.YtphnnjiaiemkcaaGreat
open Go.RowKit
theorem cl33 : callable Tryz.prog 33 = true := by kernel_rfl

theorem cl34 : callable Tryz.prog 34 = true := by kernel_rfl

theorem cl35 : callable Tryz.prog 35 = true := by kernel_rfl

theorem cl40 : callable Tryz.prog 40 = true := by kernel_rfl

theorem fo70_0 : fieldOff Tryz.prog 70 0 0 = true := by kernel_rfl

theorem fo70_2 : fieldOff Tryz.prog 70 2 2 = true := by kernel_rfl

theorem to68 : tyO Tryz.prog 68 = true := by kernel_rfl

theorem ts23 : sized Tryz.prog 23 6 = true := by kernel_rfl

theorem tz23 : zeroOf Tryz.prog 23 = some (.agg (planC (⟨0, 0, 0, 0, 0, 0⟩ : Plan)).toArray) := by kernel_rfl

def D.cubiclelaw12_awake (fu : Nat)  : Option (Bool) := ((D.cubiclelaw09_Laid fu (⟨2, 1, 4, 0, 1, 1⟩ : Plan)).bind (fun (x7 : Mem) => ((D.mem_Memory_Cap fu x7 0).bind (fun (x15 : Cap) => ((D.prog_Run_Grant fu (fu, (D.alloc_New (fu + 1) (⟨2, 1, 4, 0, 1, 1⟩ : Plan) 0 0)) x7 x15 9).bind (fun (x17 : Grant × Int × Bool × Mem) => (Option.bind (bif x17.2.2.1 then (bif (x17.1.e == 0) then (bif (x17.1.node == 0) then ((D.alloc_Free fu (⟨2, 1, 4, 0, 1, 1⟩ : Plan) x17.2.2.2 0).bind (fun (x29 : Int) => (some (x29 == 1)))) else (some false)) else (some false)) else (some false)) (fun (x31 : Bool) => (some x31)))))))))

theorem c_cubiclelaw12_awake {fu : Nat} (w0 : World) {res : Bool} (hD : D.cubiclelaw12_awake fu  = some res) :
    Calls Tryz.prog 31 #[] w0 (PureRes (.bool res) w0) := by
 refine enter Tryz.func31 rfl 38 rfl rfl fun fr r => ?_
 have hP : Post No [] w0 w0 := Post.nil w0
 unfold D.cubiclelaw12_awake at hD
 refine wsr ?_
 refine seq_val (.bool false) r (fun R => y_assign r rfl) rfl fun fr r => ?_
 refine wn ?_
 refine wsr ?_
 refine seq_val (.agg (planC (⟨2, 1, 4, 0, 1, 1⟩ : Plan)).toArray) r (fun R => y_build r (by kernel_rfl)) rfl fun fr r => ?_
 refine seq_new (.cells ((planC (⟨0, 0, 0, 0, 0, 0⟩ : Plan))).toArray 23 (0, 0)) r (fun R => y_alloc tz23) rfl fun fr b1 w2 n3 r => ?_
 have hP : Post No [cellC b1 ((planC (⟨0, 0, 0, 0, 0, 0⟩ : Plan))).toArray 23] w0 w2 := hP.new n3
 refine seq_upd (.cells ((planC (⟨2, 1, 4, 0, 1, 1⟩ : Plan))).toArray 23 (0, 0)) r (fun R => y_store r (o := 0) (v := (.agg (planC (⟨2, 1, 4, 0, 1, 1⟩ : Plan)).toArray)) rfl rfl (hP.cell (i := 0) rfl) ts23 (Nat.le_of_ble_eq_true rfl) rfl rfl) rfl fun fr w5 u6 r => ?_
 have hP : Post No [cellC b1 ((planC (⟨2, 1, 4, 0, 1, 1⟩ : Plan))).toArray 23] w0 w5 := hP.upd (i := 0) rfl u6
 refine wn ?_
 refine wsr ?_
 refine seq_val (.agg (planC (⟨2, 1, 4, 0, 1, 1⟩ : Plan)).toArray) r (fun R => y_load_agg r (cs := (planC (⟨2, 1, 4, 0, 1, 1⟩ : Plan))) (n := 6) rfl (hP.cell (i := 0) rfl) ta23 rfl) rfl fun fr r => ?_
 obtain ⟨x7, hx7, hD⟩ := bindD_elim hD
 refine seq_call r (c_cubiclelaw09_Laid w5 (⟨2, 1, 4, 0, 1, 1⟩ : Plan) hx7) (fun R hc => y_call r rfl cl33 hc) rfl ?_
 rintro _ w8 ⟨mg9, rfl, hq⟩
 refine ⟨_, rfl, fun fr r => ?_⟩
 have hP : Post No [cellC b1 ((planC (⟨2, 1, 4, 0, 1, 1⟩ : Plan))).toArray 23, memK mg9 x7] w0 w8 := hP.add hq
 refine seq_val (.pointer (some ⟨mg9.mb, 0, none⟩)) r (fun R => y_assign r rfl) rfl fun fr r => ?_
 refine wn ?_
 refine wp_seq ?_
 refine wsr ?_
 refine seq_val (.pointer (some ⟨mg9.mb, 0, none⟩)) r (fun R => y_move r rfl) rfl fun fr r => ?_
 refine seq_val _ r (fun R => y_bin r rfl rfl rfl rfl) rfl fun fr r => ?_
 refine wn ?_
 refine wp_cond_split (t := false) (r.ev rfl) (fun h => absurd ((rfl : false = _).symm.trans h) (by decide)) (fun _ => ?_)
 refine wp_skip ?_
 refine wsr ?_
 refine seq_val (.agg (planC (⟨2, 1, 4, 0, 1, 1⟩ : Plan)).toArray) r (fun R => y_load_agg r (cs := (planC (⟨2, 1, 4, 0, 1, 1⟩ : Plan))) (n := 6) rfl (hP.cell (i := 0) rfl) ta23 rfl) rfl fun fr r => ?_
 refine seq_call r (c_alloc_New (F := No) (n := fu) (j := fu + 1) (fun _ h => h.elim) (by omega) (⟨2, 1, 4, 0, 1, 1⟩ : Plan) 0 0) (fun R hc => y_call r rfl cl35 hc) rfl ?_
 rintro _ w11 ⟨v12, rfl, hb, hr13⟩
 refine ⟨_, rfl, fun fr r => ?_⟩
 have hP : Post No [cellC b1 ((planC (⟨2, 1, 4, 0, 1, 1⟩ : Plan))).toArray 23, memK mg9 x7, progK Tryz.prog encGrant (fu, (D.alloc_New (fu + 1) (⟨2, 1, 4, 0, 1, 1⟩ : Plan) 0 0)) v12 (rg w8.heap.size w11.heap.size)] w0 w11 := hP.addProg hb hr13
 refine seq_val (.pointer (some ⟨mg9.mb, 0, none⟩)) r (fun R => y_move r rfl) rfl fun fr r => ?_
 refine seq_val (.pointer (some ⟨mg9.mb, 0, none⟩)) r (fun R => y_move r rfl) rfl fun fr r => ?_
 obtain ⟨x15, hx15, hD⟩ := bindD_elim hD
 refine seq_call r (c_mem_Memory_Cap w11 x7 (hP.mem (i := 1) rfl) 0 hx15) (fun R hc => y_call r rfl cl18 hc) rfl ?_
 rintro _ w16 ⟨rfl, hb⟩
 refine ⟨_, rfl, fun fr r => ?_⟩
 have hP : Post No [cellC b1 ((planC (⟨2, 1, 4, 0, 1, 1⟩ : Plan))).toArray 23, memK mg9 x7, progK Tryz.prog encGrant (fu, (D.alloc_New (fu + 1) (⟨2, 1, 4, 0, 1, 1⟩ : Plan) 0 0)) v12 (rg w8.heap.size w11.heap.size)] w0 w16 := hP.below hb
 obtain ⟨x17, hx17, hD⟩ := bindD_elim hD
 refine seq_call r (c_prog_Run_Grant w16 (fu, (D.alloc_New (fu + 1) (⟨2, 1, 4, 0, 1, 1⟩ : Plan) 0 0)) x7 x15 9 (hP.sep.pk [2, 1] rfl rfl) hx17) (fun R hc => y_call r rfl cl34 hc) rfl ?_
 rintro _ w18 ⟨rfl, hq⟩
 refine ⟨_, rfl, fun fr r => ?_⟩
 have hP : Post No [cellC b1 ((planC (⟨2, 1, 4, 0, 1, 1⟩ : Plan))).toArray 23, memK mg9 x17.2.2.2, progK Tryz.prog encGrant (fu, (D.alloc_New (fu + 1) (⟨2, 1, 4, 0, 1, 1⟩ : Plan) 0 0)) v12 (rg w8.heap.size w11.heap.size)] w0 w18 := hP.setN (i := 1) rfl hq
 refine seq_val (.tuple #[(.agg (grantC x17.1).toArray), (I x17.2.1), (.bool x17.2.2.1)]) r (fun R => y_move r rfl) rfl fun fr r => ?_
 refine seq_val (.agg (grantC x17.1).toArray) r (fun R => y_extract r (vs := #[(.agg (grantC x17.1).toArray), (I x17.2.1), (.bool x17.2.2.1)]) rfl rfl) rfl fun fr r => ?_
 refine seq_val (I x17.2.1) r (fun R => y_extract r (vs := #[(.agg (grantC x17.1).toArray), (I x17.2.1), (.bool x17.2.2.1)]) rfl rfl) rfl fun fr r => ?_
 refine seq_val (.bool x17.2.2.1) r (fun R => y_extract r (vs := #[(.agg (grantC x17.1).toArray), (I x17.2.1), (.bool x17.2.2.1)]) rfl rfl) rfl fun fr r => ?_
 refine seq_new (.cells ((grantC (⟨0, 0, 0⟩ : Grant))).toArray 70 (0, 0)) r (fun R => y_alloc tz70) rfl fun fr b19 w20 n21 r => ?_
 have hP : Post No [cellC b1 ((planC (⟨2, 1, 4, 0, 1, 1⟩ : Plan))).toArray 23, memK mg9 x17.2.2.2, progK Tryz.prog encGrant (fu, (D.alloc_New (fu + 1) (⟨2, 1, 4, 0, 1, 1⟩ : Plan) 0 0)) v12 (rg w8.heap.size w11.heap.size), cellC b19 ((grantC (⟨0, 0, 0⟩ : Grant))).toArray 70] w0 w20 := hP.new n21
 refine seq_upd (.cells ((grantC x17.1)).toArray 70 (0, 0)) r (fun R => y_store r (o := 0) (v := (.agg (grantC x17.1).toArray)) rfl rfl (hP.cell (i := 3) rfl) ts70 (Nat.le_of_ble_eq_true rfl) rfl rfl) rfl fun fr w23 u24 r => ?_
 have hP : Post No [cellC b1 ((planC (⟨2, 1, 4, 0, 1, 1⟩ : Plan))).toArray 23, memK mg9 x17.2.2.2, progK Tryz.prog encGrant (fu, (D.alloc_New (fu + 1) (⟨2, 1, 4, 0, 1, 1⟩ : Plan) 0 0)) v12 (rg w8.heap.size w11.heap.size), cellC b19 ((grantC x17.1)).toArray 70] w0 w23 := hP.upd (i := 3) rfl u24
 refine seq_val (I x17.2.1) r (fun R => y_assign r rfl) rfl fun fr r => ?_
 refine seq_val (.bool x17.2.2.1) r (fun R => y_assign r rfl) rfl fun fr r => ?_
 refine wn ?_
 refine wp_seq ?_
 have hP : Post No [cellC b1 ((planC (⟨2, 1, 4, 0, 1, 1⟩ : Plan))).toArray 23, memK mg9 x17.2.2.2, cellC b19 ((grantC x17.1)).toArray 70] w0 w23 := hP.pick [0, 1, 3] rfl rfl
 refine wp_joinG (N := 38) (Y := Bool) (G := Unit) (fun x γ => [(1, (.pointer (some ⟨b1, 0, none⟩))), (2, (.pointer (some ⟨mg9.mb, 0, none⟩))), (10, (.bool false)), (3, (.pointer (some ⟨b19, 0, none⟩))), (5, (.bool x17.2.2.1)), (0, (.bool x))]) (fun x γ w => Post No [cellC b1 ((planC (⟨2, 1, 4, 0, 1, 1⟩ : Plan))).toArray 23, memK mg9 x17.2.2.2, cellC b19 ((grantC x17.1)).toArray 70] w0 w) hD ?_ ?_
 ·
  rintro y25 RPy25 nxy25 hD
  refine wp_region_lit ?_
  refine seq_val (.bool x17.2.2.1) r (fun R => y_move r rfl) rfl fun fr r => ?_
  refine seq_val (.bool x17.2.2.1) r (fun R => y_move r rfl) rfl fun fr r => ?_
  refine seq_split x17.2.2.1 (fun h26 => ?_) (fun h26 => ?_)
  ·
   have hD := (cond_t h26).symm.trans hD
   refine s1 r h26 ?_
   refine seq_val _ r (fun R => y_fieldAddr r (o := 0) rfl fo70_2) rfl fun fr r => ?_
   refine s1 r h26 ?_
   refine seq_val (I x17.1.e) r (fun R => y_load_one r rfl (hP.cell (i := 2) rfl) to68 rfl) rfl fun fr r => ?_
   refine s1 r h26 ?_
   refine seq_val _ r (fun R => y_bin r rfl rfl rfl rfl) rfl fun fr r => ?_
   refine seq_val (.bool (x17.1.e == 0)) r (fun R => y_pick r (b := true) (congrArg Value.bool h26) rfl) rfl fun fr r => ?_
   refine seq_val (.bool (x17.1.e == 0)) r (fun R => y_move r rfl) rfl fun fr r => ?_
   refine seq_split (x17.1.e == 0) (fun h27 => ?_) (fun h27 => ?_)
   ·
    have hD := (cond_t h27).symm.trans hD
    refine s1 r h27 ?_
    refine seq_val _ r (fun R => y_fieldAddr r (o := 0) rfl fo70_0) rfl fun fr r => ?_
    refine s1 r h27 ?_
    refine seq_val (I x17.1.node) r (fun R => y_load_one r rfl (hP.cell (i := 2) rfl) to3 rfl) rfl fun fr r => ?_
    refine s1 r h27 ?_
    refine seq_val _ r (fun R => y_bin r rfl rfl rfl rfl) rfl fun fr r => ?_
    refine seq_val (.bool (x17.1.node == 0)) r (fun R => y_pick r (b := true) (congrArg Value.bool h27) rfl) rfl fun fr r => ?_
    refine seq_val (.bool (x17.1.node == 0)) r (fun R => y_move r rfl) rfl fun fr r => ?_
    refine seq_split (x17.1.node == 0) (fun h28 => ?_) (fun h28 => ?_)
    ·
     have hD := (cond_t h28).symm.trans hD
     refine s1 r h28 ?_
     refine seq_val (.agg (planC (⟨2, 1, 4, 0, 1, 1⟩ : Plan)).toArray) r (fun R => y_load_agg r (cs := (planC (⟨2, 1, 4, 0, 1, 1⟩ : Plan))) (n := 6) rfl (hP.cell (i := 0) rfl) ta23 rfl) rfl fun fr r => ?_
     refine s1 r h28 ?_
     refine seq_val (.pointer (some ⟨mg9.mb, 0, none⟩)) r (fun R => y_move r rfl) rfl fun fr r => ?_
     refine s1 r h28 ?_
     obtain ⟨x29, hx29, hD⟩ := bindD_elim hD
     refine seq_call r (c_alloc_Free w23 (⟨2, 1, 4, 0, 1, 1⟩ : Plan) x17.2.2.2 (hP.mem (i := 1) rfl) 0 hx29) (fun R hc => y_call r rfl cl40 hc) rfl ?_
     rintro _ w30 ⟨rfl, hb⟩
     refine ⟨_, rfl, fun fr r => ?_⟩
     have hP : Post No [cellC b1 ((planC (⟨2, 1, 4, 0, 1, 1⟩ : Plan))).toArray 23, memK mg9 x17.2.2.2, cellC b19 ((grantC x17.1)).toArray 70] w0 w30 := hP.below hb
     refine s1 r h28 ?_
     refine seq_val _ r (fun R => y_bin r rfl rfl rfl rfl) rfl fun fr r => ?_
     refine seq_val (.bool (x29 == 1)) r (fun R => y_pick r (b := true) (congrArg Value.bool h28) rfl) rfl fun fr r => ?_
     refine seq_val (.bool (x29 == 1)) r (fun R => y_assign r rfl) rfl fun fr r => ?_
     refine wn ?_
     exact nxy25 (x29 == 1) () _ _ _ hD r (hs_cons rfl (hs_cons rfl (hs_cons rfl (hs_cons rfl (hs_cons rfl (hs_cons rfl hs_nil)))))) (hP.pick [0, 1, 2] rfl rfl)
    ·
     have hD := (cond_f h28).symm.trans hD
     refine s0 r h28 fun fr r => ?_
     refine s0 r h28 fun fr r => ?_
     refine s0 r h28 fun fr r => ?_
     refine s0 r h28 fun fr r => ?_
     refine seq_val (.bool false) r (fun R => y_pick r (b := false) (congrArg Value.bool h28) rfl) rfl fun fr r => ?_
     refine seq_val (.bool false) r (fun R => y_assign r rfl) rfl fun fr r => ?_
     refine wn ?_
     exact nxy25 false () _ _ _ hD r (hs_cons rfl (hs_cons rfl (hs_cons rfl (hs_cons rfl (hs_cons rfl (hs_cons rfl hs_nil)))))) (hP.pick [0, 1, 2] rfl rfl)
   ·
    have hD := (cond_f h27).symm.trans hD
    refine s0 r h27 fun fr r => ?_
    refine s0 r h27 fun fr r => ?_
    refine s0 r h27 fun fr r => ?_
    refine seq_val (.bool false) r (fun R => y_pick r (b := false) (congrArg Value.bool h27) rfl) rfl fun fr r => ?_
    refine seq_val (.bool false) r (fun R => y_move r rfl) rfl fun fr r => ?_
    refine s0 r (rfl : false = _) fun fr r => ?_
    refine s0 r (rfl : false = _) fun fr r => ?_
    refine s0 r (rfl : false = _) fun fr r => ?_
    refine s0 r (rfl : false = _) fun fr r => ?_
    refine seq_val (.bool false) r (fun R => y_pick r (b := false) (congrArg Value.bool (rfl : false = _)) rfl) rfl fun fr r => ?_
    refine seq_val (.bool false) r (fun R => y_assign r rfl) rfl fun fr r => ?_
    refine wn ?_
    exact nxy25 false () _ _ _ hD r (hs_cons rfl (hs_cons rfl (hs_cons rfl (hs_cons rfl (hs_cons rfl (hs_cons rfl hs_nil)))))) (hP.pick [0, 1, 2] rfl rfl)
  ·
   have hD := (cond_f h26).symm.trans hD
   refine s0 r h26 fun fr r => ?_
   refine s0 r h26 fun fr r => ?_
   refine s0 r h26 fun fr r => ?_
   refine seq_val (.bool false) r (fun R => y_pick r (b := false) (congrArg Value.bool h26) rfl) rfl fun fr r => ?_
   refine seq_val (.bool false) r (fun R => y_move r rfl) rfl fun fr r => ?_
   refine s0 r (rfl : false = _) fun fr r => ?_
   refine s0 r (rfl : false = _) fun fr r => ?_
   refine s0 r (rfl : false = _) fun fr r => ?_
   refine seq_val (.bool false) r (fun R => y_pick r (b := false) (congrArg Value.bool (rfl : false = _)) rfl) rfl fun fr r => ?_
   refine seq_val (.bool false) r (fun R => y_move r rfl) rfl fun fr r => ?_
   refine s0 r (rfl : false = _) fun fr r => ?_
   refine s0 r (rfl : false = _) fun fr r => ?_
   refine s0 r (rfl : false = _) fun fr r => ?_
   refine s0 r (rfl : false = _) fun fr r => ?_
   refine seq_val (.bool false) r (fun R => y_pick r (b := false) (congrArg Value.bool (rfl : false = _)) rfl) rfl fun fr r => ?_
   refine seq_val (.bool false) r (fun R => y_assign r rfl) rfl fun fr r => ?_
   refine wn ?_
   exact nxy25 false () _ _ _ hD r (hs_cons rfl (hs_cons rfl (hs_cons rfl (hs_cons rfl (hs_cons rfl (hs_cons rfl hs_nil)))))) (hP.pick [0, 1, 2] rfl rfl)
 ·
  rintro x31 γ32 fr w33 g r hP hD
  have hP : Post No [cellC b1 ((planC (⟨2, 1, 4, 0, 1, 1⟩ : Plan))).toArray 23, memK mg9 x17.2.2.2, cellC b19 ((grantC x17.1)).toArray 70] w0 w33 := hP
  refine wp_ret ?_
  have hv : x31 = res := Option.some.inj hD
  try dsimp only [Exit.then, Exit.inBlock]
  refine ret_tmp (fn := Tryz.f31) r (t := 0) rfl (v := (.bool x31)) rfl ?_
  subst hv
  exact ⟨rfl, hP.chg.below⟩

end Go.Proofs.YtphnnjiaiemkcaaGreat

/- Written by a program of ours (wip/gen.py): a law -/
import Derived.Test.YtphnnjiaiemkcaaPlans
set_option linter.unusedVariables false
namespace Go.Proofs.Ytphnnjiaiemkcaa.Wk
open Go.RowKit
theorem cl18 : callable Try.prog 18 = true := by kernel_rfl
theorem cl20 : callable Try.prog 20 = true := by kernel_rfl
theorem cl22 : callable Try.prog 22 = true := by kernel_rfl
theorem ts3 : sized Try.prog 3 1 = true := by kernel_rfl

def D.cubiclelaw06_PlanGreat (a0 : Int) : Bool := (bif (!D.cubiclelaw06_awake) then false else (bif (!(D.plan_Plan_Formed (⟨1048576, 16, 1024, 64, 256, 1073741823⟩ : Plan))) then (bif true then false else (bif ((a0.tmod 6) == 0) then (bif (!(D.plan_Plan_Formed ({ (⟨1048576, 16, 1024, 64, 256, 1073741823⟩ : Plan) with nodes := (IntKind.i64.wrap (((⟨1048576, 16, 1024, 64, 256, 1073741823⟩ : Plan).nodes) + 1)) }))) then (bif ((D.plan_Plan_Size ({ (⟨1048576, 16, 1024, 64, 256, 1073741823⟩ : Plan) with nodes := (IntKind.i64.wrap (((⟨1048576, 16, 1024, 64, 256, 1073741823⟩ : Plan).nodes) + 1)) })) == 0) then ((D.plan_Plan_Head ({ (⟨1048576, 16, 1024, 64, 256, 1073741823⟩ : Plan) with nodes := (IntKind.i64.wrap (((⟨1048576, 16, 1024, 64, 256, 1073741823⟩ : Plan).nodes) + 1)) })) == (-1)) else false) else false) else (bif ((a0.tmod 6) == 1) then (bif (!(D.plan_Plan_Formed ({ (⟨1048576, 16, 1024, 64, 256, 1073741823⟩ : Plan) with threads := (IntKind.i64.wrap (((⟨1048576, 16, 1024, 64, 256, 1073741823⟩ : Plan).threads) + 1)) }))) then (bif ((D.plan_Plan_Size ({ (⟨1048576, 16, 1024, 64, 256, 1073741823⟩ : Plan) with threads := (IntKind.i64.wrap (((⟨1048576, 16, 1024, 64, 256, 1073741823⟩ : Plan).threads) + 1)) })) == 0) then ((D.plan_Plan_Head ({ (⟨1048576, 16, 1024, 64, 256, 1073741823⟩ : Plan) with threads := (IntKind.i64.wrap (((⟨1048576, 16, 1024, 64, 256, 1073741823⟩ : Plan).threads) + 1)) })) == (-1)) else false) else false) else (bif ((a0.tmod 6) == 2) then (bif (!(D.plan_Plan_Formed ({ (⟨1048576, 16, 1024, 64, 256, 1073741823⟩ : Plan) with retire := (IntKind.i64.wrap (((⟨1048576, 16, 1024, 64, 256, 1073741823⟩ : Plan).retire) + 1)) }))) then (bif ((D.plan_Plan_Size ({ (⟨1048576, 16, 1024, 64, 256, 1073741823⟩ : Plan) with retire := (IntKind.i64.wrap (((⟨1048576, 16, 1024, 64, 256, 1073741823⟩ : Plan).retire) + 1)) })) == 0) then ((D.plan_Plan_Head ({ (⟨1048576, 16, 1024, 64, 256, 1073741823⟩ : Plan) with retire := (IntKind.i64.wrap (((⟨1048576, 16, 1024, 64, 256, 1073741823⟩ : Plan).retire) + 1)) })) == (-1)) else false) else false) else (bif ((a0.tmod 6) == 3) then (bif (!(D.plan_Plan_Formed ({ (⟨1048576, 16, 1024, 64, 256, 1073741823⟩ : Plan) with domains := (IntKind.i64.wrap (((⟨1048576, 16, 1024, 64, 256, 1073741823⟩ : Plan).domains) + 1)) }))) then (bif ((D.plan_Plan_Size ({ (⟨1048576, 16, 1024, 64, 256, 1073741823⟩ : Plan) with domains := (IntKind.i64.wrap (((⟨1048576, 16, 1024, 64, 256, 1073741823⟩ : Plan).domains) + 1)) })) == 0) then ((D.plan_Plan_Head ({ (⟨1048576, 16, 1024, 64, 256, 1073741823⟩ : Plan) with domains := (IntKind.i64.wrap (((⟨1048576, 16, 1024, 64, 256, 1073741823⟩ : Plan).domains) + 1)) })) == (-1)) else false) else false) else (bif ((a0.tmod 6) == 4) then (bif (!(D.plan_Plan_Formed ({ (⟨1048576, 16, 1024, 64, 256, 1073741823⟩ : Plan) with buckets := (IntKind.i64.wrap (((⟨1048576, 16, 1024, 64, 256, 1073741823⟩ : Plan).buckets) + 1)) }))) then (bif ((D.plan_Plan_Size ({ (⟨1048576, 16, 1024, 64, 256, 1073741823⟩ : Plan) with buckets := (IntKind.i64.wrap (((⟨1048576, 16, 1024, 64, 256, 1073741823⟩ : Plan).buckets) + 1)) })) == 0) then ((D.plan_Plan_Head ({ (⟨1048576, 16, 1024, 64, 256, 1073741823⟩ : Plan) with buckets := (IntKind.i64.wrap (((⟨1048576, 16, 1024, 64, 256, 1073741823⟩ : Plan).buckets) + 1)) })) == (-1)) else false) else false) else (bif (!(D.plan_Plan_Formed ({ (⟨1048576, 16, 1024, 64, 256, 1073741823⟩ : Plan) with gen := (IntKind.i64.wrap (((⟨1048576, 16, 1024, 64, 256, 1073741823⟩ : Plan).gen) + 1)) }))) then (bif ((D.plan_Plan_Size ({ (⟨1048576, 16, 1024, 64, 256, 1073741823⟩ : Plan) with gen := (IntKind.i64.wrap (((⟨1048576, 16, 1024, 64, 256, 1073741823⟩ : Plan).gen) + 1)) })) == 0) then ((D.plan_Plan_Head ({ (⟨1048576, 16, 1024, 64, 256, 1073741823⟩ : Plan) with gen := (IntKind.i64.wrap (((⟨1048576, 16, 1024, 64, 256, 1073741823⟩ : Plan).gen) + 1)) })) == (-1)) else false) else false))))))) else (bif ((D.plan_Plan_Field (⟨1048576, 16, 1024, 64, 256, 1073741823⟩ : Plan) 1048575 2) != (IntKind.i64.wrap ((D.plan_Plan_Size (⟨1048576, 16, 1024, 64, 256, 1073741823⟩ : Plan)) - 1))) then (bif true then false else (bif ((a0.tmod 6) == 0) then (bif (!(D.plan_Plan_Formed ({ (⟨1048576, 16, 1024, 64, 256, 1073741823⟩ : Plan) with nodes := (IntKind.i64.wrap (((⟨1048576, 16, 1024, 64, 256, 1073741823⟩ : Plan).nodes) + 1)) }))) then (bif ((D.plan_Plan_Size ({ (⟨1048576, 16, 1024, 64, 256, 1073741823⟩ : Plan) with nodes := (IntKind.i64.wrap (((⟨1048576, 16, 1024, 64, 256, 1073741823⟩ : Plan).nodes) + 1)) })) == 0) then ((D.plan_Plan_Head ({ (⟨1048576, 16, 1024, 64, 256, 1073741823⟩ : Plan) with nodes := (IntKind.i64.wrap (((⟨1048576, 16, 1024, 64, 256, 1073741823⟩ : Plan).nodes) + 1)) })) == (-1)) else false) else false) else (bif ((a0.tmod 6) == 1) then (bif (!(D.plan_Plan_Formed ({ (⟨1048576, 16, 1024, 64, 256, 1073741823⟩ : Plan) with threads := (IntKind.i64.wrap (((⟨1048576, 16, 1024, 64, 256, 1073741823⟩ : Plan).threads) + 1)) }))) then (bif ((D.plan_Plan_Size ({ (⟨1048576, 16, 1024, 64, 256, 1073741823⟩ : Plan) with threads := (IntKind.i64.wrap (((⟨1048576, 16, 1024, 64, 256, 1073741823⟩ : Plan).threads) + 1)) })) == 0) then ((D.plan_Plan_Head ({ (⟨1048576, 16, 1024, 64, 256, 1073741823⟩ : Plan) with threads := (IntKind.i64.wrap (((⟨1048576, 16, 1024, 64, 256, 1073741823⟩ : Plan).threads) + 1)) })) == (-1)) else false) else false) else (bif ((a0.tmod 6) == 2) then (bif (!(D.plan_Plan_Formed ({ (⟨1048576, 16, 1024, 64, 256, 1073741823⟩ : Plan) with retire := (IntKind.i64.wrap (((⟨1048576, 16, 1024, 64, 256, 1073741823⟩ : Plan).retire) + 1)) }))) then (bif ((D.plan_Plan_Size ({ (⟨1048576, 16, 1024, 64, 256, 1073741823⟩ : Plan) with retire := (IntKind.i64.wrap (((⟨1048576, 16, 1024, 64, 256, 1073741823⟩ : Plan).retire) + 1)) })) == 0) then ((D.plan_Plan_Head ({ (⟨1048576, 16, 1024, 64, 256, 1073741823⟩ : Plan) with retire := (IntKind.i64.wrap (((⟨1048576, 16, 1024, 64, 256, 1073741823⟩ : Plan).retire) + 1)) })) == (-1)) else false) else false) else (bif ((a0.tmod 6) == 3) then (bif (!(D.plan_Plan_Formed ({ (⟨1048576, 16, 1024, 64, 256, 1073741823⟩ : Plan) with domains := (IntKind.i64.wrap (((⟨1048576, 16, 1024, 64, 256, 1073741823⟩ : Plan).domains) + 1)) }))) then (bif ((D.plan_Plan_Size ({ (⟨1048576, 16, 1024, 64, 256, 1073741823⟩ : Plan) with domains := (IntKind.i64.wrap (((⟨1048576, 16, 1024, 64, 256, 1073741823⟩ : Plan).domains) + 1)) })) == 0) then ((D.plan_Plan_Head ({ (⟨1048576, 16, 1024, 64, 256, 1073741823⟩ : Plan) with domains := (IntKind.i64.wrap (((⟨1048576, 16, 1024, 64, 256, 1073741823⟩ : Plan).domains) + 1)) })) == (-1)) else false) else false) else (bif ((a0.tmod 6) == 4) then (bif (!(D.plan_Plan_Formed ({ (⟨1048576, 16, 1024, 64, 256, 1073741823⟩ : Plan) with buckets := (IntKind.i64.wrap (((⟨1048576, 16, 1024, 64, 256, 1073741823⟩ : Plan).buckets) + 1)) }))) then (bif ((D.plan_Plan_Size ({ (⟨1048576, 16, 1024, 64, 256, 1073741823⟩ : Plan) with buckets := (IntKind.i64.wrap (((⟨1048576, 16, 1024, 64, 256, 1073741823⟩ : Plan).buckets) + 1)) })) == 0) then ((D.plan_Plan_Head ({ (⟨1048576, 16, 1024, 64, 256, 1073741823⟩ : Plan) with buckets := (IntKind.i64.wrap (((⟨1048576, 16, 1024, 64, 256, 1073741823⟩ : Plan).buckets) + 1)) })) == (-1)) else false) else false) else (bif (!(D.plan_Plan_Formed ({ (⟨1048576, 16, 1024, 64, 256, 1073741823⟩ : Plan) with gen := (IntKind.i64.wrap (((⟨1048576, 16, 1024, 64, 256, 1073741823⟩ : Plan).gen) + 1)) }))) then (bif ((D.plan_Plan_Size ({ (⟨1048576, 16, 1024, 64, 256, 1073741823⟩ : Plan) with gen := (IntKind.i64.wrap (((⟨1048576, 16, 1024, 64, 256, 1073741823⟩ : Plan).gen) + 1)) })) == 0) then ((D.plan_Plan_Head ({ (⟨1048576, 16, 1024, 64, 256, 1073741823⟩ : Plan) with gen := (IntKind.i64.wrap (((⟨1048576, 16, 1024, 64, 256, 1073741823⟩ : Plan).gen) + 1)) })) == (-1)) else false) else false))))))) else (bif ((D.plan_Plan_Field (⟨1048576, 16, 1024, 64, 256, 1073741823⟩ : Plan) 1048576 0) != (-1)) then false else (bif ((a0.tmod 6) == 0) then (bif (!(D.plan_Plan_Formed ({ (⟨1048576, 16, 1024, 64, 256, 1073741823⟩ : Plan) with nodes := (IntKind.i64.wrap (((⟨1048576, 16, 1024, 64, 256, 1073741823⟩ : Plan).nodes) + 1)) }))) then (bif ((D.plan_Plan_Size ({ (⟨1048576, 16, 1024, 64, 256, 1073741823⟩ : Plan) with nodes := (IntKind.i64.wrap (((⟨1048576, 16, 1024, 64, 256, 1073741823⟩ : Plan).nodes) + 1)) })) == 0) then ((D.plan_Plan_Head ({ (⟨1048576, 16, 1024, 64, 256, 1073741823⟩ : Plan) with nodes := (IntKind.i64.wrap (((⟨1048576, 16, 1024, 64, 256, 1073741823⟩ : Plan).nodes) + 1)) })) == (-1)) else false) else false) else (bif ((a0.tmod 6) == 1) then (bif (!(D.plan_Plan_Formed ({ (⟨1048576, 16, 1024, 64, 256, 1073741823⟩ : Plan) with threads := (IntKind.i64.wrap (((⟨1048576, 16, 1024, 64, 256, 1073741823⟩ : Plan).threads) + 1)) }))) then (bif ((D.plan_Plan_Size ({ (⟨1048576, 16, 1024, 64, 256, 1073741823⟩ : Plan) with threads := (IntKind.i64.wrap (((⟨1048576, 16, 1024, 64, 256, 1073741823⟩ : Plan).threads) + 1)) })) == 0) then ((D.plan_Plan_Head ({ (⟨1048576, 16, 1024, 64, 256, 1073741823⟩ : Plan) with threads := (IntKind.i64.wrap (((⟨1048576, 16, 1024, 64, 256, 1073741823⟩ : Plan).threads) + 1)) })) == (-1)) else false) else false) else (bif ((a0.tmod 6) == 2) then (bif (!(D.plan_Plan_Formed ({ (⟨1048576, 16, 1024, 64, 256, 1073741823⟩ : Plan) with retire := (IntKind.i64.wrap (((⟨1048576, 16, 1024, 64, 256, 1073741823⟩ : Plan).retire) + 1)) }))) then (bif ((D.plan_Plan_Size ({ (⟨1048576, 16, 1024, 64, 256, 1073741823⟩ : Plan) with retire := (IntKind.i64.wrap (((⟨1048576, 16, 1024, 64, 256, 1073741823⟩ : Plan).retire) + 1)) })) == 0) then ((D.plan_Plan_Head ({ (⟨1048576, 16, 1024, 64, 256, 1073741823⟩ : Plan) with retire := (IntKind.i64.wrap (((⟨1048576, 16, 1024, 64, 256, 1073741823⟩ : Plan).retire) + 1)) })) == (-1)) else false) else false) else (bif ((a0.tmod 6) == 3) then (bif (!(D.plan_Plan_Formed ({ (⟨1048576, 16, 1024, 64, 256, 1073741823⟩ : Plan) with domains := (IntKind.i64.wrap (((⟨1048576, 16, 1024, 64, 256, 1073741823⟩ : Plan).domains) + 1)) }))) then (bif ((D.plan_Plan_Size ({ (⟨1048576, 16, 1024, 64, 256, 1073741823⟩ : Plan) with domains := (IntKind.i64.wrap (((⟨1048576, 16, 1024, 64, 256, 1073741823⟩ : Plan).domains) + 1)) })) == 0) then ((D.plan_Plan_Head ({ (⟨1048576, 16, 1024, 64, 256, 1073741823⟩ : Plan) with domains := (IntKind.i64.wrap (((⟨1048576, 16, 1024, 64, 256, 1073741823⟩ : Plan).domains) + 1)) })) == (-1)) else false) else false) else (bif ((a0.tmod 6) == 4) then (bif (!(D.plan_Plan_Formed ({ (⟨1048576, 16, 1024, 64, 256, 1073741823⟩ : Plan) with buckets := (IntKind.i64.wrap (((⟨1048576, 16, 1024, 64, 256, 1073741823⟩ : Plan).buckets) + 1)) }))) then (bif ((D.plan_Plan_Size ({ (⟨1048576, 16, 1024, 64, 256, 1073741823⟩ : Plan) with buckets := (IntKind.i64.wrap (((⟨1048576, 16, 1024, 64, 256, 1073741823⟩ : Plan).buckets) + 1)) })) == 0) then ((D.plan_Plan_Head ({ (⟨1048576, 16, 1024, 64, 256, 1073741823⟩ : Plan) with buckets := (IntKind.i64.wrap (((⟨1048576, 16, 1024, 64, 256, 1073741823⟩ : Plan).buckets) + 1)) })) == (-1)) else false) else false) else (bif (!(D.plan_Plan_Formed ({ (⟨1048576, 16, 1024, 64, 256, 1073741823⟩ : Plan) with gen := (IntKind.i64.wrap (((⟨1048576, 16, 1024, 64, 256, 1073741823⟩ : Plan).gen) + 1)) }))) then (bif ((D.plan_Plan_Size ({ (⟨1048576, 16, 1024, 64, 256, 1073741823⟩ : Plan) with gen := (IntKind.i64.wrap (((⟨1048576, 16, 1024, 64, 256, 1073741823⟩ : Plan).gen) + 1)) })) == 0) then ((D.plan_Plan_Head ({ (⟨1048576, 16, 1024, 64, 256, 1073741823⟩ : Plan) with gen := (IntKind.i64.wrap (((⟨1048576, 16, 1024, 64, 256, 1073741823⟩ : Plan).gen) + 1)) })) == (-1)) else false) else false))))))))))

set_option maxRecDepth 20000 in
set_option maxHeartbeats 1000000 in
theorem c_cubiclelaw06_PlanGreat (w0 : World) 
    (a0 : Int) :
    Calls Try.prog 3 #[.int .u8 a0] w0 (PureRes (.bool (D.cubiclelaw06_PlanGreat a0)) w0) := by
  refine enter (l := [.int .u8 a0]) Try.func3 rfl 74 rfl rfl fun fr r => ?_
  have hB := Below.refl w0.heap.size w0
  refine wp_seq ?_
  refine wp_region_lit ?_
  refine seq_val (.bool false) r (fun R => y_assign r rfl) rfl fun fr r => ?_
  refine wpList_nil ?_
  refine wp_seq ?_
  refine wp_seq ?_
  refine wp_region_lit ?_
  refine seq_call r (c_cubiclelaw06_awake w0 ) (fun R hc => y_call r rfl cl18 hc) rfl ?_
  rintro _ w1 ⟨rfl, hb⟩
  refine ⟨_, rfl, fun fr r => ?_⟩
  have z_w1 := hb.size
  have hB := hB.trans (hb.mono hB.size)
  have zB := hB.size
  refine seq_val (.bool (!D.cubiclelaw06_awake)) r (fun R => y_un r (u := (.bool D.cubiclelaw06_awake)) rfl rfl) rfl fun fr r => ?_
  refine wpList_nil ?_
  refine wp_cond_split (t := (!D.cubiclelaw06_awake)) (r.ev rfl) (fun h2 => ?_) (fun h2 => ?_)
  · skip
    refine wp_seq ?_
    refine wp_region_lit ?_
    refine seq_val (.bool false) r (fun R => y_assign r rfl) rfl fun fr r => ?_
    refine wpList_nil ?_
    refine wp_ret ?_
    have hd : D.cubiclelaw06_PlanGreat a0 = false := (cond_t h2).trans (rfl)
    refine ret_tmp r rfl (v := (.bool false)) rfl ?_
    rw [hd]
    exact ⟨rfl, hB⟩
  · skip
    refine wp_skip ?_
    refine wp_seq ?_
    refine wp_region_lit ?_
    refine seq_val (.agg (planC (⟨1048576, 16, 1024, 64, 256, 1073741823⟩ : Plan)).toArray) r (fun R => y_build r (by kernel_rfl)) rfl fun fr r => ?_
    refine seq_new (.cells ((planC (⟨0, 0, 0, 0, 0, 0⟩ : Plan))).toArray 24 (0, 0)) r (fun R => y_alloc tz24) rfl fun fr b3 w4 n5 r => ?_
    have e_b3 := n5.eq
    have z_w4 := n5.size
    have h_b3 := n5.at_
    have hB := hB.trans (n5.below.mono hB.size)
    have zB := hB.size
    refine seq_upd (.cells ((planC (⟨1048576, 16, 1024, 64, 256, 1073741823⟩ : Plan))).toArray 24 (0, 0)) r (fun R => y_store r (o := 0) (v := (.agg (planC (⟨1048576, 16, 1024, 64, 256, 1073741823⟩ : Plan)).toArray)) rfl rfl h_b3 ts24 (Nat.le_of_ble_eq_true rfl) rfl rfl) rfl fun fr w6 u7 r => ?_
    have z_w6 := u7.size
    have h_b3 := u7.at_
    have hB := u7.below hB (by omega)
    have zB := hB.size
    refine wpList_nil ?_
    refine wp_seq ?_
    refine wp_seq ?_
    refine seq_split (!(D.plan_Plan_Formed (⟨1048576, 16, 1024, 64, 256, 1073741823⟩ : Plan))) (fun h8 => ?_) (fun h8 => ?_)
    · skip
      refine wp_drawnF 15 [.val (.agg (planC (⟨1048576, 16, 1024, 64, 256, 1073741823⟩ : Plan)).toArray), .val (.bool (D.plan_Plan_Formed (⟨1048576, 16, 1024, 64, 256, 1073741823⟩ : Plan))), .val (.bool (!(D.plan_Plan_Formed (⟨1048576, 16, 1024, 64, 256, 1073741823⟩ : Plan)))), .val (.bool (!(D.plan_Plan_Formed (⟨1048576, 16, 1024, 64, 256, 1073741823⟩ : Plan)))), .val undef, .val undef, .val undef, .val undef, .val undef, .val undef, .val (.bool true), .val (.bool true), .val undef, .val undef, .val undef] mixed r (by kernel_rfl) ?_ ?_
      · skip
        refine each_consF r rfl (fun fr1 u w' hb' hd r' => ?_) ?_
        · exact y_load_agg r' (cs := (planC (⟨1048576, 16, 1024, 64, 256, 1073741823⟩ : Plan))) (n := 6) rfl (keep hb' h_b3) ta24 rfl ⟨Below.refl _ _, rfl⟩
        refine each_consF r rfl (fun fr1 u w' hb' hd r' => ?_) ?_
        · obtain ⟨d0, _⟩ := hd; exact y_call r' (args := [(.agg (planC (⟨1048576, 16, 1024, 64, 256, 1073741823⟩ : Plan)).toArray)]) (lc d0 l0) cl19 ((c_plan_Plan_Formed _ (⟨1048576, 16, 1024, 64, 256, 1073741823⟩ : Plan)).mono (by rintro _ w2 ⟨rfl, hb2⟩; exact ⟨_, rfl, hb2, rfl⟩))
        refine each_consF r rfl (fun fr1 u w' hb' hd r' => ?_) ?_
        · obtain ⟨d0, _⟩ := hd; exact y_un r' (u := (.bool (D.plan_Plan_Formed (⟨1048576, 16, 1024, 64, 256, 1073741823⟩ : Plan)))) (v := (.bool (!(D.plan_Plan_Formed (⟨1048576, 16, 1024, 64, 256, 1073741823⟩ : Plan))))) d0 rfl ⟨Below.refl _ _, rfl⟩
        refine each_consF r rfl (fun fr1 u w' hb' hd r' => ?_) ?_
        · obtain ⟨d0, d1, _⟩ := hd; exact y_move r' (v := (.bool (!(D.plan_Plan_Formed (⟨1048576, 16, 1024, 64, 256, 1073741823⟩ : Plan))))) d0 ⟨Below.refl _ _, rfl⟩
        refine each_consS false (.bool true) r rfl rfl rfl (fun u w' hd => by obtain ⟨d0, _⟩ := hd; exact Eq.trans (show u 3 = .bool (!(D.plan_Plan_Formed (⟨1048576, 16, 1024, 64, 256, 1073741823⟩ : Plan))) from d0) (congrArg Value.bool h8)) (by simp [boolOf]) (fun _ => rfl) ?_
        refine each_consS false (.bool true) r rfl rfl rfl (fun u w' hd => by obtain ⟨d0, d1, d2, _⟩ := hd; exact Eq.trans (show u 3 = .bool (!(D.plan_Plan_Formed (⟨1048576, 16, 1024, 64, 256, 1073741823⟩ : Plan))) from d1) (congrArg Value.bool h8)) (by simp [boolOf]) (fun _ => rfl) ?_
        refine each_consS false (.bool true) r rfl rfl rfl (fun u w' hd => by obtain ⟨d0, _⟩ := hd; exact Eq.trans (show u 3 = .bool (!(D.plan_Plan_Formed (⟨1048576, 16, 1024, 64, 256, 1073741823⟩ : Plan))) from d0) (congrArg Value.bool h8)) (by simp [boolOf]) (fun _ => rfl) ?_
        refine each_consS false (.bool true) r rfl rfl rfl (fun u w' hd => by obtain ⟨d0, d1, d2, _⟩ := hd; exact Eq.trans (show u 3 = .bool (!(D.plan_Plan_Formed (⟨1048576, 16, 1024, 64, 256, 1073741823⟩ : Plan))) from d2) (congrArg Value.bool h8)) (by simp [boolOf]) (fun _ => rfl) ?_
        refine each_consS false (.bool true) r rfl rfl rfl (fun u w' hd => by obtain ⟨d0, d1, _⟩ := hd; exact Eq.trans (show u 3 = .bool (!(D.plan_Plan_Formed (⟨1048576, 16, 1024, 64, 256, 1073741823⟩ : Plan))) from d1) (congrArg Value.bool h8)) (by simp [boolOf]) (fun _ => rfl) ?_
        refine each_consS false (.bool true) r rfl rfl rfl (fun u w' hd => by obtain ⟨d0, d1, d2, _⟩ := hd; exact Eq.trans (show u 3 = .bool (!(D.plan_Plan_Formed (⟨1048576, 16, 1024, 64, 256, 1073741823⟩ : Plan))) from d2) (congrArg Value.bool h8)) (by simp [boolOf]) (fun _ => rfl) ?_
        refine each_consF r rfl (fun fr1 u w' hb' hd r' => ?_) ?_
        · obtain ⟨d0, d1, _⟩ := hd; exact y_pick r' (b := true) (v := (.bool true)) (Eq.trans (show u 3 = .bool (!(D.plan_Plan_Formed (⟨1048576, 16, 1024, 64, 256, 1073741823⟩ : Plan))) from d0) (congrArg Value.bool h8)) rfl ⟨Below.refl _ _, rfl⟩
        refine each_consF r rfl (fun fr1 u w' hb' hd r' => ?_) ?_
        · obtain ⟨d0, d1, _⟩ := hd; exact y_move r' (v := (.bool true)) d0 ⟨Below.refl _ _, rfl⟩
        refine each_consS false (.bool true) r rfl rfl rfl (fun u w' hd => by obtain ⟨d0, _⟩ := hd; exact Eq.trans (show u 11 = .bool true from d0) (congrArg Value.bool (rfl : true = _))) (by simp [boolOf]) (fun _ => rfl) ?_
        refine each_consS false (.bool true) r rfl rfl rfl (fun u w' hd => by obtain ⟨d0, d1, d2, _⟩ := hd; exact Eq.trans (show u 11 = .bool true from d1) (congrArg Value.bool (rfl : true = _))) (by simp [boolOf]) (fun _ => rfl) ?_
        refine each_consS false (.bool true) r rfl rfl rfl (fun u w' hd => by obtain ⟨d0, d1, _⟩ := hd; exact Eq.trans (show u 11 = .bool true from d1) (congrArg Value.bool (rfl : true = _))) (by simp [boolOf]) (fun _ => rfl) ?_
        exact each_nil
      · skip
        intro fr u w9 hb hΦ r
        have g0 : u 0 = (.agg (planC (⟨1048576, 16, 1024, 64, 256, 1073741823⟩ : Plan)).toArray) := hΦ 0 (by decide)
        have g1 : u 1 = (.bool (D.plan_Plan_Formed (⟨1048576, 16, 1024, 64, 256, 1073741823⟩ : Plan))) := hΦ 1 (by decide)
        have g2 : u 2 = (.bool (!(D.plan_Plan_Formed (⟨1048576, 16, 1024, 64, 256, 1073741823⟩ : Plan)))) := hΦ 2 (by decide)
        have g3 : u 3 = (.bool (!(D.plan_Plan_Formed (⟨1048576, 16, 1024, 64, 256, 1073741823⟩ : Plan)))) := hΦ 3 (by decide)
        have g4 : u 4 = undef := hΦ 4 (by decide)
        have g5 : u 5 = undef := hΦ 5 (by decide)
        have g6 : u 6 = undef := hΦ 6 (by decide)
        have g7 : u 7 = undef := hΦ 7 (by decide)
        have g8 : u 8 = undef := hΦ 8 (by decide)
        have g9 : u 9 = undef := hΦ 9 (by decide)
        have g10 : u 10 = (.bool true) := hΦ 10 (by decide)
        have g11 : u 11 = (.bool true) := hΦ 11 (by decide)
        have g12 : u 12 = undef := hΦ 12 (by decide)
        have g13 : u 13 = undef := hΦ 13 (by decide)
        have g14 : u 14 = undef := hΦ 14 (by decide)
        have r := r.congr (sc g14 (sc g13 (sc g12 (sc g11 (sc g10 (sc g9 (sc g8 (sc g7 (sc g6 (sc g5 (sc g4 (sc g3 (sc g2 (sc g1 (sc g0 rfl)))))))))))))))
        have z_w9 := hb.size
        have h_b3 := keep hb h_b3
        have hB := hB.trans (hb.mono hB.size)
        have zB := hB.size
        refine seq_val (.bool true) r (fun R => y_pick r (b := true) (congrArg Value.bool (rfl : true = _)) rfl) rfl fun fr r => ?_
        refine wpList_nil ?_
        refine wp_cond_split (t := true) (r.ev rfl) (fun h10 => ?_) (fun h10 => ?_)
        · skip
          refine wp_seq ?_
          refine wp_region_lit ?_
          refine seq_val (.bool false) r (fun R => y_assign r rfl) rfl fun fr r => ?_
          refine wpList_nil ?_
          refine wp_ret ?_
          have hd : D.cubiclelaw06_PlanGreat a0 = false := (cond_f h2).trans ((cond_t h8).trans ((cond_t h10).trans (rfl)))
          refine ret_tmp r rfl (v := (.bool false)) rfl ?_
          rw [hd]
          exact ⟨rfl, hB⟩
        · skip
          refine wp_skip ?_
          refine wp_seq ?_
          refine wp_region_lit ?_
          refine seq_val (.agg (planC (⟨1048576, 16, 1024, 64, 256, 1073741823⟩ : Plan)).toArray) r (fun R => y_load_agg r (cs := (planC (⟨1048576, 16, 1024, 64, 256, 1073741823⟩ : Plan))) (n := 6) rfl h_b3 ta24 rfl) rfl fun fr r => ?_
          refine seq_new (.cells ((planC (⟨0, 0, 0, 0, 0, 0⟩ : Plan))).toArray 24 (0, 0)) r (fun R => y_alloc tz24) rfl fun fr b11 w12 n13 r => ?_
          have h_b3 := keep n13.below h_b3
          have e_b11 := n13.eq
          have z_w12 := n13.size
          have h_b11 := n13.at_
          have hB := hB.trans (n13.below.mono hB.size)
          have zB := hB.size
          refine seq_upd (.cells ((planC (⟨1048576, 16, 1024, 64, 256, 1073741823⟩ : Plan))).toArray 24 (0, 0)) r (fun R => y_store r (o := 0) (v := (.agg (planC (⟨1048576, 16, 1024, 64, 256, 1073741823⟩ : Plan)).toArray)) rfl rfl h_b11 ts24 (Nat.le_of_ble_eq_true rfl) rfl rfl) rfl fun fr w14 u15 r => ?_
          have z_w14 := u15.size
          have h_b3 := u15.keep h_b3 (by omega)
          have h_b11 := u15.at_
          have hB := u15.below hB (by omega)
          have zB := hB.size
          refine wpList_nil ?_
          refine wp_seq ?_
          refine wp_seq ?_
          refine wp_region_lit ?_
          refine seq_val (.int .u8 a0) r (fun R => y_move r rfl) rfl fun fr r => ?_
          refine seq_val (.int .u8 (a0.tmod 6)) r (fun R => y_bin r (u := (.int .u8 a0)) (u' := (.int .u8 6)) rfl rfl rfl rfl) rfl fun fr r => ?_
          refine wpList_nil ?_
          refine wp_block ?_
          refine wp_seq ?_
          refine wp_region_lit ?_
          refine seq_val (.bool ((a0.tmod 6) == 0)) r (fun R => y_bin r (u := (.int .u8 (a0.tmod 6))) (u' := (.int .u8 0)) rfl rfl rfl rfl) rfl fun fr r => ?_
          refine seq_val (.bool ((a0.tmod 6) == 0)) r (fun R => y_assign r rfl) rfl fun fr r => ?_
          refine wpList_nil ?_
          refine wp_cond_split (t := ((a0.tmod 6) == 0)) (r.ev rfl) (fun h16 => ?_) (fun h16 => ?_)
          · skip
            refine wp_region_lit ?_
            refine seq_val (.pointer (some ⟨b11, 0, none⟩)) r (fun R => y_fieldAddr r (o := 0) rfl fo24_0) rfl fun fr r => ?_
            refine seq_val (.int .i64 (⟨1048576, 16, 1024, 64, 256, 1073741823⟩ : Plan).nodes) r (fun R => y_load_one r (v := (.int .i64 (⟨1048576, 16, 1024, 64, 256, 1073741823⟩ : Plan).nodes)) rfl h_b11 to3 rfl) rfl fun fr r => ?_
            refine seq_val (.int .i64 (IntKind.i64.wrap (((⟨1048576, 16, 1024, 64, 256, 1073741823⟩ : Plan).nodes) + 1))) r (fun R => y_bin r (u := (.int .i64 (⟨1048576, 16, 1024, 64, 256, 1073741823⟩ : Plan).nodes)) (u' := (.int .i64 1)) rfl rfl rfl rfl) rfl fun fr r => ?_
            refine seq_val (.pointer (some ⟨b11, 0, none⟩)) r (fun R => y_fieldAddr r (o := 0) rfl fo24_0) rfl fun fr r => ?_
            refine seq_upd (.cells ((planC ({ (⟨1048576, 16, 1024, 64, 256, 1073741823⟩ : Plan) with nodes := (IntKind.i64.wrap (((⟨1048576, 16, 1024, 64, 256, 1073741823⟩ : Plan).nodes) + 1)) }))).toArray 24 (0, 0)) r (fun R => y_store r (o := 0) (v := (.int .i64 (IntKind.i64.wrap (((⟨1048576, 16, 1024, 64, 256, 1073741823⟩ : Plan).nodes) + 1)))) rfl rfl h_b11 ts3 (Nat.le_of_ble_eq_true rfl) rfl rfl) rfl fun fr w17 u18 r => ?_
            have z_w17 := u18.size
            have h_b3 := u18.keep h_b3 (by omega)
            have h_b11 := u18.at_
            have hB := u18.below hB (by omega)
            have zB := hB.size
            refine wpList_nil ?_
            refine wp_seq ?_
            refine wp_region_lit ?_
            refine seq_val (.agg (planC ({ (⟨1048576, 16, 1024, 64, 256, 1073741823⟩ : Plan) with nodes := (IntKind.i64.wrap (((⟨1048576, 16, 1024, 64, 256, 1073741823⟩ : Plan).nodes) + 1)) })).toArray) r (fun R => y_load_agg r (cs := (planC ({ (⟨1048576, 16, 1024, 64, 256, 1073741823⟩ : Plan) with nodes := (IntKind.i64.wrap (((⟨1048576, 16, 1024, 64, 256, 1073741823⟩ : Plan).nodes) + 1)) }))) (n := 6) rfl h_b11 ta24 rfl) rfl fun fr r => ?_
            refine seq_call r (c_plan_Plan_Formed w17 ({ (⟨1048576, 16, 1024, 64, 256, 1073741823⟩ : Plan) with nodes := (IntKind.i64.wrap (((⟨1048576, 16, 1024, 64, 256, 1073741823⟩ : Plan).nodes) + 1)) })) (fun R hc => y_call r rfl cl19 hc) rfl ?_
            rintro _ w19 ⟨rfl, hb⟩
            refine ⟨_, rfl, fun fr r => ?_⟩
            have z_w19 := hb.size
            have h_b3 := keep hb h_b3
            have h_b11 := keep hb h_b11
            have hB := hB.trans (hb.mono hB.size)
            have zB := hB.size
            refine seq_val (.bool (!(D.plan_Plan_Formed ({ (⟨1048576, 16, 1024, 64, 256, 1073741823⟩ : Plan) with nodes := (IntKind.i64.wrap (((⟨1048576, 16, 1024, 64, 256, 1073741823⟩ : Plan).nodes) + 1)) })))) r (fun R => y_un r (u := (.bool (D.plan_Plan_Formed ({ (⟨1048576, 16, 1024, 64, 256, 1073741823⟩ : Plan) with nodes := (IntKind.i64.wrap (((⟨1048576, 16, 1024, 64, 256, 1073741823⟩ : Plan).nodes) + 1)) })))) rfl rfl) rfl fun fr r => ?_
            refine seq_val (.bool (!(D.plan_Plan_Formed ({ (⟨1048576, 16, 1024, 64, 256, 1073741823⟩ : Plan) with nodes := (IntKind.i64.wrap (((⟨1048576, 16, 1024, 64, 256, 1073741823⟩ : Plan).nodes) + 1)) })))) r (fun R => y_move r rfl) rfl fun fr r => ?_
            refine seq_split (!(D.plan_Plan_Formed ({ (⟨1048576, 16, 1024, 64, 256, 1073741823⟩ : Plan) with nodes := (IntKind.i64.wrap (((⟨1048576, 16, 1024, 64, 256, 1073741823⟩ : Plan).nodes) + 1)) }))) (fun h20 => ?_) (fun h20 => ?_)
            · skip
              refine seq_want r rfl rfl rfl (congrArg Value.bool h20) ?_
              refine seq_val (.agg (planC ({ (⟨1048576, 16, 1024, 64, 256, 1073741823⟩ : Plan) with nodes := (IntKind.i64.wrap (((⟨1048576, 16, 1024, 64, 256, 1073741823⟩ : Plan).nodes) + 1)) })).toArray) r (fun R => y_load_agg r (cs := (planC ({ (⟨1048576, 16, 1024, 64, 256, 1073741823⟩ : Plan) with nodes := (IntKind.i64.wrap (((⟨1048576, 16, 1024, 64, 256, 1073741823⟩ : Plan).nodes) + 1)) }))) (n := 6) rfl h_b11 ta24 rfl) rfl fun fr r => ?_
              refine seq_want r rfl rfl rfl (congrArg Value.bool h20) ?_
              refine seq_call r (c_plan_Plan_Size w19 ({ (⟨1048576, 16, 1024, 64, 256, 1073741823⟩ : Plan) with nodes := (IntKind.i64.wrap (((⟨1048576, 16, 1024, 64, 256, 1073741823⟩ : Plan).nodes) + 1)) })) (fun R hc => y_call r rfl cl21 hc) rfl ?_
              rintro _ w21 ⟨rfl, hb⟩
              refine ⟨_, rfl, fun fr r => ?_⟩
              have z_w21 := hb.size
              have h_b3 := keep hb h_b3
              have h_b11 := keep hb h_b11
              have hB := hB.trans (hb.mono hB.size)
              have zB := hB.size
              refine seq_want r rfl rfl rfl (congrArg Value.bool h20) ?_
              refine seq_val (.bool ((D.plan_Plan_Size ({ (⟨1048576, 16, 1024, 64, 256, 1073741823⟩ : Plan) with nodes := (IntKind.i64.wrap (((⟨1048576, 16, 1024, 64, 256, 1073741823⟩ : Plan).nodes) + 1)) })) == 0)) r (fun R => y_bin r (u := (.int .i64 (D.plan_Plan_Size ({ (⟨1048576, 16, 1024, 64, 256, 1073741823⟩ : Plan) with nodes := (IntKind.i64.wrap (((⟨1048576, 16, 1024, 64, 256, 1073741823⟩ : Plan).nodes) + 1)) })))) (u' := (.int .i64 0)) rfl rfl rfl rfl) rfl fun fr r => ?_
              refine seq_val (.bool ((D.plan_Plan_Size ({ (⟨1048576, 16, 1024, 64, 256, 1073741823⟩ : Plan) with nodes := (IntKind.i64.wrap (((⟨1048576, 16, 1024, 64, 256, 1073741823⟩ : Plan).nodes) + 1)) })) == 0)) r (fun R => y_pick r (b := true) (congrArg Value.bool h20) rfl) rfl fun fr r => ?_
              refine seq_val (.bool ((D.plan_Plan_Size ({ (⟨1048576, 16, 1024, 64, 256, 1073741823⟩ : Plan) with nodes := (IntKind.i64.wrap (((⟨1048576, 16, 1024, 64, 256, 1073741823⟩ : Plan).nodes) + 1)) })) == 0)) r (fun R => y_move r rfl) rfl fun fr r => ?_
              refine seq_split ((D.plan_Plan_Size ({ (⟨1048576, 16, 1024, 64, 256, 1073741823⟩ : Plan) with nodes := (IntKind.i64.wrap (((⟨1048576, 16, 1024, 64, 256, 1073741823⟩ : Plan).nodes) + 1)) })) == 0) (fun h22 => ?_) (fun h22 => ?_)
              · skip
                refine seq_want r rfl rfl rfl (congrArg Value.bool h22) ?_
                refine seq_val (.agg (planC ({ (⟨1048576, 16, 1024, 64, 256, 1073741823⟩ : Plan) with nodes := (IntKind.i64.wrap (((⟨1048576, 16, 1024, 64, 256, 1073741823⟩ : Plan).nodes) + 1)) })).toArray) r (fun R => y_load_agg r (cs := (planC ({ (⟨1048576, 16, 1024, 64, 256, 1073741823⟩ : Plan) with nodes := (IntKind.i64.wrap (((⟨1048576, 16, 1024, 64, 256, 1073741823⟩ : Plan).nodes) + 1)) }))) (n := 6) rfl h_b11 ta24 rfl) rfl fun fr r => ?_
                refine seq_want r rfl rfl rfl (congrArg Value.bool h22) ?_
                refine seq_call r (c_plan_Plan_Head w21 ({ (⟨1048576, 16, 1024, 64, 256, 1073741823⟩ : Plan) with nodes := (IntKind.i64.wrap (((⟨1048576, 16, 1024, 64, 256, 1073741823⟩ : Plan).nodes) + 1)) })) (fun R hc => y_call r rfl cl22 hc) rfl ?_
                rintro _ w23 ⟨rfl, hb⟩
                refine ⟨_, rfl, fun fr r => ?_⟩
                have z_w23 := hb.size
                have h_b3 := keep hb h_b3
                have h_b11 := keep hb h_b11
                have hB := hB.trans (hb.mono hB.size)
                have zB := hB.size
                refine seq_want r rfl rfl rfl (congrArg Value.bool h22) ?_
                refine seq_val (.bool ((D.plan_Plan_Head ({ (⟨1048576, 16, 1024, 64, 256, 1073741823⟩ : Plan) with nodes := (IntKind.i64.wrap (((⟨1048576, 16, 1024, 64, 256, 1073741823⟩ : Plan).nodes) + 1)) })) == (-1))) r (fun R => y_bin r (u := (.int .i64 (D.plan_Plan_Head ({ (⟨1048576, 16, 1024, 64, 256, 1073741823⟩ : Plan) with nodes := (IntKind.i64.wrap (((⟨1048576, 16, 1024, 64, 256, 1073741823⟩ : Plan).nodes) + 1)) })))) (u' := (.int .i64 (-1))) rfl rfl rfl rfl) rfl fun fr r => ?_
                refine seq_val (.bool ((D.plan_Plan_Head ({ (⟨1048576, 16, 1024, 64, 256, 1073741823⟩ : Plan) with nodes := (IntKind.i64.wrap (((⟨1048576, 16, 1024, 64, 256, 1073741823⟩ : Plan).nodes) + 1)) })) == (-1))) r (fun R => y_pick r (b := true) (congrArg Value.bool h22) rfl) rfl fun fr r => ?_
                refine seq_val (.bool ((D.plan_Plan_Head ({ (⟨1048576, 16, 1024, 64, 256, 1073741823⟩ : Plan) with nodes := (IntKind.i64.wrap (((⟨1048576, 16, 1024, 64, 256, 1073741823⟩ : Plan).nodes) + 1)) })) == (-1))) r (fun R => y_assign r rfl) rfl fun fr r => ?_
                refine wpList_nil ?_
                refine wp_ret ?_
                have hd : D.cubiclelaw06_PlanGreat a0 = ((D.plan_Plan_Head ({ (⟨1048576, 16, 1024, 64, 256, 1073741823⟩ : Plan) with nodes := (IntKind.i64.wrap (((⟨1048576, 16, 1024, 64, 256, 1073741823⟩ : Plan).nodes) + 1)) })) == (-1)) := (cond_f h2).trans ((cond_t h8).trans ((cond_f h10).trans ((cond_t h16).trans ((cond_t h20).trans ((cond_t h22).trans (rfl))))))
                refine ret_tmp r rfl (v := (.bool ((D.plan_Plan_Head ({ (⟨1048576, 16, 1024, 64, 256, 1073741823⟩ : Plan) with nodes := (IntKind.i64.wrap (((⟨1048576, 16, 1024, 64, 256, 1073741823⟩ : Plan).nodes) + 1)) })) == (-1)))) rfl ?_
                rw [hd]
                exact ⟨rfl, hB⟩
              · skip
                refine seq_skip r rfl rfl rfl (v := .bool false) (congrArg Value.bool h22) (by simp [boolOf]) fun fr r => ?_
                refine seq_skip r rfl rfl rfl (v := .bool false) (congrArg Value.bool h22) (by simp [boolOf]) fun fr r => ?_
                refine seq_skip r rfl rfl rfl (v := .bool false) (congrArg Value.bool h22) (by simp [boolOf]) fun fr r => ?_
                refine seq_val (.bool false) r (fun R => y_pick r (b := false) (congrArg Value.bool h22) rfl) rfl fun fr r => ?_
                refine seq_val (.bool false) r (fun R => y_assign r rfl) rfl fun fr r => ?_
                refine wpList_nil ?_
                refine wp_ret ?_
                have hd : D.cubiclelaw06_PlanGreat a0 = false := (cond_f h2).trans ((cond_t h8).trans ((cond_f h10).trans ((cond_t h16).trans ((cond_t h20).trans ((cond_f h22).trans (rfl))))))
                refine ret_tmp r rfl (v := (.bool false)) rfl ?_
                rw [hd]
                exact ⟨rfl, hB⟩
            · skip
              refine seq_skip r rfl rfl rfl (v := .bool false) (congrArg Value.bool h20) (by simp [boolOf]) fun fr r => ?_
              refine seq_skip r rfl rfl rfl (v := .bool false) (congrArg Value.bool h20) (by simp [boolOf]) fun fr r => ?_
              refine seq_skip r rfl rfl rfl (v := .bool false) (congrArg Value.bool h20) (by simp [boolOf]) fun fr r => ?_
              refine seq_val (.bool false) r (fun R => y_pick r (b := false) (congrArg Value.bool h20) rfl) rfl fun fr r => ?_
              refine seq_val (.bool false) r (fun R => y_move r rfl) rfl fun fr r => ?_
              refine seq_skip r rfl rfl rfl (v := .bool false) (congrArg Value.bool (rfl : false = _)) (by simp [boolOf]) fun fr r => ?_
              refine seq_skip r rfl rfl rfl (v := .bool false) (congrArg Value.bool (rfl : false = _)) (by simp [boolOf]) fun fr r => ?_
              refine seq_skip r rfl rfl rfl (v := .bool false) (congrArg Value.bool (rfl : false = _)) (by simp [boolOf]) fun fr r => ?_
              refine seq_val (.bool false) r (fun R => y_pick r (b := false) (congrArg Value.bool (rfl : false = _)) rfl) rfl fun fr r => ?_
              refine seq_val (.bool false) r (fun R => y_assign r rfl) rfl fun fr r => ?_
              refine wpList_nil ?_
              refine wp_ret ?_
              have hd : D.cubiclelaw06_PlanGreat a0 = false := (cond_f h2).trans ((cond_t h8).trans ((cond_f h10).trans ((cond_t h16).trans ((cond_f h20).trans (rfl)))))
              refine ret_tmp r rfl (v := (.bool false)) rfl ?_
              rw [hd]
              exact ⟨rfl, hB⟩
          · skip
            refine wp_seq ?_
            refine wp_region_lit ?_
            refine seq_val (.bool ((a0.tmod 6) == 1)) r (fun R => y_bin r (u := (.int .u8 (a0.tmod 6))) (u' := (.int .u8 1)) rfl rfl rfl rfl) rfl fun fr r => ?_
            refine seq_val (.bool ((a0.tmod 6) == 1)) r (fun R => y_assign r rfl) rfl fun fr r => ?_
            refine wpList_nil ?_
            refine wp_cond_split (t := ((a0.tmod 6) == 1)) (r.ev rfl) (fun h24 => ?_) (fun h24 => ?_)
            · skip
              refine wp_region_lit ?_
              refine seq_val (.pointer (some ⟨b11, 1, none⟩)) r (fun R => y_fieldAddr r (o := 0) rfl fo24_1) rfl fun fr r => ?_
              refine seq_val (.int .i64 (⟨1048576, 16, 1024, 64, 256, 1073741823⟩ : Plan).threads) r (fun R => y_load_one r (v := (.int .i64 (⟨1048576, 16, 1024, 64, 256, 1073741823⟩ : Plan).threads)) rfl h_b11 to3 rfl) rfl fun fr r => ?_
              refine seq_val (.int .i64 (IntKind.i64.wrap (((⟨1048576, 16, 1024, 64, 256, 1073741823⟩ : Plan).threads) + 1))) r (fun R => y_bin r (u := (.int .i64 (⟨1048576, 16, 1024, 64, 256, 1073741823⟩ : Plan).threads)) (u' := (.int .i64 1)) rfl rfl rfl rfl) rfl fun fr r => ?_
              refine seq_val (.pointer (some ⟨b11, 1, none⟩)) r (fun R => y_fieldAddr r (o := 0) rfl fo24_1) rfl fun fr r => ?_
              refine seq_upd (.cells ((planC ({ (⟨1048576, 16, 1024, 64, 256, 1073741823⟩ : Plan) with threads := (IntKind.i64.wrap (((⟨1048576, 16, 1024, 64, 256, 1073741823⟩ : Plan).threads) + 1)) }))).toArray 24 (0, 0)) r (fun R => y_store r (o := 1) (v := (.int .i64 (IntKind.i64.wrap (((⟨1048576, 16, 1024, 64, 256, 1073741823⟩ : Plan).threads) + 1)))) rfl rfl h_b11 ts3 (Nat.le_of_ble_eq_true rfl) rfl rfl) rfl fun fr w25 u26 r => ?_
              have z_w25 := u26.size
              have h_b3 := u26.keep h_b3 (by omega)
              have h_b11 := u26.at_
              have hB := u26.below hB (by omega)
              have zB := hB.size
              refine wpList_nil ?_
              refine wp_seq ?_
              refine wp_region_lit ?_
              refine seq_val (.agg (planC ({ (⟨1048576, 16, 1024, 64, 256, 1073741823⟩ : Plan) with threads := (IntKind.i64.wrap (((⟨1048576, 16, 1024, 64, 256, 1073741823⟩ : Plan).threads) + 1)) })).toArray) r (fun R => y_load_agg r (cs := (planC ({ (⟨1048576, 16, 1024, 64, 256, 1073741823⟩ : Plan) with threads := (IntKind.i64.wrap (((⟨1048576, 16, 1024, 64, 256, 1073741823⟩ : Plan).threads) + 1)) }))) (n := 6) rfl h_b11 ta24 rfl) rfl fun fr r => ?_
              refine seq_call r (c_plan_Plan_Formed w25 ({ (⟨1048576, 16, 1024, 64, 256, 1073741823⟩ : Plan) with threads := (IntKind.i64.wrap (((⟨1048576, 16, 1024, 64, 256, 1073741823⟩ : Plan).threads) + 1)) })) (fun R hc => y_call r rfl cl19 hc) rfl ?_
              rintro _ w27 ⟨rfl, hb⟩
              refine ⟨_, rfl, fun fr r => ?_⟩
              have z_w27 := hb.size
              have h_b3 := keep hb h_b3
              have h_b11 := keep hb h_b11
              have hB := hB.trans (hb.mono hB.size)
              have zB := hB.size
              refine seq_val (.bool (!(D.plan_Plan_Formed ({ (⟨1048576, 16, 1024, 64, 256, 1073741823⟩ : Plan) with threads := (IntKind.i64.wrap (((⟨1048576, 16, 1024, 64, 256, 1073741823⟩ : Plan).threads) + 1)) })))) r (fun R => y_un r (u := (.bool (D.plan_Plan_Formed ({ (⟨1048576, 16, 1024, 64, 256, 1073741823⟩ : Plan) with threads := (IntKind.i64.wrap (((⟨1048576, 16, 1024, 64, 256, 1073741823⟩ : Plan).threads) + 1)) })))) rfl rfl) rfl fun fr r => ?_
              refine seq_val (.bool (!(D.plan_Plan_Formed ({ (⟨1048576, 16, 1024, 64, 256, 1073741823⟩ : Plan) with threads := (IntKind.i64.wrap (((⟨1048576, 16, 1024, 64, 256, 1073741823⟩ : Plan).threads) + 1)) })))) r (fun R => y_move r rfl) rfl fun fr r => ?_
              refine seq_split (!(D.plan_Plan_Formed ({ (⟨1048576, 16, 1024, 64, 256, 1073741823⟩ : Plan) with threads := (IntKind.i64.wrap (((⟨1048576, 16, 1024, 64, 256, 1073741823⟩ : Plan).threads) + 1)) }))) (fun h28 => ?_) (fun h28 => ?_)
              · skip
                refine seq_want r rfl rfl rfl (congrArg Value.bool h28) ?_
                refine seq_val (.agg (planC ({ (⟨1048576, 16, 1024, 64, 256, 1073741823⟩ : Plan) with threads := (IntKind.i64.wrap (((⟨1048576, 16, 1024, 64, 256, 1073741823⟩ : Plan).threads) + 1)) })).toArray) r (fun R => y_load_agg r (cs := (planC ({ (⟨1048576, 16, 1024, 64, 256, 1073741823⟩ : Plan) with threads := (IntKind.i64.wrap (((⟨1048576, 16, 1024, 64, 256, 1073741823⟩ : Plan).threads) + 1)) }))) (n := 6) rfl h_b11 ta24 rfl) rfl fun fr r => ?_
                refine seq_want r rfl rfl rfl (congrArg Value.bool h28) ?_
                refine seq_call r (c_plan_Plan_Size w27 ({ (⟨1048576, 16, 1024, 64, 256, 1073741823⟩ : Plan) with threads := (IntKind.i64.wrap (((⟨1048576, 16, 1024, 64, 256, 1073741823⟩ : Plan).threads) + 1)) })) (fun R hc => y_call r rfl cl21 hc) rfl ?_
                rintro _ w29 ⟨rfl, hb⟩
                refine ⟨_, rfl, fun fr r => ?_⟩
                have z_w29 := hb.size
                have h_b3 := keep hb h_b3
                have h_b11 := keep hb h_b11
                have hB := hB.trans (hb.mono hB.size)
                have zB := hB.size
                refine seq_want r rfl rfl rfl (congrArg Value.bool h28) ?_
                refine seq_val (.bool ((D.plan_Plan_Size ({ (⟨1048576, 16, 1024, 64, 256, 1073741823⟩ : Plan) with threads := (IntKind.i64.wrap (((⟨1048576, 16, 1024, 64, 256, 1073741823⟩ : Plan).threads) + 1)) })) == 0)) r (fun R => y_bin r (u := (.int .i64 (D.plan_Plan_Size ({ (⟨1048576, 16, 1024, 64, 256, 1073741823⟩ : Plan) with threads := (IntKind.i64.wrap (((⟨1048576, 16, 1024, 64, 256, 1073741823⟩ : Plan).threads) + 1)) })))) (u' := (.int .i64 0)) rfl rfl rfl rfl) rfl fun fr r => ?_
                refine seq_val (.bool ((D.plan_Plan_Size ({ (⟨1048576, 16, 1024, 64, 256, 1073741823⟩ : Plan) with threads := (IntKind.i64.wrap (((⟨1048576, 16, 1024, 64, 256, 1073741823⟩ : Plan).threads) + 1)) })) == 0)) r (fun R => y_pick r (b := true) (congrArg Value.bool h28) rfl) rfl fun fr r => ?_
                refine seq_val (.bool ((D.plan_Plan_Size ({ (⟨1048576, 16, 1024, 64, 256, 1073741823⟩ : Plan) with threads := (IntKind.i64.wrap (((⟨1048576, 16, 1024, 64, 256, 1073741823⟩ : Plan).threads) + 1)) })) == 0)) r (fun R => y_move r rfl) rfl fun fr r => ?_
                refine seq_split ((D.plan_Plan_Size ({ (⟨1048576, 16, 1024, 64, 256, 1073741823⟩ : Plan) with threads := (IntKind.i64.wrap (((⟨1048576, 16, 1024, 64, 256, 1073741823⟩ : Plan).threads) + 1)) })) == 0) (fun h30 => ?_) (fun h30 => ?_)
                · skip
                  refine seq_want r rfl rfl rfl (congrArg Value.bool h30) ?_
                  refine seq_val (.agg (planC ({ (⟨1048576, 16, 1024, 64, 256, 1073741823⟩ : Plan) with threads := (IntKind.i64.wrap (((⟨1048576, 16, 1024, 64, 256, 1073741823⟩ : Plan).threads) + 1)) })).toArray) r (fun R => y_load_agg r (cs := (planC ({ (⟨1048576, 16, 1024, 64, 256, 1073741823⟩ : Plan) with threads := (IntKind.i64.wrap (((⟨1048576, 16, 1024, 64, 256, 1073741823⟩ : Plan).threads) + 1)) }))) (n := 6) rfl h_b11 ta24 rfl) rfl fun fr r => ?_
                  refine seq_want r rfl rfl rfl (congrArg Value.bool h30) ?_
                  refine seq_call r (c_plan_Plan_Head w29 ({ (⟨1048576, 16, 1024, 64, 256, 1073741823⟩ : Plan) with threads := (IntKind.i64.wrap (((⟨1048576, 16, 1024, 64, 256, 1073741823⟩ : Plan).threads) + 1)) })) (fun R hc => y_call r rfl cl22 hc) rfl ?_
                  rintro _ w31 ⟨rfl, hb⟩
                  refine ⟨_, rfl, fun fr r => ?_⟩
                  have z_w31 := hb.size
                  have h_b3 := keep hb h_b3
                  have h_b11 := keep hb h_b11
                  have hB := hB.trans (hb.mono hB.size)
                  have zB := hB.size
                  refine seq_want r rfl rfl rfl (congrArg Value.bool h30) ?_
                  refine seq_val (.bool ((D.plan_Plan_Head ({ (⟨1048576, 16, 1024, 64, 256, 1073741823⟩ : Plan) with threads := (IntKind.i64.wrap (((⟨1048576, 16, 1024, 64, 256, 1073741823⟩ : Plan).threads) + 1)) })) == (-1))) r (fun R => y_bin r (u := (.int .i64 (D.plan_Plan_Head ({ (⟨1048576, 16, 1024, 64, 256, 1073741823⟩ : Plan) with threads := (IntKind.i64.wrap (((⟨1048576, 16, 1024, 64, 256, 1073741823⟩ : Plan).threads) + 1)) })))) (u' := (.int .i64 (-1))) rfl rfl rfl rfl) rfl fun fr r => ?_
                  refine seq_val (.bool ((D.plan_Plan_Head ({ (⟨1048576, 16, 1024, 64, 256, 1073741823⟩ : Plan) with threads := (IntKind.i64.wrap (((⟨1048576, 16, 1024, 64, 256, 1073741823⟩ : Plan).threads) + 1)) })) == (-1))) r (fun R => y_pick r (b := true) (congrArg Value.bool h30) rfl) rfl fun fr r => ?_
                  refine seq_val (.bool ((D.plan_Plan_Head ({ (⟨1048576, 16, 1024, 64, 256, 1073741823⟩ : Plan) with threads := (IntKind.i64.wrap (((⟨1048576, 16, 1024, 64, 256, 1073741823⟩ : Plan).threads) + 1)) })) == (-1))) r (fun R => y_assign r rfl) rfl fun fr r => ?_
                  refine wpList_nil ?_
                  refine wp_ret ?_
                  have hd : D.cubiclelaw06_PlanGreat a0 = ((D.plan_Plan_Head ({ (⟨1048576, 16, 1024, 64, 256, 1073741823⟩ : Plan) with threads := (IntKind.i64.wrap (((⟨1048576, 16, 1024, 64, 256, 1073741823⟩ : Plan).threads) + 1)) })) == (-1)) := (cond_f h2).trans ((cond_t h8).trans ((cond_f h10).trans ((cond_f h16).trans ((cond_t h24).trans ((cond_t h28).trans ((cond_t h30).trans (rfl)))))))
                  refine ret_tmp r rfl (v := (.bool ((D.plan_Plan_Head ({ (⟨1048576, 16, 1024, 64, 256, 1073741823⟩ : Plan) with threads := (IntKind.i64.wrap (((⟨1048576, 16, 1024, 64, 256, 1073741823⟩ : Plan).threads) + 1)) })) == (-1)))) rfl ?_
                  rw [hd]
                  exact ⟨rfl, hB⟩
                · skip
                  refine seq_skip r rfl rfl rfl (v := .bool false) (congrArg Value.bool h30) (by simp [boolOf]) fun fr r => ?_
                  refine seq_skip r rfl rfl rfl (v := .bool false) (congrArg Value.bool h30) (by simp [boolOf]) fun fr r => ?_
                  refine seq_skip r rfl rfl rfl (v := .bool false) (congrArg Value.bool h30) (by simp [boolOf]) fun fr r => ?_
                  refine seq_val (.bool false) r (fun R => y_pick r (b := false) (congrArg Value.bool h30) rfl) rfl fun fr r => ?_
                  refine seq_val (.bool false) r (fun R => y_assign r rfl) rfl fun fr r => ?_
                  refine wpList_nil ?_
                  refine wp_ret ?_
                  have hd : D.cubiclelaw06_PlanGreat a0 = false := (cond_f h2).trans ((cond_t h8).trans ((cond_f h10).trans ((cond_f h16).trans ((cond_t h24).trans ((cond_t h28).trans ((cond_f h30).trans (rfl)))))))
                  refine ret_tmp r rfl (v := (.bool false)) rfl ?_
                  rw [hd]
                  exact ⟨rfl, hB⟩
              · skip
                refine seq_skip r rfl rfl rfl (v := .bool false) (congrArg Value.bool h28) (by simp [boolOf]) fun fr r => ?_
                refine seq_skip r rfl rfl rfl (v := .bool false) (congrArg Value.bool h28) (by simp [boolOf]) fun fr r => ?_
                refine seq_skip r rfl rfl rfl (v := .bool false) (congrArg Value.bool h28) (by simp [boolOf]) fun fr r => ?_
                refine seq_val (.bool false) r (fun R => y_pick r (b := false) (congrArg Value.bool h28) rfl) rfl fun fr r => ?_
                refine seq_val (.bool false) r (fun R => y_move r rfl) rfl fun fr r => ?_
                refine seq_skip r rfl rfl rfl (v := .bool false) (congrArg Value.bool (rfl : false = _)) (by simp [boolOf]) fun fr r => ?_
                refine seq_skip r rfl rfl rfl (v := .bool false) (congrArg Value.bool (rfl : false = _)) (by simp [boolOf]) fun fr r => ?_
                refine seq_skip r rfl rfl rfl (v := .bool false) (congrArg Value.bool (rfl : false = _)) (by simp [boolOf]) fun fr r => ?_
                refine seq_val (.bool false) r (fun R => y_pick r (b := false) (congrArg Value.bool (rfl : false = _)) rfl) rfl fun fr r => ?_
                refine seq_val (.bool false) r (fun R => y_assign r rfl) rfl fun fr r => ?_
                refine wpList_nil ?_
                refine wp_ret ?_
                have hd : D.cubiclelaw06_PlanGreat a0 = false := (cond_f h2).trans ((cond_t h8).trans ((cond_f h10).trans ((cond_f h16).trans ((cond_t h24).trans ((cond_f h28).trans (rfl))))))
                refine ret_tmp r rfl (v := (.bool false)) rfl ?_
                rw [hd]
                exact ⟨rfl, hB⟩
            · skip
              refine wp_seq ?_
              refine wp_region_lit ?_
              refine seq_val (.bool ((a0.tmod 6) == 2)) r (fun R => y_bin r (u := (.int .u8 (a0.tmod 6))) (u' := (.int .u8 2)) rfl rfl rfl rfl) rfl fun fr r => ?_
              refine seq_val (.bool ((a0.tmod 6) == 2)) r (fun R => y_assign r rfl) rfl fun fr r => ?_
              refine wpList_nil ?_
              refine wp_cond_split (t := ((a0.tmod 6) == 2)) (r.ev rfl) (fun h32 => ?_) (fun h32 => ?_)
              · skip
                refine wp_region_lit ?_
                refine seq_val (.pointer (some ⟨b11, 2, none⟩)) r (fun R => y_fieldAddr r (o := 0) rfl fo24_2) rfl fun fr r => ?_
                refine seq_val (.int .i64 (⟨1048576, 16, 1024, 64, 256, 1073741823⟩ : Plan).retire) r (fun R => y_load_one r (v := (.int .i64 (⟨1048576, 16, 1024, 64, 256, 1073741823⟩ : Plan).retire)) rfl h_b11 to3 rfl) rfl fun fr r => ?_
                refine seq_val (.int .i64 (IntKind.i64.wrap (((⟨1048576, 16, 1024, 64, 256, 1073741823⟩ : Plan).retire) + 1))) r (fun R => y_bin r (u := (.int .i64 (⟨1048576, 16, 1024, 64, 256, 1073741823⟩ : Plan).retire)) (u' := (.int .i64 1)) rfl rfl rfl rfl) rfl fun fr r => ?_
                refine seq_val (.pointer (some ⟨b11, 2, none⟩)) r (fun R => y_fieldAddr r (o := 0) rfl fo24_2) rfl fun fr r => ?_
                refine seq_upd (.cells ((planC ({ (⟨1048576, 16, 1024, 64, 256, 1073741823⟩ : Plan) with retire := (IntKind.i64.wrap (((⟨1048576, 16, 1024, 64, 256, 1073741823⟩ : Plan).retire) + 1)) }))).toArray 24 (0, 0)) r (fun R => y_store r (o := 2) (v := (.int .i64 (IntKind.i64.wrap (((⟨1048576, 16, 1024, 64, 256, 1073741823⟩ : Plan).retire) + 1)))) rfl rfl h_b11 ts3 (Nat.le_of_ble_eq_true rfl) rfl rfl) rfl fun fr w33 u34 r => ?_
                have z_w33 := u34.size
                have h_b3 := u34.keep h_b3 (by omega)
                have h_b11 := u34.at_
                have hB := u34.below hB (by omega)
                have zB := hB.size
                refine wpList_nil ?_
                refine wp_seq ?_
                refine wp_region_lit ?_
                refine seq_val (.agg (planC ({ (⟨1048576, 16, 1024, 64, 256, 1073741823⟩ : Plan) with retire := (IntKind.i64.wrap (((⟨1048576, 16, 1024, 64, 256, 1073741823⟩ : Plan).retire) + 1)) })).toArray) r (fun R => y_load_agg r (cs := (planC ({ (⟨1048576, 16, 1024, 64, 256, 1073741823⟩ : Plan) with retire := (IntKind.i64.wrap (((⟨1048576, 16, 1024, 64, 256, 1073741823⟩ : Plan).retire) + 1)) }))) (n := 6) rfl h_b11 ta24 rfl) rfl fun fr r => ?_
                refine seq_call r (c_plan_Plan_Formed w33 ({ (⟨1048576, 16, 1024, 64, 256, 1073741823⟩ : Plan) with retire := (IntKind.i64.wrap (((⟨1048576, 16, 1024, 64, 256, 1073741823⟩ : Plan).retire) + 1)) })) (fun R hc => y_call r rfl cl19 hc) rfl ?_
                rintro _ w35 ⟨rfl, hb⟩
                refine ⟨_, rfl, fun fr r => ?_⟩
                have z_w35 := hb.size
                have h_b3 := keep hb h_b3
                have h_b11 := keep hb h_b11
                have hB := hB.trans (hb.mono hB.size)
                have zB := hB.size
                refine seq_val (.bool (!(D.plan_Plan_Formed ({ (⟨1048576, 16, 1024, 64, 256, 1073741823⟩ : Plan) with retire := (IntKind.i64.wrap (((⟨1048576, 16, 1024, 64, 256, 1073741823⟩ : Plan).retire) + 1)) })))) r (fun R => y_un r (u := (.bool (D.plan_Plan_Formed ({ (⟨1048576, 16, 1024, 64, 256, 1073741823⟩ : Plan) with retire := (IntKind.i64.wrap (((⟨1048576, 16, 1024, 64, 256, 1073741823⟩ : Plan).retire) + 1)) })))) rfl rfl) rfl fun fr r => ?_
                refine seq_val (.bool (!(D.plan_Plan_Formed ({ (⟨1048576, 16, 1024, 64, 256, 1073741823⟩ : Plan) with retire := (IntKind.i64.wrap (((⟨1048576, 16, 1024, 64, 256, 1073741823⟩ : Plan).retire) + 1)) })))) r (fun R => y_move r rfl) rfl fun fr r => ?_
                refine seq_split (!(D.plan_Plan_Formed ({ (⟨1048576, 16, 1024, 64, 256, 1073741823⟩ : Plan) with retire := (IntKind.i64.wrap (((⟨1048576, 16, 1024, 64, 256, 1073741823⟩ : Plan).retire) + 1)) }))) (fun h36 => ?_) (fun h36 => ?_)
                · skip
                  refine seq_want r rfl rfl rfl (congrArg Value.bool h36) ?_
                  refine seq_val (.agg (planC ({ (⟨1048576, 16, 1024, 64, 256, 1073741823⟩ : Plan) with retire := (IntKind.i64.wrap (((⟨1048576, 16, 1024, 64, 256, 1073741823⟩ : Plan).retire) + 1)) })).toArray) r (fun R => y_load_agg r (cs := (planC ({ (⟨1048576, 16, 1024, 64, 256, 1073741823⟩ : Plan) with retire := (IntKind.i64.wrap (((⟨1048576, 16, 1024, 64, 256, 1073741823⟩ : Plan).retire) + 1)) }))) (n := 6) rfl h_b11 ta24 rfl) rfl fun fr r => ?_
                  refine seq_want r rfl rfl rfl (congrArg Value.bool h36) ?_
                  refine seq_call r (c_plan_Plan_Size w35 ({ (⟨1048576, 16, 1024, 64, 256, 1073741823⟩ : Plan) with retire := (IntKind.i64.wrap (((⟨1048576, 16, 1024, 64, 256, 1073741823⟩ : Plan).retire) + 1)) })) (fun R hc => y_call r rfl cl21 hc) rfl ?_
                  rintro _ w37 ⟨rfl, hb⟩
                  refine ⟨_, rfl, fun fr r => ?_⟩
                  have z_w37 := hb.size
                  have h_b3 := keep hb h_b3
                  have h_b11 := keep hb h_b11
                  have hB := hB.trans (hb.mono hB.size)
                  have zB := hB.size
                  refine seq_want r rfl rfl rfl (congrArg Value.bool h36) ?_
                  refine seq_val (.bool ((D.plan_Plan_Size ({ (⟨1048576, 16, 1024, 64, 256, 1073741823⟩ : Plan) with retire := (IntKind.i64.wrap (((⟨1048576, 16, 1024, 64, 256, 1073741823⟩ : Plan).retire) + 1)) })) == 0)) r (fun R => y_bin r (u := (.int .i64 (D.plan_Plan_Size ({ (⟨1048576, 16, 1024, 64, 256, 1073741823⟩ : Plan) with retire := (IntKind.i64.wrap (((⟨1048576, 16, 1024, 64, 256, 1073741823⟩ : Plan).retire) + 1)) })))) (u' := (.int .i64 0)) rfl rfl rfl rfl) rfl fun fr r => ?_
                  refine seq_val (.bool ((D.plan_Plan_Size ({ (⟨1048576, 16, 1024, 64, 256, 1073741823⟩ : Plan) with retire := (IntKind.i64.wrap (((⟨1048576, 16, 1024, 64, 256, 1073741823⟩ : Plan).retire) + 1)) })) == 0)) r (fun R => y_pick r (b := true) (congrArg Value.bool h36) rfl) rfl fun fr r => ?_
                  refine seq_val (.bool ((D.plan_Plan_Size ({ (⟨1048576, 16, 1024, 64, 256, 1073741823⟩ : Plan) with retire := (IntKind.i64.wrap (((⟨1048576, 16, 1024, 64, 256, 1073741823⟩ : Plan).retire) + 1)) })) == 0)) r (fun R => y_move r rfl) rfl fun fr r => ?_
                  refine seq_split ((D.plan_Plan_Size ({ (⟨1048576, 16, 1024, 64, 256, 1073741823⟩ : Plan) with retire := (IntKind.i64.wrap (((⟨1048576, 16, 1024, 64, 256, 1073741823⟩ : Plan).retire) + 1)) })) == 0) (fun h38 => ?_) (fun h38 => ?_)
                  · skip
                    refine seq_want r rfl rfl rfl (congrArg Value.bool h38) ?_
                    refine seq_val (.agg (planC ({ (⟨1048576, 16, 1024, 64, 256, 1073741823⟩ : Plan) with retire := (IntKind.i64.wrap (((⟨1048576, 16, 1024, 64, 256, 1073741823⟩ : Plan).retire) + 1)) })).toArray) r (fun R => y_load_agg r (cs := (planC ({ (⟨1048576, 16, 1024, 64, 256, 1073741823⟩ : Plan) with retire := (IntKind.i64.wrap (((⟨1048576, 16, 1024, 64, 256, 1073741823⟩ : Plan).retire) + 1)) }))) (n := 6) rfl h_b11 ta24 rfl) rfl fun fr r => ?_
                    refine seq_want r rfl rfl rfl (congrArg Value.bool h38) ?_
                    refine seq_call r (c_plan_Plan_Head w37 ({ (⟨1048576, 16, 1024, 64, 256, 1073741823⟩ : Plan) with retire := (IntKind.i64.wrap (((⟨1048576, 16, 1024, 64, 256, 1073741823⟩ : Plan).retire) + 1)) })) (fun R hc => y_call r rfl cl22 hc) rfl ?_
                    rintro _ w39 ⟨rfl, hb⟩
                    refine ⟨_, rfl, fun fr r => ?_⟩
                    have z_w39 := hb.size
                    have h_b3 := keep hb h_b3
                    have h_b11 := keep hb h_b11
                    have hB := hB.trans (hb.mono hB.size)
                    have zB := hB.size
                    refine seq_want r rfl rfl rfl (congrArg Value.bool h38) ?_
                    refine seq_val (.bool ((D.plan_Plan_Head ({ (⟨1048576, 16, 1024, 64, 256, 1073741823⟩ : Plan) with retire := (IntKind.i64.wrap (((⟨1048576, 16, 1024, 64, 256, 1073741823⟩ : Plan).retire) + 1)) })) == (-1))) r (fun R => y_bin r (u := (.int .i64 (D.plan_Plan_Head ({ (⟨1048576, 16, 1024, 64, 256, 1073741823⟩ : Plan) with retire := (IntKind.i64.wrap (((⟨1048576, 16, 1024, 64, 256, 1073741823⟩ : Plan).retire) + 1)) })))) (u' := (.int .i64 (-1))) rfl rfl rfl rfl) rfl fun fr r => ?_
                    refine seq_val (.bool ((D.plan_Plan_Head ({ (⟨1048576, 16, 1024, 64, 256, 1073741823⟩ : Plan) with retire := (IntKind.i64.wrap (((⟨1048576, 16, 1024, 64, 256, 1073741823⟩ : Plan).retire) + 1)) })) == (-1))) r (fun R => y_pick r (b := true) (congrArg Value.bool h38) rfl) rfl fun fr r => ?_
                    refine seq_val (.bool ((D.plan_Plan_Head ({ (⟨1048576, 16, 1024, 64, 256, 1073741823⟩ : Plan) with retire := (IntKind.i64.wrap (((⟨1048576, 16, 1024, 64, 256, 1073741823⟩ : Plan).retire) + 1)) })) == (-1))) r (fun R => y_assign r rfl) rfl fun fr r => ?_
                    refine wpList_nil ?_
                    refine wp_ret ?_
                    have hd : D.cubiclelaw06_PlanGreat a0 = ((D.plan_Plan_Head ({ (⟨1048576, 16, 1024, 64, 256, 1073741823⟩ : Plan) with retire := (IntKind.i64.wrap (((⟨1048576, 16, 1024, 64, 256, 1073741823⟩ : Plan).retire) + 1)) })) == (-1)) := (cond_f h2).trans ((cond_t h8).trans ((cond_f h10).trans ((cond_f h16).trans ((cond_f h24).trans ((cond_t h32).trans ((cond_t h36).trans ((cond_t h38).trans (rfl))))))))
                    refine ret_tmp r rfl (v := (.bool ((D.plan_Plan_Head ({ (⟨1048576, 16, 1024, 64, 256, 1073741823⟩ : Plan) with retire := (IntKind.i64.wrap (((⟨1048576, 16, 1024, 64, 256, 1073741823⟩ : Plan).retire) + 1)) })) == (-1)))) rfl ?_
                    rw [hd]
                    exact ⟨rfl, hB⟩
                  · skip
                    refine seq_skip r rfl rfl rfl (v := .bool false) (congrArg Value.bool h38) (by simp [boolOf]) fun fr r => ?_
                    refine seq_skip r rfl rfl rfl (v := .bool false) (congrArg Value.bool h38) (by simp [boolOf]) fun fr r => ?_
                    refine seq_skip r rfl rfl rfl (v := .bool false) (congrArg Value.bool h38) (by simp [boolOf]) fun fr r => ?_
                    refine seq_val (.bool false) r (fun R => y_pick r (b := false) (congrArg Value.bool h38) rfl) rfl fun fr r => ?_
                    refine seq_val (.bool false) r (fun R => y_assign r rfl) rfl fun fr r => ?_
                    refine wpList_nil ?_
                    refine wp_ret ?_
                    have hd : D.cubiclelaw06_PlanGreat a0 = false := (cond_f h2).trans ((cond_t h8).trans ((cond_f h10).trans ((cond_f h16).trans ((cond_f h24).trans ((cond_t h32).trans ((cond_t h36).trans ((cond_f h38).trans (rfl))))))))
                    refine ret_tmp r rfl (v := (.bool false)) rfl ?_
                    rw [hd]
                    exact ⟨rfl, hB⟩
                · skip
                  refine seq_skip r rfl rfl rfl (v := .bool false) (congrArg Value.bool h36) (by simp [boolOf]) fun fr r => ?_
                  refine seq_skip r rfl rfl rfl (v := .bool false) (congrArg Value.bool h36) (by simp [boolOf]) fun fr r => ?_
                  refine seq_skip r rfl rfl rfl (v := .bool false) (congrArg Value.bool h36) (by simp [boolOf]) fun fr r => ?_
                  refine seq_val (.bool false) r (fun R => y_pick r (b := false) (congrArg Value.bool h36) rfl) rfl fun fr r => ?_
                  refine seq_val (.bool false) r (fun R => y_move r rfl) rfl fun fr r => ?_
                  refine seq_skip r rfl rfl rfl (v := .bool false) (congrArg Value.bool (rfl : false = _)) (by simp [boolOf]) fun fr r => ?_
                  refine seq_skip r rfl rfl rfl (v := .bool false) (congrArg Value.bool (rfl : false = _)) (by simp [boolOf]) fun fr r => ?_
                  refine seq_skip r rfl rfl rfl (v := .bool false) (congrArg Value.bool (rfl : false = _)) (by simp [boolOf]) fun fr r => ?_
                  refine seq_val (.bool false) r (fun R => y_pick r (b := false) (congrArg Value.bool (rfl : false = _)) rfl) rfl fun fr r => ?_
                  refine seq_val (.bool false) r (fun R => y_assign r rfl) rfl fun fr r => ?_
                  refine wpList_nil ?_
                  refine wp_ret ?_
                  have hd : D.cubiclelaw06_PlanGreat a0 = false := (cond_f h2).trans ((cond_t h8).trans ((cond_f h10).trans ((cond_f h16).trans ((cond_f h24).trans ((cond_t h32).trans ((cond_f h36).trans (rfl)))))))
                  refine ret_tmp r rfl (v := (.bool false)) rfl ?_
                  rw [hd]
                  exact ⟨rfl, hB⟩
              · skip
                refine wp_seq ?_
                refine wp_region_lit ?_
                refine seq_val (.bool ((a0.tmod 6) == 3)) r (fun R => y_bin r (u := (.int .u8 (a0.tmod 6))) (u' := (.int .u8 3)) rfl rfl rfl rfl) rfl fun fr r => ?_
                refine seq_val (.bool ((a0.tmod 6) == 3)) r (fun R => y_assign r rfl) rfl fun fr r => ?_
                refine wpList_nil ?_
                refine wp_cond_split (t := ((a0.tmod 6) == 3)) (r.ev rfl) (fun h40 => ?_) (fun h40 => ?_)
                · skip
                  refine wp_region_lit ?_
                  refine seq_val (.pointer (some ⟨b11, 3, none⟩)) r (fun R => y_fieldAddr r (o := 0) rfl fo24_3) rfl fun fr r => ?_
                  refine seq_val (.int .i64 (⟨1048576, 16, 1024, 64, 256, 1073741823⟩ : Plan).domains) r (fun R => y_load_one r (v := (.int .i64 (⟨1048576, 16, 1024, 64, 256, 1073741823⟩ : Plan).domains)) rfl h_b11 to3 rfl) rfl fun fr r => ?_
                  refine seq_val (.int .i64 (IntKind.i64.wrap (((⟨1048576, 16, 1024, 64, 256, 1073741823⟩ : Plan).domains) + 1))) r (fun R => y_bin r (u := (.int .i64 (⟨1048576, 16, 1024, 64, 256, 1073741823⟩ : Plan).domains)) (u' := (.int .i64 1)) rfl rfl rfl rfl) rfl fun fr r => ?_
                  refine seq_val (.pointer (some ⟨b11, 3, none⟩)) r (fun R => y_fieldAddr r (o := 0) rfl fo24_3) rfl fun fr r => ?_
                  refine seq_upd (.cells ((planC ({ (⟨1048576, 16, 1024, 64, 256, 1073741823⟩ : Plan) with domains := (IntKind.i64.wrap (((⟨1048576, 16, 1024, 64, 256, 1073741823⟩ : Plan).domains) + 1)) }))).toArray 24 (0, 0)) r (fun R => y_store r (o := 3) (v := (.int .i64 (IntKind.i64.wrap (((⟨1048576, 16, 1024, 64, 256, 1073741823⟩ : Plan).domains) + 1)))) rfl rfl h_b11 ts3 (Nat.le_of_ble_eq_true rfl) rfl rfl) rfl fun fr w41 u42 r => ?_
                  have z_w41 := u42.size
                  have h_b3 := u42.keep h_b3 (by omega)
                  have h_b11 := u42.at_
                  have hB := u42.below hB (by omega)
                  have zB := hB.size
                  refine wpList_nil ?_
                  refine wp_seq ?_
                  refine wp_region_lit ?_
                  refine seq_val (.agg (planC ({ (⟨1048576, 16, 1024, 64, 256, 1073741823⟩ : Plan) with domains := (IntKind.i64.wrap (((⟨1048576, 16, 1024, 64, 256, 1073741823⟩ : Plan).domains) + 1)) })).toArray) r (fun R => y_load_agg r (cs := (planC ({ (⟨1048576, 16, 1024, 64, 256, 1073741823⟩ : Plan) with domains := (IntKind.i64.wrap (((⟨1048576, 16, 1024, 64, 256, 1073741823⟩ : Plan).domains) + 1)) }))) (n := 6) rfl h_b11 ta24 rfl) rfl fun fr r => ?_
                  refine seq_call r (c_plan_Plan_Formed w41 ({ (⟨1048576, 16, 1024, 64, 256, 1073741823⟩ : Plan) with domains := (IntKind.i64.wrap (((⟨1048576, 16, 1024, 64, 256, 1073741823⟩ : Plan).domains) + 1)) })) (fun R hc => y_call r rfl cl19 hc) rfl ?_
                  rintro _ w43 ⟨rfl, hb⟩
                  refine ⟨_, rfl, fun fr r => ?_⟩
                  have z_w43 := hb.size
                  have h_b3 := keep hb h_b3
                  have h_b11 := keep hb h_b11
                  have hB := hB.trans (hb.mono hB.size)
                  have zB := hB.size
                  refine seq_val (.bool (!(D.plan_Plan_Formed ({ (⟨1048576, 16, 1024, 64, 256, 1073741823⟩ : Plan) with domains := (IntKind.i64.wrap (((⟨1048576, 16, 1024, 64, 256, 1073741823⟩ : Plan).domains) + 1)) })))) r (fun R => y_un r (u := (.bool (D.plan_Plan_Formed ({ (⟨1048576, 16, 1024, 64, 256, 1073741823⟩ : Plan) with domains := (IntKind.i64.wrap (((⟨1048576, 16, 1024, 64, 256, 1073741823⟩ : Plan).domains) + 1)) })))) rfl rfl) rfl fun fr r => ?_
                  refine seq_val (.bool (!(D.plan_Plan_Formed ({ (⟨1048576, 16, 1024, 64, 256, 1073741823⟩ : Plan) with domains := (IntKind.i64.wrap (((⟨1048576, 16, 1024, 64, 256, 1073741823⟩ : Plan).domains) + 1)) })))) r (fun R => y_move r rfl) rfl fun fr r => ?_
                  refine seq_split (!(D.plan_Plan_Formed ({ (⟨1048576, 16, 1024, 64, 256, 1073741823⟩ : Plan) with domains := (IntKind.i64.wrap (((⟨1048576, 16, 1024, 64, 256, 1073741823⟩ : Plan).domains) + 1)) }))) (fun h44 => ?_) (fun h44 => ?_)
                  · skip
                    refine seq_want r rfl rfl rfl (congrArg Value.bool h44) ?_
                    refine seq_val (.agg (planC ({ (⟨1048576, 16, 1024, 64, 256, 1073741823⟩ : Plan) with domains := (IntKind.i64.wrap (((⟨1048576, 16, 1024, 64, 256, 1073741823⟩ : Plan).domains) + 1)) })).toArray) r (fun R => y_load_agg r (cs := (planC ({ (⟨1048576, 16, 1024, 64, 256, 1073741823⟩ : Plan) with domains := (IntKind.i64.wrap (((⟨1048576, 16, 1024, 64, 256, 1073741823⟩ : Plan).domains) + 1)) }))) (n := 6) rfl h_b11 ta24 rfl) rfl fun fr r => ?_
                    refine seq_want r rfl rfl rfl (congrArg Value.bool h44) ?_
                    refine seq_call r (c_plan_Plan_Size w43 ({ (⟨1048576, 16, 1024, 64, 256, 1073741823⟩ : Plan) with domains := (IntKind.i64.wrap (((⟨1048576, 16, 1024, 64, 256, 1073741823⟩ : Plan).domains) + 1)) })) (fun R hc => y_call r rfl cl21 hc) rfl ?_
                    rintro _ w45 ⟨rfl, hb⟩
                    refine ⟨_, rfl, fun fr r => ?_⟩
                    have z_w45 := hb.size
                    have h_b3 := keep hb h_b3
                    have h_b11 := keep hb h_b11
                    have hB := hB.trans (hb.mono hB.size)
                    have zB := hB.size
                    refine seq_want r rfl rfl rfl (congrArg Value.bool h44) ?_
                    refine seq_val (.bool ((D.plan_Plan_Size ({ (⟨1048576, 16, 1024, 64, 256, 1073741823⟩ : Plan) with domains := (IntKind.i64.wrap (((⟨1048576, 16, 1024, 64, 256, 1073741823⟩ : Plan).domains) + 1)) })) == 0)) r (fun R => y_bin r (u := (.int .i64 (D.plan_Plan_Size ({ (⟨1048576, 16, 1024, 64, 256, 1073741823⟩ : Plan) with domains := (IntKind.i64.wrap (((⟨1048576, 16, 1024, 64, 256, 1073741823⟩ : Plan).domains) + 1)) })))) (u' := (.int .i64 0)) rfl rfl rfl rfl) rfl fun fr r => ?_
                    refine seq_val (.bool ((D.plan_Plan_Size ({ (⟨1048576, 16, 1024, 64, 256, 1073741823⟩ : Plan) with domains := (IntKind.i64.wrap (((⟨1048576, 16, 1024, 64, 256, 1073741823⟩ : Plan).domains) + 1)) })) == 0)) r (fun R => y_pick r (b := true) (congrArg Value.bool h44) rfl) rfl fun fr r => ?_
                    refine seq_val (.bool ((D.plan_Plan_Size ({ (⟨1048576, 16, 1024, 64, 256, 1073741823⟩ : Plan) with domains := (IntKind.i64.wrap (((⟨1048576, 16, 1024, 64, 256, 1073741823⟩ : Plan).domains) + 1)) })) == 0)) r (fun R => y_move r rfl) rfl fun fr r => ?_
                    refine seq_split ((D.plan_Plan_Size ({ (⟨1048576, 16, 1024, 64, 256, 1073741823⟩ : Plan) with domains := (IntKind.i64.wrap (((⟨1048576, 16, 1024, 64, 256, 1073741823⟩ : Plan).domains) + 1)) })) == 0) (fun h46 => ?_) (fun h46 => ?_)
                    · skip
                      refine seq_want r rfl rfl rfl (congrArg Value.bool h46) ?_
                      refine seq_val (.agg (planC ({ (⟨1048576, 16, 1024, 64, 256, 1073741823⟩ : Plan) with domains := (IntKind.i64.wrap (((⟨1048576, 16, 1024, 64, 256, 1073741823⟩ : Plan).domains) + 1)) })).toArray) r (fun R => y_load_agg r (cs := (planC ({ (⟨1048576, 16, 1024, 64, 256, 1073741823⟩ : Plan) with domains := (IntKind.i64.wrap (((⟨1048576, 16, 1024, 64, 256, 1073741823⟩ : Plan).domains) + 1)) }))) (n := 6) rfl h_b11 ta24 rfl) rfl fun fr r => ?_
                      refine seq_want r rfl rfl rfl (congrArg Value.bool h46) ?_
                      refine seq_call r (c_plan_Plan_Head w45 ({ (⟨1048576, 16, 1024, 64, 256, 1073741823⟩ : Plan) with domains := (IntKind.i64.wrap (((⟨1048576, 16, 1024, 64, 256, 1073741823⟩ : Plan).domains) + 1)) })) (fun R hc => y_call r rfl cl22 hc) rfl ?_
                      rintro _ w47 ⟨rfl, hb⟩
                      refine ⟨_, rfl, fun fr r => ?_⟩
                      have z_w47 := hb.size
                      have h_b3 := keep hb h_b3
                      have h_b11 := keep hb h_b11
                      have hB := hB.trans (hb.mono hB.size)
                      have zB := hB.size
                      refine seq_want r rfl rfl rfl (congrArg Value.bool h46) ?_
                      refine seq_val (.bool ((D.plan_Plan_Head ({ (⟨1048576, 16, 1024, 64, 256, 1073741823⟩ : Plan) with domains := (IntKind.i64.wrap (((⟨1048576, 16, 1024, 64, 256, 1073741823⟩ : Plan).domains) + 1)) })) == (-1))) r (fun R => y_bin r (u := (.int .i64 (D.plan_Plan_Head ({ (⟨1048576, 16, 1024, 64, 256, 1073741823⟩ : Plan) with domains := (IntKind.i64.wrap (((⟨1048576, 16, 1024, 64, 256, 1073741823⟩ : Plan).domains) + 1)) })))) (u' := (.int .i64 (-1))) rfl rfl rfl rfl) rfl fun fr r => ?_
                      refine seq_val (.bool ((D.plan_Plan_Head ({ (⟨1048576, 16, 1024, 64, 256, 1073741823⟩ : Plan) with domains := (IntKind.i64.wrap (((⟨1048576, 16, 1024, 64, 256, 1073741823⟩ : Plan).domains) + 1)) })) == (-1))) r (fun R => y_pick r (b := true) (congrArg Value.bool h46) rfl) rfl fun fr r => ?_
                      refine seq_val (.bool ((D.plan_Plan_Head ({ (⟨1048576, 16, 1024, 64, 256, 1073741823⟩ : Plan) with domains := (IntKind.i64.wrap (((⟨1048576, 16, 1024, 64, 256, 1073741823⟩ : Plan).domains) + 1)) })) == (-1))) r (fun R => y_assign r rfl) rfl fun fr r => ?_
                      refine wpList_nil ?_
                      refine wp_ret ?_
                      have hd : D.cubiclelaw06_PlanGreat a0 = ((D.plan_Plan_Head ({ (⟨1048576, 16, 1024, 64, 256, 1073741823⟩ : Plan) with domains := (IntKind.i64.wrap (((⟨1048576, 16, 1024, 64, 256, 1073741823⟩ : Plan).domains) + 1)) })) == (-1)) := (cond_f h2).trans ((cond_t h8).trans ((cond_f h10).trans ((cond_f h16).trans ((cond_f h24).trans ((cond_f h32).trans ((cond_t h40).trans ((cond_t h44).trans ((cond_t h46).trans (rfl)))))))))
                      refine ret_tmp r rfl (v := (.bool ((D.plan_Plan_Head ({ (⟨1048576, 16, 1024, 64, 256, 1073741823⟩ : Plan) with domains := (IntKind.i64.wrap (((⟨1048576, 16, 1024, 64, 256, 1073741823⟩ : Plan).domains) + 1)) })) == (-1)))) rfl ?_
                      rw [hd]
                      exact ⟨rfl, hB⟩
                    · skip
                      refine seq_skip r rfl rfl rfl (v := .bool false) (congrArg Value.bool h46) (by simp [boolOf]) fun fr r => ?_
                      refine seq_skip r rfl rfl rfl (v := .bool false) (congrArg Value.bool h46) (by simp [boolOf]) fun fr r => ?_
                      refine seq_skip r rfl rfl rfl (v := .bool false) (congrArg Value.bool h46) (by simp [boolOf]) fun fr r => ?_
                      refine seq_val (.bool false) r (fun R => y_pick r (b := false) (congrArg Value.bool h46) rfl) rfl fun fr r => ?_
                      refine seq_val (.bool false) r (fun R => y_assign r rfl) rfl fun fr r => ?_
                      refine wpList_nil ?_
                      refine wp_ret ?_
                      have hd : D.cubiclelaw06_PlanGreat a0 = false := (cond_f h2).trans ((cond_t h8).trans ((cond_f h10).trans ((cond_f h16).trans ((cond_f h24).trans ((cond_f h32).trans ((cond_t h40).trans ((cond_t h44).trans ((cond_f h46).trans (rfl)))))))))
                      refine ret_tmp r rfl (v := (.bool false)) rfl ?_
                      rw [hd]
                      exact ⟨rfl, hB⟩
                  · skip
                    refine seq_skip r rfl rfl rfl (v := .bool false) (congrArg Value.bool h44) (by simp [boolOf]) fun fr r => ?_
                    refine seq_skip r rfl rfl rfl (v := .bool false) (congrArg Value.bool h44) (by simp [boolOf]) fun fr r => ?_
                    refine seq_skip r rfl rfl rfl (v := .bool false) (congrArg Value.bool h44) (by simp [boolOf]) fun fr r => ?_
                    refine seq_val (.bool false) r (fun R => y_pick r (b := false) (congrArg Value.bool h44) rfl) rfl fun fr r => ?_
                    refine seq_val (.bool false) r (fun R => y_move r rfl) rfl fun fr r => ?_
                    refine seq_skip r rfl rfl rfl (v := .bool false) (congrArg Value.bool (rfl : false = _)) (by simp [boolOf]) fun fr r => ?_
                    refine seq_skip r rfl rfl rfl (v := .bool false) (congrArg Value.bool (rfl : false = _)) (by simp [boolOf]) fun fr r => ?_
                    refine seq_skip r rfl rfl rfl (v := .bool false) (congrArg Value.bool (rfl : false = _)) (by simp [boolOf]) fun fr r => ?_
                    refine seq_val (.bool false) r (fun R => y_pick r (b := false) (congrArg Value.bool (rfl : false = _)) rfl) rfl fun fr r => ?_
                    refine seq_val (.bool false) r (fun R => y_assign r rfl) rfl fun fr r => ?_
                    refine wpList_nil ?_
                    refine wp_ret ?_
                    have hd : D.cubiclelaw06_PlanGreat a0 = false := (cond_f h2).trans ((cond_t h8).trans ((cond_f h10).trans ((cond_f h16).trans ((cond_f h24).trans ((cond_f h32).trans ((cond_t h40).trans ((cond_f h44).trans (rfl))))))))
                    refine ret_tmp r rfl (v := (.bool false)) rfl ?_
                    rw [hd]
                    exact ⟨rfl, hB⟩
                · skip
                  refine wp_seq ?_
                  refine wp_region_lit ?_
                  refine seq_val (.bool ((a0.tmod 6) == 4)) r (fun R => y_bin r (u := (.int .u8 (a0.tmod 6))) (u' := (.int .u8 4)) rfl rfl rfl rfl) rfl fun fr r => ?_
                  refine seq_val (.bool ((a0.tmod 6) == 4)) r (fun R => y_assign r rfl) rfl fun fr r => ?_
                  refine wpList_nil ?_
                  refine wp_cond_split (t := ((a0.tmod 6) == 4)) (r.ev rfl) (fun h48 => ?_) (fun h48 => ?_)
                  · skip
                    refine wp_region_lit ?_
                    refine seq_val (.pointer (some ⟨b11, 4, none⟩)) r (fun R => y_fieldAddr r (o := 0) rfl fo24_4) rfl fun fr r => ?_
                    refine seq_val (.int .i64 (⟨1048576, 16, 1024, 64, 256, 1073741823⟩ : Plan).buckets) r (fun R => y_load_one r (v := (.int .i64 (⟨1048576, 16, 1024, 64, 256, 1073741823⟩ : Plan).buckets)) rfl h_b11 to3 rfl) rfl fun fr r => ?_
                    refine seq_val (.int .i64 (IntKind.i64.wrap (((⟨1048576, 16, 1024, 64, 256, 1073741823⟩ : Plan).buckets) + 1))) r (fun R => y_bin r (u := (.int .i64 (⟨1048576, 16, 1024, 64, 256, 1073741823⟩ : Plan).buckets)) (u' := (.int .i64 1)) rfl rfl rfl rfl) rfl fun fr r => ?_
                    refine seq_val (.pointer (some ⟨b11, 4, none⟩)) r (fun R => y_fieldAddr r (o := 0) rfl fo24_4) rfl fun fr r => ?_
                    refine seq_upd (.cells ((planC ({ (⟨1048576, 16, 1024, 64, 256, 1073741823⟩ : Plan) with buckets := (IntKind.i64.wrap (((⟨1048576, 16, 1024, 64, 256, 1073741823⟩ : Plan).buckets) + 1)) }))).toArray 24 (0, 0)) r (fun R => y_store r (o := 4) (v := (.int .i64 (IntKind.i64.wrap (((⟨1048576, 16, 1024, 64, 256, 1073741823⟩ : Plan).buckets) + 1)))) rfl rfl h_b11 ts3 (Nat.le_of_ble_eq_true rfl) rfl rfl) rfl fun fr w49 u50 r => ?_
                    have z_w49 := u50.size
                    have h_b3 := u50.keep h_b3 (by omega)
                    have h_b11 := u50.at_
                    have hB := u50.below hB (by omega)
                    have zB := hB.size
                    refine wpList_nil ?_
                    refine wp_seq ?_
                    refine wp_region_lit ?_
                    refine seq_val (.agg (planC ({ (⟨1048576, 16, 1024, 64, 256, 1073741823⟩ : Plan) with buckets := (IntKind.i64.wrap (((⟨1048576, 16, 1024, 64, 256, 1073741823⟩ : Plan).buckets) + 1)) })).toArray) r (fun R => y_load_agg r (cs := (planC ({ (⟨1048576, 16, 1024, 64, 256, 1073741823⟩ : Plan) with buckets := (IntKind.i64.wrap (((⟨1048576, 16, 1024, 64, 256, 1073741823⟩ : Plan).buckets) + 1)) }))) (n := 6) rfl h_b11 ta24 rfl) rfl fun fr r => ?_
                    refine seq_call r (c_plan_Plan_Formed w49 ({ (⟨1048576, 16, 1024, 64, 256, 1073741823⟩ : Plan) with buckets := (IntKind.i64.wrap (((⟨1048576, 16, 1024, 64, 256, 1073741823⟩ : Plan).buckets) + 1)) })) (fun R hc => y_call r rfl cl19 hc) rfl ?_
                    rintro _ w51 ⟨rfl, hb⟩
                    refine ⟨_, rfl, fun fr r => ?_⟩
                    have z_w51 := hb.size
                    have h_b3 := keep hb h_b3
                    have h_b11 := keep hb h_b11
                    have hB := hB.trans (hb.mono hB.size)
                    have zB := hB.size
                    refine seq_val (.bool (!(D.plan_Plan_Formed ({ (⟨1048576, 16, 1024, 64, 256, 1073741823⟩ : Plan) with buckets := (IntKind.i64.wrap (((⟨1048576, 16, 1024, 64, 256, 1073741823⟩ : Plan).buckets) + 1)) })))) r (fun R => y_un r (u := (.bool (D.plan_Plan_Formed ({ (⟨1048576, 16, 1024, 64, 256, 1073741823⟩ : Plan) with buckets := (IntKind.i64.wrap (((⟨1048576, 16, 1024, 64, 256, 1073741823⟩ : Plan).buckets) + 1)) })))) rfl rfl) rfl fun fr r => ?_
                    refine seq_val (.bool (!(D.plan_Plan_Formed ({ (⟨1048576, 16, 1024, 64, 256, 1073741823⟩ : Plan) with buckets := (IntKind.i64.wrap (((⟨1048576, 16, 1024, 64, 256, 1073741823⟩ : Plan).buckets) + 1)) })))) r (fun R => y_move r rfl) rfl fun fr r => ?_
                    refine seq_split (!(D.plan_Plan_Formed ({ (⟨1048576, 16, 1024, 64, 256, 1073741823⟩ : Plan) with buckets := (IntKind.i64.wrap (((⟨1048576, 16, 1024, 64, 256, 1073741823⟩ : Plan).buckets) + 1)) }))) (fun h52 => ?_) (fun h52 => ?_)
                    · skip
                      refine seq_want r rfl rfl rfl (congrArg Value.bool h52) ?_
                      refine seq_val (.agg (planC ({ (⟨1048576, 16, 1024, 64, 256, 1073741823⟩ : Plan) with buckets := (IntKind.i64.wrap (((⟨1048576, 16, 1024, 64, 256, 1073741823⟩ : Plan).buckets) + 1)) })).toArray) r (fun R => y_load_agg r (cs := (planC ({ (⟨1048576, 16, 1024, 64, 256, 1073741823⟩ : Plan) with buckets := (IntKind.i64.wrap (((⟨1048576, 16, 1024, 64, 256, 1073741823⟩ : Plan).buckets) + 1)) }))) (n := 6) rfl h_b11 ta24 rfl) rfl fun fr r => ?_
                      refine seq_want r rfl rfl rfl (congrArg Value.bool h52) ?_
                      refine seq_call r (c_plan_Plan_Size w51 ({ (⟨1048576, 16, 1024, 64, 256, 1073741823⟩ : Plan) with buckets := (IntKind.i64.wrap (((⟨1048576, 16, 1024, 64, 256, 1073741823⟩ : Plan).buckets) + 1)) })) (fun R hc => y_call r rfl cl21 hc) rfl ?_
                      rintro _ w53 ⟨rfl, hb⟩
                      refine ⟨_, rfl, fun fr r => ?_⟩
                      have z_w53 := hb.size
                      have h_b3 := keep hb h_b3
                      have h_b11 := keep hb h_b11
                      have hB := hB.trans (hb.mono hB.size)
                      have zB := hB.size
                      refine seq_want r rfl rfl rfl (congrArg Value.bool h52) ?_
                      refine seq_val (.bool ((D.plan_Plan_Size ({ (⟨1048576, 16, 1024, 64, 256, 1073741823⟩ : Plan) with buckets := (IntKind.i64.wrap (((⟨1048576, 16, 1024, 64, 256, 1073741823⟩ : Plan).buckets) + 1)) })) == 0)) r (fun R => y_bin r (u := (.int .i64 (D.plan_Plan_Size ({ (⟨1048576, 16, 1024, 64, 256, 1073741823⟩ : Plan) with buckets := (IntKind.i64.wrap (((⟨1048576, 16, 1024, 64, 256, 1073741823⟩ : Plan).buckets) + 1)) })))) (u' := (.int .i64 0)) rfl rfl rfl rfl) rfl fun fr r => ?_
                      refine seq_val (.bool ((D.plan_Plan_Size ({ (⟨1048576, 16, 1024, 64, 256, 1073741823⟩ : Plan) with buckets := (IntKind.i64.wrap (((⟨1048576, 16, 1024, 64, 256, 1073741823⟩ : Plan).buckets) + 1)) })) == 0)) r (fun R => y_pick r (b := true) (congrArg Value.bool h52) rfl) rfl fun fr r => ?_
                      refine seq_val (.bool ((D.plan_Plan_Size ({ (⟨1048576, 16, 1024, 64, 256, 1073741823⟩ : Plan) with buckets := (IntKind.i64.wrap (((⟨1048576, 16, 1024, 64, 256, 1073741823⟩ : Plan).buckets) + 1)) })) == 0)) r (fun R => y_move r rfl) rfl fun fr r => ?_
                      refine seq_split ((D.plan_Plan_Size ({ (⟨1048576, 16, 1024, 64, 256, 1073741823⟩ : Plan) with buckets := (IntKind.i64.wrap (((⟨1048576, 16, 1024, 64, 256, 1073741823⟩ : Plan).buckets) + 1)) })) == 0) (fun h54 => ?_) (fun h54 => ?_)
                      · skip
                        refine seq_want r rfl rfl rfl (congrArg Value.bool h54) ?_
                        refine seq_val (.agg (planC ({ (⟨1048576, 16, 1024, 64, 256, 1073741823⟩ : Plan) with buckets := (IntKind.i64.wrap (((⟨1048576, 16, 1024, 64, 256, 1073741823⟩ : Plan).buckets) + 1)) })).toArray) r (fun R => y_load_agg r (cs := (planC ({ (⟨1048576, 16, 1024, 64, 256, 1073741823⟩ : Plan) with buckets := (IntKind.i64.wrap (((⟨1048576, 16, 1024, 64, 256, 1073741823⟩ : Plan).buckets) + 1)) }))) (n := 6) rfl h_b11 ta24 rfl) rfl fun fr r => ?_
                        refine seq_want r rfl rfl rfl (congrArg Value.bool h54) ?_
                        refine seq_call r (c_plan_Plan_Head w53 ({ (⟨1048576, 16, 1024, 64, 256, 1073741823⟩ : Plan) with buckets := (IntKind.i64.wrap (((⟨1048576, 16, 1024, 64, 256, 1073741823⟩ : Plan).buckets) + 1)) })) (fun R hc => y_call r rfl cl22 hc) rfl ?_
                        rintro _ w55 ⟨rfl, hb⟩
                        refine ⟨_, rfl, fun fr r => ?_⟩
                        have z_w55 := hb.size
                        have h_b3 := keep hb h_b3
                        have h_b11 := keep hb h_b11
                        have hB := hB.trans (hb.mono hB.size)
                        have zB := hB.size
                        refine seq_want r rfl rfl rfl (congrArg Value.bool h54) ?_
                        refine seq_val (.bool ((D.plan_Plan_Head ({ (⟨1048576, 16, 1024, 64, 256, 1073741823⟩ : Plan) with buckets := (IntKind.i64.wrap (((⟨1048576, 16, 1024, 64, 256, 1073741823⟩ : Plan).buckets) + 1)) })) == (-1))) r (fun R => y_bin r (u := (.int .i64 (D.plan_Plan_Head ({ (⟨1048576, 16, 1024, 64, 256, 1073741823⟩ : Plan) with buckets := (IntKind.i64.wrap (((⟨1048576, 16, 1024, 64, 256, 1073741823⟩ : Plan).buckets) + 1)) })))) (u' := (.int .i64 (-1))) rfl rfl rfl rfl) rfl fun fr r => ?_
                        refine seq_val (.bool ((D.plan_Plan_Head ({ (⟨1048576, 16, 1024, 64, 256, 1073741823⟩ : Plan) with buckets := (IntKind.i64.wrap (((⟨1048576, 16, 1024, 64, 256, 1073741823⟩ : Plan).buckets) + 1)) })) == (-1))) r (fun R => y_pick r (b := true) (congrArg Value.bool h54) rfl) rfl fun fr r => ?_
                        refine seq_val (.bool ((D.plan_Plan_Head ({ (⟨1048576, 16, 1024, 64, 256, 1073741823⟩ : Plan) with buckets := (IntKind.i64.wrap (((⟨1048576, 16, 1024, 64, 256, 1073741823⟩ : Plan).buckets) + 1)) })) == (-1))) r (fun R => y_assign r rfl) rfl fun fr r => ?_
                        refine wpList_nil ?_
                        refine wp_ret ?_
                        have hd : D.cubiclelaw06_PlanGreat a0 = ((D.plan_Plan_Head ({ (⟨1048576, 16, 1024, 64, 256, 1073741823⟩ : Plan) with buckets := (IntKind.i64.wrap (((⟨1048576, 16, 1024, 64, 256, 1073741823⟩ : Plan).buckets) + 1)) })) == (-1)) := (cond_f h2).trans ((cond_t h8).trans ((cond_f h10).trans ((cond_f h16).trans ((cond_f h24).trans ((cond_f h32).trans ((cond_f h40).trans ((cond_t h48).trans ((cond_t h52).trans ((cond_t h54).trans (rfl))))))))))
                        refine ret_tmp r rfl (v := (.bool ((D.plan_Plan_Head ({ (⟨1048576, 16, 1024, 64, 256, 1073741823⟩ : Plan) with buckets := (IntKind.i64.wrap (((⟨1048576, 16, 1024, 64, 256, 1073741823⟩ : Plan).buckets) + 1)) })) == (-1)))) rfl ?_
                        rw [hd]
                        exact ⟨rfl, hB⟩
                      · skip
                        refine seq_skip r rfl rfl rfl (v := .bool false) (congrArg Value.bool h54) (by simp [boolOf]) fun fr r => ?_
                        refine seq_skip r rfl rfl rfl (v := .bool false) (congrArg Value.bool h54) (by simp [boolOf]) fun fr r => ?_
                        refine seq_skip r rfl rfl rfl (v := .bool false) (congrArg Value.bool h54) (by simp [boolOf]) fun fr r => ?_
                        refine seq_val (.bool false) r (fun R => y_pick r (b := false) (congrArg Value.bool h54) rfl) rfl fun fr r => ?_
                        refine seq_val (.bool false) r (fun R => y_assign r rfl) rfl fun fr r => ?_
                        refine wpList_nil ?_
                        refine wp_ret ?_
                        have hd : D.cubiclelaw06_PlanGreat a0 = false := (cond_f h2).trans ((cond_t h8).trans ((cond_f h10).trans ((cond_f h16).trans ((cond_f h24).trans ((cond_f h32).trans ((cond_f h40).trans ((cond_t h48).trans ((cond_t h52).trans ((cond_f h54).trans (rfl))))))))))
                        refine ret_tmp r rfl (v := (.bool false)) rfl ?_
                        rw [hd]
                        exact ⟨rfl, hB⟩
                    · skip
                      refine seq_skip r rfl rfl rfl (v := .bool false) (congrArg Value.bool h52) (by simp [boolOf]) fun fr r => ?_
                      refine seq_skip r rfl rfl rfl (v := .bool false) (congrArg Value.bool h52) (by simp [boolOf]) fun fr r => ?_
                      refine seq_skip r rfl rfl rfl (v := .bool false) (congrArg Value.bool h52) (by simp [boolOf]) fun fr r => ?_
                      refine seq_val (.bool false) r (fun R => y_pick r (b := false) (congrArg Value.bool h52) rfl) rfl fun fr r => ?_
                      refine seq_val (.bool false) r (fun R => y_move r rfl) rfl fun fr r => ?_
                      refine seq_skip r rfl rfl rfl (v := .bool false) (congrArg Value.bool (rfl : false = _)) (by simp [boolOf]) fun fr r => ?_
                      refine seq_skip r rfl rfl rfl (v := .bool false) (congrArg Value.bool (rfl : false = _)) (by simp [boolOf]) fun fr r => ?_
                      refine seq_skip r rfl rfl rfl (v := .bool false) (congrArg Value.bool (rfl : false = _)) (by simp [boolOf]) fun fr r => ?_
                      refine seq_val (.bool false) r (fun R => y_pick r (b := false) (congrArg Value.bool (rfl : false = _)) rfl) rfl fun fr r => ?_
                      refine seq_val (.bool false) r (fun R => y_assign r rfl) rfl fun fr r => ?_
                      refine wpList_nil ?_
                      refine wp_ret ?_
                      have hd : D.cubiclelaw06_PlanGreat a0 = false := (cond_f h2).trans ((cond_t h8).trans ((cond_f h10).trans ((cond_f h16).trans ((cond_f h24).trans ((cond_f h32).trans ((cond_f h40).trans ((cond_t h48).trans ((cond_f h52).trans (rfl)))))))))
                      refine ret_tmp r rfl (v := (.bool false)) rfl ?_
                      rw [hd]
                      exact ⟨rfl, hB⟩
                  · skip
                    refine wp_region_lit ?_
                    refine seq_val (.pointer (some ⟨b11, 5, none⟩)) r (fun R => y_fieldAddr r (o := 0) rfl fo24_5) rfl fun fr r => ?_
                    refine seq_val (.int .i64 (⟨1048576, 16, 1024, 64, 256, 1073741823⟩ : Plan).gen) r (fun R => y_load_one r (v := (.int .i64 (⟨1048576, 16, 1024, 64, 256, 1073741823⟩ : Plan).gen)) rfl h_b11 to3 rfl) rfl fun fr r => ?_
                    refine seq_val (.int .i64 (IntKind.i64.wrap (((⟨1048576, 16, 1024, 64, 256, 1073741823⟩ : Plan).gen) + 1))) r (fun R => y_bin r (u := (.int .i64 (⟨1048576, 16, 1024, 64, 256, 1073741823⟩ : Plan).gen)) (u' := (.int .i64 1)) rfl rfl rfl rfl) rfl fun fr r => ?_
                    refine seq_val (.pointer (some ⟨b11, 5, none⟩)) r (fun R => y_fieldAddr r (o := 0) rfl fo24_5) rfl fun fr r => ?_
                    refine seq_upd (.cells ((planC ({ (⟨1048576, 16, 1024, 64, 256, 1073741823⟩ : Plan) with gen := (IntKind.i64.wrap (((⟨1048576, 16, 1024, 64, 256, 1073741823⟩ : Plan).gen) + 1)) }))).toArray 24 (0, 0)) r (fun R => y_store r (o := 5) (v := (.int .i64 (IntKind.i64.wrap (((⟨1048576, 16, 1024, 64, 256, 1073741823⟩ : Plan).gen) + 1)))) rfl rfl h_b11 ts3 (Nat.le_of_ble_eq_true rfl) rfl rfl) rfl fun fr w56 u57 r => ?_
                    have z_w56 := u57.size
                    have h_b3 := u57.keep h_b3 (by omega)
                    have h_b11 := u57.at_
                    have hB := u57.below hB (by omega)
                    have zB := hB.size
                    refine wpList_nil ?_
                    refine wp_seq ?_
                    refine wp_region_lit ?_
                    refine seq_val (.agg (planC ({ (⟨1048576, 16, 1024, 64, 256, 1073741823⟩ : Plan) with gen := (IntKind.i64.wrap (((⟨1048576, 16, 1024, 64, 256, 1073741823⟩ : Plan).gen) + 1)) })).toArray) r (fun R => y_load_agg r (cs := (planC ({ (⟨1048576, 16, 1024, 64, 256, 1073741823⟩ : Plan) with gen := (IntKind.i64.wrap (((⟨1048576, 16, 1024, 64, 256, 1073741823⟩ : Plan).gen) + 1)) }))) (n := 6) rfl h_b11 ta24 rfl) rfl fun fr r => ?_
                    refine seq_call r (c_plan_Plan_Formed w56 ({ (⟨1048576, 16, 1024, 64, 256, 1073741823⟩ : Plan) with gen := (IntKind.i64.wrap (((⟨1048576, 16, 1024, 64, 256, 1073741823⟩ : Plan).gen) + 1)) })) (fun R hc => y_call r rfl cl19 hc) rfl ?_
                    rintro _ w58 ⟨rfl, hb⟩
                    refine ⟨_, rfl, fun fr r => ?_⟩
                    have z_w58 := hb.size
                    have h_b3 := keep hb h_b3
                    have h_b11 := keep hb h_b11
                    have hB := hB.trans (hb.mono hB.size)
                    have zB := hB.size
                    refine seq_val (.bool (!(D.plan_Plan_Formed ({ (⟨1048576, 16, 1024, 64, 256, 1073741823⟩ : Plan) with gen := (IntKind.i64.wrap (((⟨1048576, 16, 1024, 64, 256, 1073741823⟩ : Plan).gen) + 1)) })))) r (fun R => y_un r (u := (.bool (D.plan_Plan_Formed ({ (⟨1048576, 16, 1024, 64, 256, 1073741823⟩ : Plan) with gen := (IntKind.i64.wrap (((⟨1048576, 16, 1024, 64, 256, 1073741823⟩ : Plan).gen) + 1)) })))) rfl rfl) rfl fun fr r => ?_
                    refine seq_val (.bool (!(D.plan_Plan_Formed ({ (⟨1048576, 16, 1024, 64, 256, 1073741823⟩ : Plan) with gen := (IntKind.i64.wrap (((⟨1048576, 16, 1024, 64, 256, 1073741823⟩ : Plan).gen) + 1)) })))) r (fun R => y_move r rfl) rfl fun fr r => ?_
                    refine seq_split (!(D.plan_Plan_Formed ({ (⟨1048576, 16, 1024, 64, 256, 1073741823⟩ : Plan) with gen := (IntKind.i64.wrap (((⟨1048576, 16, 1024, 64, 256, 1073741823⟩ : Plan).gen) + 1)) }))) (fun h59 => ?_) (fun h59 => ?_)
                    · skip
                      refine seq_want r rfl rfl rfl (congrArg Value.bool h59) ?_
                      refine seq_val (.agg (planC ({ (⟨1048576, 16, 1024, 64, 256, 1073741823⟩ : Plan) with gen := (IntKind.i64.wrap (((⟨1048576, 16, 1024, 64, 256, 1073741823⟩ : Plan).gen) + 1)) })).toArray) r (fun R => y_load_agg r (cs := (planC ({ (⟨1048576, 16, 1024, 64, 256, 1073741823⟩ : Plan) with gen := (IntKind.i64.wrap (((⟨1048576, 16, 1024, 64, 256, 1073741823⟩ : Plan).gen) + 1)) }))) (n := 6) rfl h_b11 ta24 rfl) rfl fun fr r => ?_
                      refine seq_want r rfl rfl rfl (congrArg Value.bool h59) ?_
                      refine seq_call r (c_plan_Plan_Size w58 ({ (⟨1048576, 16, 1024, 64, 256, 1073741823⟩ : Plan) with gen := (IntKind.i64.wrap (((⟨1048576, 16, 1024, 64, 256, 1073741823⟩ : Plan).gen) + 1)) })) (fun R hc => y_call r rfl cl21 hc) rfl ?_
                      rintro _ w60 ⟨rfl, hb⟩
                      refine ⟨_, rfl, fun fr r => ?_⟩
                      have z_w60 := hb.size
                      have h_b3 := keep hb h_b3
                      have h_b11 := keep hb h_b11
                      have hB := hB.trans (hb.mono hB.size)
                      have zB := hB.size
                      refine seq_want r rfl rfl rfl (congrArg Value.bool h59) ?_
                      refine seq_val (.bool ((D.plan_Plan_Size ({ (⟨1048576, 16, 1024, 64, 256, 1073741823⟩ : Plan) with gen := (IntKind.i64.wrap (((⟨1048576, 16, 1024, 64, 256, 1073741823⟩ : Plan).gen) + 1)) })) == 0)) r (fun R => y_bin r (u := (.int .i64 (D.plan_Plan_Size ({ (⟨1048576, 16, 1024, 64, 256, 1073741823⟩ : Plan) with gen := (IntKind.i64.wrap (((⟨1048576, 16, 1024, 64, 256, 1073741823⟩ : Plan).gen) + 1)) })))) (u' := (.int .i64 0)) rfl rfl rfl rfl) rfl fun fr r => ?_
                      refine seq_val (.bool ((D.plan_Plan_Size ({ (⟨1048576, 16, 1024, 64, 256, 1073741823⟩ : Plan) with gen := (IntKind.i64.wrap (((⟨1048576, 16, 1024, 64, 256, 1073741823⟩ : Plan).gen) + 1)) })) == 0)) r (fun R => y_pick r (b := true) (congrArg Value.bool h59) rfl) rfl fun fr r => ?_
                      refine seq_val (.bool ((D.plan_Plan_Size ({ (⟨1048576, 16, 1024, 64, 256, 1073741823⟩ : Plan) with gen := (IntKind.i64.wrap (((⟨1048576, 16, 1024, 64, 256, 1073741823⟩ : Plan).gen) + 1)) })) == 0)) r (fun R => y_move r rfl) rfl fun fr r => ?_
                      refine seq_split ((D.plan_Plan_Size ({ (⟨1048576, 16, 1024, 64, 256, 1073741823⟩ : Plan) with gen := (IntKind.i64.wrap (((⟨1048576, 16, 1024, 64, 256, 1073741823⟩ : Plan).gen) + 1)) })) == 0) (fun h61 => ?_) (fun h61 => ?_)
                      · skip
                        refine seq_want r rfl rfl rfl (congrArg Value.bool h61) ?_
                        refine seq_val (.agg (planC ({ (⟨1048576, 16, 1024, 64, 256, 1073741823⟩ : Plan) with gen := (IntKind.i64.wrap (((⟨1048576, 16, 1024, 64, 256, 1073741823⟩ : Plan).gen) + 1)) })).toArray) r (fun R => y_load_agg r (cs := (planC ({ (⟨1048576, 16, 1024, 64, 256, 1073741823⟩ : Plan) with gen := (IntKind.i64.wrap (((⟨1048576, 16, 1024, 64, 256, 1073741823⟩ : Plan).gen) + 1)) }))) (n := 6) rfl h_b11 ta24 rfl) rfl fun fr r => ?_
                        refine seq_want r rfl rfl rfl (congrArg Value.bool h61) ?_
                        refine seq_call r (c_plan_Plan_Head w60 ({ (⟨1048576, 16, 1024, 64, 256, 1073741823⟩ : Plan) with gen := (IntKind.i64.wrap (((⟨1048576, 16, 1024, 64, 256, 1073741823⟩ : Plan).gen) + 1)) })) (fun R hc => y_call r rfl cl22 hc) rfl ?_
                        rintro _ w62 ⟨rfl, hb⟩
                        refine ⟨_, rfl, fun fr r => ?_⟩
                        have z_w62 := hb.size
                        have h_b3 := keep hb h_b3
                        have h_b11 := keep hb h_b11
                        have hB := hB.trans (hb.mono hB.size)
                        have zB := hB.size
                        refine seq_want r rfl rfl rfl (congrArg Value.bool h61) ?_
                        refine seq_val (.bool ((D.plan_Plan_Head ({ (⟨1048576, 16, 1024, 64, 256, 1073741823⟩ : Plan) with gen := (IntKind.i64.wrap (((⟨1048576, 16, 1024, 64, 256, 1073741823⟩ : Plan).gen) + 1)) })) == (-1))) r (fun R => y_bin r (u := (.int .i64 (D.plan_Plan_Head ({ (⟨1048576, 16, 1024, 64, 256, 1073741823⟩ : Plan) with gen := (IntKind.i64.wrap (((⟨1048576, 16, 1024, 64, 256, 1073741823⟩ : Plan).gen) + 1)) })))) (u' := (.int .i64 (-1))) rfl rfl rfl rfl) rfl fun fr r => ?_
                        refine seq_val (.bool ((D.plan_Plan_Head ({ (⟨1048576, 16, 1024, 64, 256, 1073741823⟩ : Plan) with gen := (IntKind.i64.wrap (((⟨1048576, 16, 1024, 64, 256, 1073741823⟩ : Plan).gen) + 1)) })) == (-1))) r (fun R => y_pick r (b := true) (congrArg Value.bool h61) rfl) rfl fun fr r => ?_
                        refine seq_val (.bool ((D.plan_Plan_Head ({ (⟨1048576, 16, 1024, 64, 256, 1073741823⟩ : Plan) with gen := (IntKind.i64.wrap (((⟨1048576, 16, 1024, 64, 256, 1073741823⟩ : Plan).gen) + 1)) })) == (-1))) r (fun R => y_assign r rfl) rfl fun fr r => ?_
                        refine wpList_nil ?_
                        refine wp_ret ?_
                        have hd : D.cubiclelaw06_PlanGreat a0 = ((D.plan_Plan_Head ({ (⟨1048576, 16, 1024, 64, 256, 1073741823⟩ : Plan) with gen := (IntKind.i64.wrap (((⟨1048576, 16, 1024, 64, 256, 1073741823⟩ : Plan).gen) + 1)) })) == (-1)) := (cond_f h2).trans ((cond_t h8).trans ((cond_f h10).trans ((cond_f h16).trans ((cond_f h24).trans ((cond_f h32).trans ((cond_f h40).trans ((cond_f h48).trans ((cond_t h59).trans ((cond_t h61).trans (rfl))))))))))
                        refine ret_tmp r rfl (v := (.bool ((D.plan_Plan_Head ({ (⟨1048576, 16, 1024, 64, 256, 1073741823⟩ : Plan) with gen := (IntKind.i64.wrap (((⟨1048576, 16, 1024, 64, 256, 1073741823⟩ : Plan).gen) + 1)) })) == (-1)))) rfl ?_
                        rw [hd]
                        exact ⟨rfl, hB⟩
                      · skip
                        refine seq_skip r rfl rfl rfl (v := .bool false) (congrArg Value.bool h61) (by simp [boolOf]) fun fr r => ?_
                        refine seq_skip r rfl rfl rfl (v := .bool false) (congrArg Value.bool h61) (by simp [boolOf]) fun fr r => ?_
                        refine seq_skip r rfl rfl rfl (v := .bool false) (congrArg Value.bool h61) (by simp [boolOf]) fun fr r => ?_
                        refine seq_val (.bool false) r (fun R => y_pick r (b := false) (congrArg Value.bool h61) rfl) rfl fun fr r => ?_
                        refine seq_val (.bool false) r (fun R => y_assign r rfl) rfl fun fr r => ?_
                        refine wpList_nil ?_
                        refine wp_ret ?_
                        have hd : D.cubiclelaw06_PlanGreat a0 = false := (cond_f h2).trans ((cond_t h8).trans ((cond_f h10).trans ((cond_f h16).trans ((cond_f h24).trans ((cond_f h32).trans ((cond_f h40).trans ((cond_f h48).trans ((cond_t h59).trans ((cond_f h61).trans (rfl))))))))))
                        refine ret_tmp r rfl (v := (.bool false)) rfl ?_
                        rw [hd]
                        exact ⟨rfl, hB⟩
                    · skip
                      refine seq_skip r rfl rfl rfl (v := .bool false) (congrArg Value.bool h59) (by simp [boolOf]) fun fr r => ?_
                      refine seq_skip r rfl rfl rfl (v := .bool false) (congrArg Value.bool h59) (by simp [boolOf]) fun fr r => ?_
                      refine seq_skip r rfl rfl rfl (v := .bool false) (congrArg Value.bool h59) (by simp [boolOf]) fun fr r => ?_
                      refine seq_val (.bool false) r (fun R => y_pick r (b := false) (congrArg Value.bool h59) rfl) rfl fun fr r => ?_
                      refine seq_val (.bool false) r (fun R => y_move r rfl) rfl fun fr r => ?_
                      refine seq_skip r rfl rfl rfl (v := .bool false) (congrArg Value.bool (rfl : false = _)) (by simp [boolOf]) fun fr r => ?_
                      refine seq_skip r rfl rfl rfl (v := .bool false) (congrArg Value.bool (rfl : false = _)) (by simp [boolOf]) fun fr r => ?_
                      refine seq_skip r rfl rfl rfl (v := .bool false) (congrArg Value.bool (rfl : false = _)) (by simp [boolOf]) fun fr r => ?_
                      refine seq_val (.bool false) r (fun R => y_pick r (b := false) (congrArg Value.bool (rfl : false = _)) rfl) rfl fun fr r => ?_
                      refine seq_val (.bool false) r (fun R => y_assign r rfl) rfl fun fr r => ?_
                      refine wpList_nil ?_
                      refine wp_ret ?_
                      have hd : D.cubiclelaw06_PlanGreat a0 = false := (cond_f h2).trans ((cond_t h8).trans ((cond_f h10).trans ((cond_f h16).trans ((cond_f h24).trans ((cond_f h32).trans ((cond_f h40).trans ((cond_f h48).trans ((cond_f h59).trans (rfl)))))))))
                      refine ret_tmp r rfl (v := (.bool false)) rfl ?_
                      rw [hd]
                      exact ⟨rfl, hB⟩
    · skip
      refine seq_split ((D.plan_Plan_Field (⟨1048576, 16, 1024, 64, 256, 1073741823⟩ : Plan) 1048575 2) != (IntKind.i64.wrap ((D.plan_Plan_Size (⟨1048576, 16, 1024, 64, 256, 1073741823⟩ : Plan)) - 1))) (fun h63 => ?_) (fun h63 => ?_)
      · skip
        refine wp_drawnF 15 [.val (.agg (planC (⟨1048576, 16, 1024, 64, 256, 1073741823⟩ : Plan)).toArray), .val (.bool (D.plan_Plan_Formed (⟨1048576, 16, 1024, 64, 256, 1073741823⟩ : Plan))), .val (.bool (!(D.plan_Plan_Formed (⟨1048576, 16, 1024, 64, 256, 1073741823⟩ : Plan)))), .val (.bool (!(D.plan_Plan_Formed (⟨1048576, 16, 1024, 64, 256, 1073741823⟩ : Plan)))), .val (.agg (planC (⟨1048576, 16, 1024, 64, 256, 1073741823⟩ : Plan)).toArray), .val (.int .i64 (D.plan_Plan_Field (⟨1048576, 16, 1024, 64, 256, 1073741823⟩ : Plan) 1048575 2)), .val (.agg (planC (⟨1048576, 16, 1024, 64, 256, 1073741823⟩ : Plan)).toArray), .val (.int .i64 (D.plan_Plan_Size (⟨1048576, 16, 1024, 64, 256, 1073741823⟩ : Plan))), .val (.int .i64 (IntKind.i64.wrap ((D.plan_Plan_Size (⟨1048576, 16, 1024, 64, 256, 1073741823⟩ : Plan)) - 1))), .val (.bool ((D.plan_Plan_Field (⟨1048576, 16, 1024, 64, 256, 1073741823⟩ : Plan) 1048575 2) != (IntKind.i64.wrap ((D.plan_Plan_Size (⟨1048576, 16, 1024, 64, 256, 1073741823⟩ : Plan)) - 1)))), .val (.bool ((D.plan_Plan_Field (⟨1048576, 16, 1024, 64, 256, 1073741823⟩ : Plan) 1048575 2) != (IntKind.i64.wrap ((D.plan_Plan_Size (⟨1048576, 16, 1024, 64, 256, 1073741823⟩ : Plan)) - 1)))), .val (.bool ((D.plan_Plan_Field (⟨1048576, 16, 1024, 64, 256, 1073741823⟩ : Plan) 1048575 2) != (IntKind.i64.wrap ((D.plan_Plan_Size (⟨1048576, 16, 1024, 64, 256, 1073741823⟩ : Plan)) - 1)))), .val undef, .val undef, .val undef] mixed r (by kernel_rfl) ?_ ?_
        · skip
          refine each_consF r rfl (fun fr1 u w' hb' hd r' => ?_) ?_
          · exact y_load_agg r' (cs := (planC (⟨1048576, 16, 1024, 64, 256, 1073741823⟩ : Plan))) (n := 6) rfl (keep hb' h_b3) ta24 rfl ⟨Below.refl _ _, rfl⟩
          refine each_consF r rfl (fun fr1 u w' hb' hd r' => ?_) ?_
          · obtain ⟨d0, _⟩ := hd; exact y_call r' (args := [(.agg (planC (⟨1048576, 16, 1024, 64, 256, 1073741823⟩ : Plan)).toArray)]) (lc d0 l0) cl19 ((c_plan_Plan_Formed _ (⟨1048576, 16, 1024, 64, 256, 1073741823⟩ : Plan)).mono (by rintro _ w2 ⟨rfl, hb2⟩; exact ⟨_, rfl, hb2, rfl⟩))
          refine each_consF r rfl (fun fr1 u w' hb' hd r' => ?_) ?_
          · obtain ⟨d0, _⟩ := hd; exact y_un r' (u := (.bool (D.plan_Plan_Formed (⟨1048576, 16, 1024, 64, 256, 1073741823⟩ : Plan)))) (v := (.bool (!(D.plan_Plan_Formed (⟨1048576, 16, 1024, 64, 256, 1073741823⟩ : Plan))))) d0 rfl ⟨Below.refl _ _, rfl⟩
          refine each_consF r rfl (fun fr1 u w' hb' hd r' => ?_) ?_
          · obtain ⟨d0, d1, _⟩ := hd; exact y_move r' (v := (.bool (!(D.plan_Plan_Formed (⟨1048576, 16, 1024, 64, 256, 1073741823⟩ : Plan))))) d0 ⟨Below.refl _ _, rfl⟩
          refine each_consW false r rfl rfl rfl (fun u w' hd => by obtain ⟨d0, _⟩ := hd; exact Eq.trans (show u 3 = .bool (!(D.plan_Plan_Formed (⟨1048576, 16, 1024, 64, 256, 1073741823⟩ : Plan))) from d0) (congrArg Value.bool h8)) (fun fr1 u w' hb' hd r' => ?_) ?_
          · obtain ⟨d0, _⟩ := hd; exact y_load_agg r' (cs := (planC (⟨1048576, 16, 1024, 64, 256, 1073741823⟩ : Plan))) (n := 6) rfl (keep hb' h_b3) ta24 rfl ⟨Below.refl _ _, rfl⟩
          refine each_consW false r rfl rfl rfl (fun u w' hd => by obtain ⟨d0, d1, d2, _⟩ := hd; exact Eq.trans (show u 3 = .bool (!(D.plan_Plan_Formed (⟨1048576, 16, 1024, 64, 256, 1073741823⟩ : Plan))) from d1) (congrArg Value.bool h8)) (fun fr1 u w' hb' hd r' => ?_) ?_
          · obtain ⟨d0, d1, d2, _⟩ := hd; exact y_call r' (args := [(.agg (planC (⟨1048576, 16, 1024, 64, 256, 1073741823⟩ : Plan)).toArray), (.int .i64 1048575), (.int .i64 2)]) (lc d0 (lc rfl (lc rfl l0))) cl20 ((c_plan_Plan_Field _ (⟨1048576, 16, 1024, 64, 256, 1073741823⟩ : Plan) 1048575 2).mono (by rintro _ w2 ⟨rfl, hb2⟩; exact ⟨_, rfl, hb2, rfl⟩))
          refine each_consW false r rfl rfl rfl (fun u w' hd => by obtain ⟨d0, _⟩ := hd; exact Eq.trans (show u 3 = .bool (!(D.plan_Plan_Formed (⟨1048576, 16, 1024, 64, 256, 1073741823⟩ : Plan))) from d0) (congrArg Value.bool h8)) (fun fr1 u w' hb' hd r' => ?_) ?_
          · obtain ⟨d0, _⟩ := hd; exact y_load_agg r' (cs := (planC (⟨1048576, 16, 1024, 64, 256, 1073741823⟩ : Plan))) (n := 6) rfl (keep hb' h_b3) ta24 rfl ⟨Below.refl _ _, rfl⟩
          refine each_consW false r rfl rfl rfl (fun u w' hd => by obtain ⟨d0, d1, d2, _⟩ := hd; exact Eq.trans (show u 3 = .bool (!(D.plan_Plan_Formed (⟨1048576, 16, 1024, 64, 256, 1073741823⟩ : Plan))) from d2) (congrArg Value.bool h8)) (fun fr1 u w' hb' hd r' => ?_) ?_
          · obtain ⟨d0, d1, d2, _⟩ := hd; exact y_call r' (args := [(.agg (planC (⟨1048576, 16, 1024, 64, 256, 1073741823⟩ : Plan)).toArray)]) (lc d0 l0) cl21 ((c_plan_Plan_Size _ (⟨1048576, 16, 1024, 64, 256, 1073741823⟩ : Plan)).mono (by rintro _ w2 ⟨rfl, hb2⟩; exact ⟨_, rfl, hb2, rfl⟩))
          refine each_consW false r rfl rfl rfl (fun u w' hd => by obtain ⟨d0, d1, _⟩ := hd; exact Eq.trans (show u 3 = .bool (!(D.plan_Plan_Formed (⟨1048576, 16, 1024, 64, 256, 1073741823⟩ : Plan))) from d1) (congrArg Value.bool h8)) (fun fr1 u w' hb' hd r' => ?_) ?_
          · obtain ⟨d0, d1, _⟩ := hd; exact y_bin r' (u := (.int .i64 (D.plan_Plan_Size (⟨1048576, 16, 1024, 64, 256, 1073741823⟩ : Plan)))) (u' := (.int .i64 1)) (v := (.int .i64 (IntKind.i64.wrap ((D.plan_Plan_Size (⟨1048576, 16, 1024, 64, 256, 1073741823⟩ : Plan)) - 1)))) d0 rfl rfl rfl ⟨Below.refl _ _, rfl⟩
          refine each_consW false r rfl rfl rfl (fun u w' hd => by obtain ⟨d0, d1, d2, _⟩ := hd; exact Eq.trans (show u 3 = .bool (!(D.plan_Plan_Formed (⟨1048576, 16, 1024, 64, 256, 1073741823⟩ : Plan))) from d2) (congrArg Value.bool h8)) (fun fr1 u w' hb' hd r' => ?_) ?_
          · obtain ⟨d0, d1, d2, _⟩ := hd; exact y_bin r' (u := (.int .i64 (D.plan_Plan_Field (⟨1048576, 16, 1024, 64, 256, 1073741823⟩ : Plan) 1048575 2))) (u' := (.int .i64 (IntKind.i64.wrap ((D.plan_Plan_Size (⟨1048576, 16, 1024, 64, 256, 1073741823⟩ : Plan)) - 1)))) (v := (.bool ((D.plan_Plan_Field (⟨1048576, 16, 1024, 64, 256, 1073741823⟩ : Plan) 1048575 2) != (IntKind.i64.wrap ((D.plan_Plan_Size (⟨1048576, 16, 1024, 64, 256, 1073741823⟩ : Plan)) - 1))))) d0 d1 rfl rfl ⟨Below.refl _ _, rfl⟩
          refine each_consF r rfl (fun fr1 u w' hb' hd r' => ?_) ?_
          · obtain ⟨d0, d1, _⟩ := hd; exact y_pick r' (b := false) (v := (.bool ((D.plan_Plan_Field (⟨1048576, 16, 1024, 64, 256, 1073741823⟩ : Plan) 1048575 2) != (IntKind.i64.wrap ((D.plan_Plan_Size (⟨1048576, 16, 1024, 64, 256, 1073741823⟩ : Plan)) - 1))))) (Eq.trans (show u 3 = .bool (!(D.plan_Plan_Formed (⟨1048576, 16, 1024, 64, 256, 1073741823⟩ : Plan))) from d0) (congrArg Value.bool h8)) d1 ⟨Below.refl _ _, rfl⟩
          refine each_consF r rfl (fun fr1 u w' hb' hd r' => ?_) ?_
          · obtain ⟨d0, d1, _⟩ := hd; exact y_move r' (v := (.bool ((D.plan_Plan_Field (⟨1048576, 16, 1024, 64, 256, 1073741823⟩ : Plan) 1048575 2) != (IntKind.i64.wrap ((D.plan_Plan_Size (⟨1048576, 16, 1024, 64, 256, 1073741823⟩ : Plan)) - 1))))) d0 ⟨Below.refl _ _, rfl⟩
          refine each_consS false (.bool true) r rfl rfl rfl (fun u w' hd => by obtain ⟨d0, _⟩ := hd; exact Eq.trans (show u 11 = .bool ((D.plan_Plan_Field (⟨1048576, 16, 1024, 64, 256, 1073741823⟩ : Plan) 1048575 2) != (IntKind.i64.wrap ((D.plan_Plan_Size (⟨1048576, 16, 1024, 64, 256, 1073741823⟩ : Plan)) - 1))) from d0) (congrArg Value.bool h63)) (by simp [boolOf]) (fun _ => rfl) ?_
          refine each_consS false (.bool true) r rfl rfl rfl (fun u w' hd => by obtain ⟨d0, d1, d2, _⟩ := hd; exact Eq.trans (show u 11 = .bool ((D.plan_Plan_Field (⟨1048576, 16, 1024, 64, 256, 1073741823⟩ : Plan) 1048575 2) != (IntKind.i64.wrap ((D.plan_Plan_Size (⟨1048576, 16, 1024, 64, 256, 1073741823⟩ : Plan)) - 1))) from d1) (congrArg Value.bool h63)) (by simp [boolOf]) (fun _ => rfl) ?_
          refine each_consS false (.bool true) r rfl rfl rfl (fun u w' hd => by obtain ⟨d0, d1, _⟩ := hd; exact Eq.trans (show u 11 = .bool ((D.plan_Plan_Field (⟨1048576, 16, 1024, 64, 256, 1073741823⟩ : Plan) 1048575 2) != (IntKind.i64.wrap ((D.plan_Plan_Size (⟨1048576, 16, 1024, 64, 256, 1073741823⟩ : Plan)) - 1))) from d1) (congrArg Value.bool h63)) (by simp [boolOf]) (fun _ => rfl) ?_
          exact each_nil
        · skip
          intro fr u w64 hb hΦ r
          have g0 : u 0 = (.agg (planC (⟨1048576, 16, 1024, 64, 256, 1073741823⟩ : Plan)).toArray) := hΦ 0 (by decide)
          have g1 : u 1 = (.bool (D.plan_Plan_Formed (⟨1048576, 16, 1024, 64, 256, 1073741823⟩ : Plan))) := hΦ 1 (by decide)
          have g2 : u 2 = (.bool (!(D.plan_Plan_Formed (⟨1048576, 16, 1024, 64, 256, 1073741823⟩ : Plan)))) := hΦ 2 (by decide)
          have g3 : u 3 = (.bool (!(D.plan_Plan_Formed (⟨1048576, 16, 1024, 64, 256, 1073741823⟩ : Plan)))) := hΦ 3 (by decide)
          have g4 : u 4 = (.agg (planC (⟨1048576, 16, 1024, 64, 256, 1073741823⟩ : Plan)).toArray) := hΦ 4 (by decide)
          have g5 : u 5 = (.int .i64 (D.plan_Plan_Field (⟨1048576, 16, 1024, 64, 256, 1073741823⟩ : Plan) 1048575 2)) := hΦ 5 (by decide)
          have g6 : u 6 = (.agg (planC (⟨1048576, 16, 1024, 64, 256, 1073741823⟩ : Plan)).toArray) := hΦ 6 (by decide)
          have g7 : u 7 = (.int .i64 (D.plan_Plan_Size (⟨1048576, 16, 1024, 64, 256, 1073741823⟩ : Plan))) := hΦ 7 (by decide)
          have g8 : u 8 = (.int .i64 (IntKind.i64.wrap ((D.plan_Plan_Size (⟨1048576, 16, 1024, 64, 256, 1073741823⟩ : Plan)) - 1))) := hΦ 8 (by decide)
          have g9 : u 9 = (.bool ((D.plan_Plan_Field (⟨1048576, 16, 1024, 64, 256, 1073741823⟩ : Plan) 1048575 2) != (IntKind.i64.wrap ((D.plan_Plan_Size (⟨1048576, 16, 1024, 64, 256, 1073741823⟩ : Plan)) - 1)))) := hΦ 9 (by decide)
          have g10 : u 10 = (.bool ((D.plan_Plan_Field (⟨1048576, 16, 1024, 64, 256, 1073741823⟩ : Plan) 1048575 2) != (IntKind.i64.wrap ((D.plan_Plan_Size (⟨1048576, 16, 1024, 64, 256, 1073741823⟩ : Plan)) - 1)))) := hΦ 10 (by decide)
          have g11 : u 11 = (.bool ((D.plan_Plan_Field (⟨1048576, 16, 1024, 64, 256, 1073741823⟩ : Plan) 1048575 2) != (IntKind.i64.wrap ((D.plan_Plan_Size (⟨1048576, 16, 1024, 64, 256, 1073741823⟩ : Plan)) - 1)))) := hΦ 11 (by decide)
          have g12 : u 12 = undef := hΦ 12 (by decide)
          have g13 : u 13 = undef := hΦ 13 (by decide)
          have g14 : u 14 = undef := hΦ 14 (by decide)
          have r := r.congr (sc g14 (sc g13 (sc g12 (sc g11 (sc g10 (sc g9 (sc g8 (sc g7 (sc g6 (sc g5 (sc g4 (sc g3 (sc g2 (sc g1 (sc g0 rfl)))))))))))))))
          have z_w64 := hb.size
          have h_b3 := keep hb h_b3
          have hB := hB.trans (hb.mono hB.size)
          have zB := hB.size
          refine seq_val (.bool true) r (fun R => y_pick r (b := true) (congrArg Value.bool h63) rfl) rfl fun fr r => ?_
          refine wpList_nil ?_
          refine wp_cond_split (t := true) (r.ev rfl) (fun h65 => ?_) (fun h65 => ?_)
          · skip
            refine wp_seq ?_
            refine wp_region_lit ?_
            refine seq_val (.bool false) r (fun R => y_assign r rfl) rfl fun fr r => ?_
            refine wpList_nil ?_
            refine wp_ret ?_
            have hd : D.cubiclelaw06_PlanGreat a0 = false := (cond_f h2).trans ((cond_f h8).trans ((cond_t h63).trans ((cond_t h65).trans (rfl))))
            refine ret_tmp r rfl (v := (.bool false)) rfl ?_
            rw [hd]
            exact ⟨rfl, hB⟩
          · skip
            refine wp_skip ?_
            refine wp_seq ?_
            refine wp_region_lit ?_
            refine seq_val (.agg (planC (⟨1048576, 16, 1024, 64, 256, 1073741823⟩ : Plan)).toArray) r (fun R => y_load_agg r (cs := (planC (⟨1048576, 16, 1024, 64, 256, 1073741823⟩ : Plan))) (n := 6) rfl h_b3 ta24 rfl) rfl fun fr r => ?_
            refine seq_new (.cells ((planC (⟨0, 0, 0, 0, 0, 0⟩ : Plan))).toArray 24 (0, 0)) r (fun R => y_alloc tz24) rfl fun fr b66 w67 n68 r => ?_
            have h_b3 := keep n68.below h_b3
            have e_b66 := n68.eq
            have z_w67 := n68.size
            have h_b66 := n68.at_
            have hB := hB.trans (n68.below.mono hB.size)
            have zB := hB.size
            refine seq_upd (.cells ((planC (⟨1048576, 16, 1024, 64, 256, 1073741823⟩ : Plan))).toArray 24 (0, 0)) r (fun R => y_store r (o := 0) (v := (.agg (planC (⟨1048576, 16, 1024, 64, 256, 1073741823⟩ : Plan)).toArray)) rfl rfl h_b66 ts24 (Nat.le_of_ble_eq_true rfl) rfl rfl) rfl fun fr w69 u70 r => ?_
            have z_w69 := u70.size
            have h_b3 := u70.keep h_b3 (by omega)
            have h_b66 := u70.at_
            have hB := u70.below hB (by omega)
            have zB := hB.size
            refine wpList_nil ?_
            refine wp_seq ?_
            refine wp_seq ?_
            refine wp_region_lit ?_
            refine seq_val (.int .u8 a0) r (fun R => y_move r rfl) rfl fun fr r => ?_
            refine seq_val (.int .u8 (a0.tmod 6)) r (fun R => y_bin r (u := (.int .u8 a0)) (u' := (.int .u8 6)) rfl rfl rfl rfl) rfl fun fr r => ?_
            refine wpList_nil ?_
            refine wp_block ?_
            refine wp_seq ?_
            refine wp_region_lit ?_
            refine seq_val (.bool ((a0.tmod 6) == 0)) r (fun R => y_bin r (u := (.int .u8 (a0.tmod 6))) (u' := (.int .u8 0)) rfl rfl rfl rfl) rfl fun fr r => ?_
            refine seq_val (.bool ((a0.tmod 6) == 0)) r (fun R => y_assign r rfl) rfl fun fr r => ?_
            refine wpList_nil ?_
            refine wp_cond_split (t := ((a0.tmod 6) == 0)) (r.ev rfl) (fun h71 => ?_) (fun h71 => ?_)
            · skip
              refine wp_region_lit ?_
              refine seq_val (.pointer (some ⟨b66, 0, none⟩)) r (fun R => y_fieldAddr r (o := 0) rfl fo24_0) rfl fun fr r => ?_
              refine seq_val (.int .i64 (⟨1048576, 16, 1024, 64, 256, 1073741823⟩ : Plan).nodes) r (fun R => y_load_one r (v := (.int .i64 (⟨1048576, 16, 1024, 64, 256, 1073741823⟩ : Plan).nodes)) rfl h_b66 to3 rfl) rfl fun fr r => ?_
              refine seq_val (.int .i64 (IntKind.i64.wrap (((⟨1048576, 16, 1024, 64, 256, 1073741823⟩ : Plan).nodes) + 1))) r (fun R => y_bin r (u := (.int .i64 (⟨1048576, 16, 1024, 64, 256, 1073741823⟩ : Plan).nodes)) (u' := (.int .i64 1)) rfl rfl rfl rfl) rfl fun fr r => ?_
              refine seq_val (.pointer (some ⟨b66, 0, none⟩)) r (fun R => y_fieldAddr r (o := 0) rfl fo24_0) rfl fun fr r => ?_
              refine seq_upd (.cells ((planC ({ (⟨1048576, 16, 1024, 64, 256, 1073741823⟩ : Plan) with nodes := (IntKind.i64.wrap (((⟨1048576, 16, 1024, 64, 256, 1073741823⟩ : Plan).nodes) + 1)) }))).toArray 24 (0, 0)) r (fun R => y_store r (o := 0) (v := (.int .i64 (IntKind.i64.wrap (((⟨1048576, 16, 1024, 64, 256, 1073741823⟩ : Plan).nodes) + 1)))) rfl rfl h_b66 ts3 (Nat.le_of_ble_eq_true rfl) rfl rfl) rfl fun fr w72 u73 r => ?_
              have z_w72 := u73.size
              have h_b3 := u73.keep h_b3 (by omega)
              have h_b66 := u73.at_
              have hB := u73.below hB (by omega)
              have zB := hB.size
              refine wpList_nil ?_
              refine wp_seq ?_
              refine wp_region_lit ?_
              refine seq_val (.agg (planC ({ (⟨1048576, 16, 1024, 64, 256, 1073741823⟩ : Plan) with nodes := (IntKind.i64.wrap (((⟨1048576, 16, 1024, 64, 256, 1073741823⟩ : Plan).nodes) + 1)) })).toArray) r (fun R => y_load_agg r (cs := (planC ({ (⟨1048576, 16, 1024, 64, 256, 1073741823⟩ : Plan) with nodes := (IntKind.i64.wrap (((⟨1048576, 16, 1024, 64, 256, 1073741823⟩ : Plan).nodes) + 1)) }))) (n := 6) rfl h_b66 ta24 rfl) rfl fun fr r => ?_
              refine seq_call r (c_plan_Plan_Formed w72 ({ (⟨1048576, 16, 1024, 64, 256, 1073741823⟩ : Plan) with nodes := (IntKind.i64.wrap (((⟨1048576, 16, 1024, 64, 256, 1073741823⟩ : Plan).nodes) + 1)) })) (fun R hc => y_call r rfl cl19 hc) rfl ?_
              rintro _ w74 ⟨rfl, hb⟩
              refine ⟨_, rfl, fun fr r => ?_⟩
              have z_w74 := hb.size
              have h_b3 := keep hb h_b3
              have h_b66 := keep hb h_b66
              have hB := hB.trans (hb.mono hB.size)
              have zB := hB.size
              refine seq_val (.bool (!(D.plan_Plan_Formed ({ (⟨1048576, 16, 1024, 64, 256, 1073741823⟩ : Plan) with nodes := (IntKind.i64.wrap (((⟨1048576, 16, 1024, 64, 256, 1073741823⟩ : Plan).nodes) + 1)) })))) r (fun R => y_un r (u := (.bool (D.plan_Plan_Formed ({ (⟨1048576, 16, 1024, 64, 256, 1073741823⟩ : Plan) with nodes := (IntKind.i64.wrap (((⟨1048576, 16, 1024, 64, 256, 1073741823⟩ : Plan).nodes) + 1)) })))) rfl rfl) rfl fun fr r => ?_
              refine seq_val (.bool (!(D.plan_Plan_Formed ({ (⟨1048576, 16, 1024, 64, 256, 1073741823⟩ : Plan) with nodes := (IntKind.i64.wrap (((⟨1048576, 16, 1024, 64, 256, 1073741823⟩ : Plan).nodes) + 1)) })))) r (fun R => y_move r rfl) rfl fun fr r => ?_
              refine seq_split (!(D.plan_Plan_Formed ({ (⟨1048576, 16, 1024, 64, 256, 1073741823⟩ : Plan) with nodes := (IntKind.i64.wrap (((⟨1048576, 16, 1024, 64, 256, 1073741823⟩ : Plan).nodes) + 1)) }))) (fun h75 => ?_) (fun h75 => ?_)
              · skip
                refine seq_want r rfl rfl rfl (congrArg Value.bool h75) ?_
                refine seq_val (.agg (planC ({ (⟨1048576, 16, 1024, 64, 256, 1073741823⟩ : Plan) with nodes := (IntKind.i64.wrap (((⟨1048576, 16, 1024, 64, 256, 1073741823⟩ : Plan).nodes) + 1)) })).toArray) r (fun R => y_load_agg r (cs := (planC ({ (⟨1048576, 16, 1024, 64, 256, 1073741823⟩ : Plan) with nodes := (IntKind.i64.wrap (((⟨1048576, 16, 1024, 64, 256, 1073741823⟩ : Plan).nodes) + 1)) }))) (n := 6) rfl h_b66 ta24 rfl) rfl fun fr r => ?_
                refine seq_want r rfl rfl rfl (congrArg Value.bool h75) ?_
                refine seq_call r (c_plan_Plan_Size w74 ({ (⟨1048576, 16, 1024, 64, 256, 1073741823⟩ : Plan) with nodes := (IntKind.i64.wrap (((⟨1048576, 16, 1024, 64, 256, 1073741823⟩ : Plan).nodes) + 1)) })) (fun R hc => y_call r rfl cl21 hc) rfl ?_
                rintro _ w76 ⟨rfl, hb⟩
                refine ⟨_, rfl, fun fr r => ?_⟩
                have z_w76 := hb.size
                have h_b3 := keep hb h_b3
                have h_b66 := keep hb h_b66
                have hB := hB.trans (hb.mono hB.size)
                have zB := hB.size
                refine seq_want r rfl rfl rfl (congrArg Value.bool h75) ?_
                refine seq_val (.bool ((D.plan_Plan_Size ({ (⟨1048576, 16, 1024, 64, 256, 1073741823⟩ : Plan) with nodes := (IntKind.i64.wrap (((⟨1048576, 16, 1024, 64, 256, 1073741823⟩ : Plan).nodes) + 1)) })) == 0)) r (fun R => y_bin r (u := (.int .i64 (D.plan_Plan_Size ({ (⟨1048576, 16, 1024, 64, 256, 1073741823⟩ : Plan) with nodes := (IntKind.i64.wrap (((⟨1048576, 16, 1024, 64, 256, 1073741823⟩ : Plan).nodes) + 1)) })))) (u' := (.int .i64 0)) rfl rfl rfl rfl) rfl fun fr r => ?_
                refine seq_val (.bool ((D.plan_Plan_Size ({ (⟨1048576, 16, 1024, 64, 256, 1073741823⟩ : Plan) with nodes := (IntKind.i64.wrap (((⟨1048576, 16, 1024, 64, 256, 1073741823⟩ : Plan).nodes) + 1)) })) == 0)) r (fun R => y_pick r (b := true) (congrArg Value.bool h75) rfl) rfl fun fr r => ?_
                refine seq_val (.bool ((D.plan_Plan_Size ({ (⟨1048576, 16, 1024, 64, 256, 1073741823⟩ : Plan) with nodes := (IntKind.i64.wrap (((⟨1048576, 16, 1024, 64, 256, 1073741823⟩ : Plan).nodes) + 1)) })) == 0)) r (fun R => y_move r rfl) rfl fun fr r => ?_
                refine seq_split ((D.plan_Plan_Size ({ (⟨1048576, 16, 1024, 64, 256, 1073741823⟩ : Plan) with nodes := (IntKind.i64.wrap (((⟨1048576, 16, 1024, 64, 256, 1073741823⟩ : Plan).nodes) + 1)) })) == 0) (fun h77 => ?_) (fun h77 => ?_)
                · skip
                  refine seq_want r rfl rfl rfl (congrArg Value.bool h77) ?_
                  refine seq_val (.agg (planC ({ (⟨1048576, 16, 1024, 64, 256, 1073741823⟩ : Plan) with nodes := (IntKind.i64.wrap (((⟨1048576, 16, 1024, 64, 256, 1073741823⟩ : Plan).nodes) + 1)) })).toArray) r (fun R => y_load_agg r (cs := (planC ({ (⟨1048576, 16, 1024, 64, 256, 1073741823⟩ : Plan) with nodes := (IntKind.i64.wrap (((⟨1048576, 16, 1024, 64, 256, 1073741823⟩ : Plan).nodes) + 1)) }))) (n := 6) rfl h_b66 ta24 rfl) rfl fun fr r => ?_
                  refine seq_want r rfl rfl rfl (congrArg Value.bool h77) ?_
                  refine seq_call r (c_plan_Plan_Head w76 ({ (⟨1048576, 16, 1024, 64, 256, 1073741823⟩ : Plan) with nodes := (IntKind.i64.wrap (((⟨1048576, 16, 1024, 64, 256, 1073741823⟩ : Plan).nodes) + 1)) })) (fun R hc => y_call r rfl cl22 hc) rfl ?_
                  rintro _ w78 ⟨rfl, hb⟩
                  refine ⟨_, rfl, fun fr r => ?_⟩
                  have z_w78 := hb.size
                  have h_b3 := keep hb h_b3
                  have h_b66 := keep hb h_b66
                  have hB := hB.trans (hb.mono hB.size)
                  have zB := hB.size
                  refine seq_want r rfl rfl rfl (congrArg Value.bool h77) ?_
                  refine seq_val (.bool ((D.plan_Plan_Head ({ (⟨1048576, 16, 1024, 64, 256, 1073741823⟩ : Plan) with nodes := (IntKind.i64.wrap (((⟨1048576, 16, 1024, 64, 256, 1073741823⟩ : Plan).nodes) + 1)) })) == (-1))) r (fun R => y_bin r (u := (.int .i64 (D.plan_Plan_Head ({ (⟨1048576, 16, 1024, 64, 256, 1073741823⟩ : Plan) with nodes := (IntKind.i64.wrap (((⟨1048576, 16, 1024, 64, 256, 1073741823⟩ : Plan).nodes) + 1)) })))) (u' := (.int .i64 (-1))) rfl rfl rfl rfl) rfl fun fr r => ?_
                  refine seq_val (.bool ((D.plan_Plan_Head ({ (⟨1048576, 16, 1024, 64, 256, 1073741823⟩ : Plan) with nodes := (IntKind.i64.wrap (((⟨1048576, 16, 1024, 64, 256, 1073741823⟩ : Plan).nodes) + 1)) })) == (-1))) r (fun R => y_pick r (b := true) (congrArg Value.bool h77) rfl) rfl fun fr r => ?_
                  refine seq_val (.bool ((D.plan_Plan_Head ({ (⟨1048576, 16, 1024, 64, 256, 1073741823⟩ : Plan) with nodes := (IntKind.i64.wrap (((⟨1048576, 16, 1024, 64, 256, 1073741823⟩ : Plan).nodes) + 1)) })) == (-1))) r (fun R => y_assign r rfl) rfl fun fr r => ?_
                  refine wpList_nil ?_
                  refine wp_ret ?_
                  have hd : D.cubiclelaw06_PlanGreat a0 = ((D.plan_Plan_Head ({ (⟨1048576, 16, 1024, 64, 256, 1073741823⟩ : Plan) with nodes := (IntKind.i64.wrap (((⟨1048576, 16, 1024, 64, 256, 1073741823⟩ : Plan).nodes) + 1)) })) == (-1)) := (cond_f h2).trans ((cond_f h8).trans ((cond_t h63).trans ((cond_f h65).trans ((cond_t h71).trans ((cond_t h75).trans ((cond_t h77).trans (rfl)))))))
                  refine ret_tmp r rfl (v := (.bool ((D.plan_Plan_Head ({ (⟨1048576, 16, 1024, 64, 256, 1073741823⟩ : Plan) with nodes := (IntKind.i64.wrap (((⟨1048576, 16, 1024, 64, 256, 1073741823⟩ : Plan).nodes) + 1)) })) == (-1)))) rfl ?_
                  rw [hd]
                  exact ⟨rfl, hB⟩
                · skip
                  refine seq_skip r rfl rfl rfl (v := .bool false) (congrArg Value.bool h77) (by simp [boolOf]) fun fr r => ?_
                  refine seq_skip r rfl rfl rfl (v := .bool false) (congrArg Value.bool h77) (by simp [boolOf]) fun fr r => ?_
                  refine seq_skip r rfl rfl rfl (v := .bool false) (congrArg Value.bool h77) (by simp [boolOf]) fun fr r => ?_
                  refine seq_val (.bool false) r (fun R => y_pick r (b := false) (congrArg Value.bool h77) rfl) rfl fun fr r => ?_
                  refine seq_val (.bool false) r (fun R => y_assign r rfl) rfl fun fr r => ?_
                  refine wpList_nil ?_
                  refine wp_ret ?_
                  have hd : D.cubiclelaw06_PlanGreat a0 = false := (cond_f h2).trans ((cond_f h8).trans ((cond_t h63).trans ((cond_f h65).trans ((cond_t h71).trans ((cond_t h75).trans ((cond_f h77).trans (rfl)))))))
                  refine ret_tmp r rfl (v := (.bool false)) rfl ?_
                  rw [hd]
                  exact ⟨rfl, hB⟩
              · skip
                refine seq_skip r rfl rfl rfl (v := .bool false) (congrArg Value.bool h75) (by simp [boolOf]) fun fr r => ?_
                refine seq_skip r rfl rfl rfl (v := .bool false) (congrArg Value.bool h75) (by simp [boolOf]) fun fr r => ?_
                refine seq_skip r rfl rfl rfl (v := .bool false) (congrArg Value.bool h75) (by simp [boolOf]) fun fr r => ?_
                refine seq_val (.bool false) r (fun R => y_pick r (b := false) (congrArg Value.bool h75) rfl) rfl fun fr r => ?_
                refine seq_val (.bool false) r (fun R => y_move r rfl) rfl fun fr r => ?_
                refine seq_skip r rfl rfl rfl (v := .bool false) (congrArg Value.bool (rfl : false = _)) (by simp [boolOf]) fun fr r => ?_
                refine seq_skip r rfl rfl rfl (v := .bool false) (congrArg Value.bool (rfl : false = _)) (by simp [boolOf]) fun fr r => ?_
                refine seq_skip r rfl rfl rfl (v := .bool false) (congrArg Value.bool (rfl : false = _)) (by simp [boolOf]) fun fr r => ?_
                refine seq_val (.bool false) r (fun R => y_pick r (b := false) (congrArg Value.bool (rfl : false = _)) rfl) rfl fun fr r => ?_
                refine seq_val (.bool false) r (fun R => y_assign r rfl) rfl fun fr r => ?_
                refine wpList_nil ?_
                refine wp_ret ?_
                have hd : D.cubiclelaw06_PlanGreat a0 = false := (cond_f h2).trans ((cond_f h8).trans ((cond_t h63).trans ((cond_f h65).trans ((cond_t h71).trans ((cond_f h75).trans (rfl))))))
                refine ret_tmp r rfl (v := (.bool false)) rfl ?_
                rw [hd]
                exact ⟨rfl, hB⟩
            · skip
              refine wp_seq ?_
              refine wp_region_lit ?_
              refine seq_val (.bool ((a0.tmod 6) == 1)) r (fun R => y_bin r (u := (.int .u8 (a0.tmod 6))) (u' := (.int .u8 1)) rfl rfl rfl rfl) rfl fun fr r => ?_
              refine seq_val (.bool ((a0.tmod 6) == 1)) r (fun R => y_assign r rfl) rfl fun fr r => ?_
              refine wpList_nil ?_
              refine wp_cond_split (t := ((a0.tmod 6) == 1)) (r.ev rfl) (fun h79 => ?_) (fun h79 => ?_)
              · skip
                refine wp_region_lit ?_
                refine seq_val (.pointer (some ⟨b66, 1, none⟩)) r (fun R => y_fieldAddr r (o := 0) rfl fo24_1) rfl fun fr r => ?_
                refine seq_val (.int .i64 (⟨1048576, 16, 1024, 64, 256, 1073741823⟩ : Plan).threads) r (fun R => y_load_one r (v := (.int .i64 (⟨1048576, 16, 1024, 64, 256, 1073741823⟩ : Plan).threads)) rfl h_b66 to3 rfl) rfl fun fr r => ?_
                refine seq_val (.int .i64 (IntKind.i64.wrap (((⟨1048576, 16, 1024, 64, 256, 1073741823⟩ : Plan).threads) + 1))) r (fun R => y_bin r (u := (.int .i64 (⟨1048576, 16, 1024, 64, 256, 1073741823⟩ : Plan).threads)) (u' := (.int .i64 1)) rfl rfl rfl rfl) rfl fun fr r => ?_
                refine seq_val (.pointer (some ⟨b66, 1, none⟩)) r (fun R => y_fieldAddr r (o := 0) rfl fo24_1) rfl fun fr r => ?_
                refine seq_upd (.cells ((planC ({ (⟨1048576, 16, 1024, 64, 256, 1073741823⟩ : Plan) with threads := (IntKind.i64.wrap (((⟨1048576, 16, 1024, 64, 256, 1073741823⟩ : Plan).threads) + 1)) }))).toArray 24 (0, 0)) r (fun R => y_store r (o := 1) (v := (.int .i64 (IntKind.i64.wrap (((⟨1048576, 16, 1024, 64, 256, 1073741823⟩ : Plan).threads) + 1)))) rfl rfl h_b66 ts3 (Nat.le_of_ble_eq_true rfl) rfl rfl) rfl fun fr w80 u81 r => ?_
                have z_w80 := u81.size
                have h_b3 := u81.keep h_b3 (by omega)
                have h_b66 := u81.at_
                have hB := u81.below hB (by omega)
                have zB := hB.size
                refine wpList_nil ?_
                refine wp_seq ?_
                refine wp_region_lit ?_
                refine seq_val (.agg (planC ({ (⟨1048576, 16, 1024, 64, 256, 1073741823⟩ : Plan) with threads := (IntKind.i64.wrap (((⟨1048576, 16, 1024, 64, 256, 1073741823⟩ : Plan).threads) + 1)) })).toArray) r (fun R => y_load_agg r (cs := (planC ({ (⟨1048576, 16, 1024, 64, 256, 1073741823⟩ : Plan) with threads := (IntKind.i64.wrap (((⟨1048576, 16, 1024, 64, 256, 1073741823⟩ : Plan).threads) + 1)) }))) (n := 6) rfl h_b66 ta24 rfl) rfl fun fr r => ?_
                refine seq_call r (c_plan_Plan_Formed w80 ({ (⟨1048576, 16, 1024, 64, 256, 1073741823⟩ : Plan) with threads := (IntKind.i64.wrap (((⟨1048576, 16, 1024, 64, 256, 1073741823⟩ : Plan).threads) + 1)) })) (fun R hc => y_call r rfl cl19 hc) rfl ?_
                rintro _ w82 ⟨rfl, hb⟩
                refine ⟨_, rfl, fun fr r => ?_⟩
                have z_w82 := hb.size
                have h_b3 := keep hb h_b3
                have h_b66 := keep hb h_b66
                have hB := hB.trans (hb.mono hB.size)
                have zB := hB.size
                refine seq_val (.bool (!(D.plan_Plan_Formed ({ (⟨1048576, 16, 1024, 64, 256, 1073741823⟩ : Plan) with threads := (IntKind.i64.wrap (((⟨1048576, 16, 1024, 64, 256, 1073741823⟩ : Plan).threads) + 1)) })))) r (fun R => y_un r (u := (.bool (D.plan_Plan_Formed ({ (⟨1048576, 16, 1024, 64, 256, 1073741823⟩ : Plan) with threads := (IntKind.i64.wrap (((⟨1048576, 16, 1024, 64, 256, 1073741823⟩ : Plan).threads) + 1)) })))) rfl rfl) rfl fun fr r => ?_
                refine seq_val (.bool (!(D.plan_Plan_Formed ({ (⟨1048576, 16, 1024, 64, 256, 1073741823⟩ : Plan) with threads := (IntKind.i64.wrap (((⟨1048576, 16, 1024, 64, 256, 1073741823⟩ : Plan).threads) + 1)) })))) r (fun R => y_move r rfl) rfl fun fr r => ?_
                refine seq_split (!(D.plan_Plan_Formed ({ (⟨1048576, 16, 1024, 64, 256, 1073741823⟩ : Plan) with threads := (IntKind.i64.wrap (((⟨1048576, 16, 1024, 64, 256, 1073741823⟩ : Plan).threads) + 1)) }))) (fun h83 => ?_) (fun h83 => ?_)
                · skip
                  refine seq_want r rfl rfl rfl (congrArg Value.bool h83) ?_
                  refine seq_val (.agg (planC ({ (⟨1048576, 16, 1024, 64, 256, 1073741823⟩ : Plan) with threads := (IntKind.i64.wrap (((⟨1048576, 16, 1024, 64, 256, 1073741823⟩ : Plan).threads) + 1)) })).toArray) r (fun R => y_load_agg r (cs := (planC ({ (⟨1048576, 16, 1024, 64, 256, 1073741823⟩ : Plan) with threads := (IntKind.i64.wrap (((⟨1048576, 16, 1024, 64, 256, 1073741823⟩ : Plan).threads) + 1)) }))) (n := 6) rfl h_b66 ta24 rfl) rfl fun fr r => ?_
                  refine seq_want r rfl rfl rfl (congrArg Value.bool h83) ?_
                  refine seq_call r (c_plan_Plan_Size w82 ({ (⟨1048576, 16, 1024, 64, 256, 1073741823⟩ : Plan) with threads := (IntKind.i64.wrap (((⟨1048576, 16, 1024, 64, 256, 1073741823⟩ : Plan).threads) + 1)) })) (fun R hc => y_call r rfl cl21 hc) rfl ?_
                  rintro _ w84 ⟨rfl, hb⟩
                  refine ⟨_, rfl, fun fr r => ?_⟩
                  have z_w84 := hb.size
                  have h_b3 := keep hb h_b3
                  have h_b66 := keep hb h_b66
                  have hB := hB.trans (hb.mono hB.size)
                  have zB := hB.size
                  refine seq_want r rfl rfl rfl (congrArg Value.bool h83) ?_
                  refine seq_val (.bool ((D.plan_Plan_Size ({ (⟨1048576, 16, 1024, 64, 256, 1073741823⟩ : Plan) with threads := (IntKind.i64.wrap (((⟨1048576, 16, 1024, 64, 256, 1073741823⟩ : Plan).threads) + 1)) })) == 0)) r (fun R => y_bin r (u := (.int .i64 (D.plan_Plan_Size ({ (⟨1048576, 16, 1024, 64, 256, 1073741823⟩ : Plan) with threads := (IntKind.i64.wrap (((⟨1048576, 16, 1024, 64, 256, 1073741823⟩ : Plan).threads) + 1)) })))) (u' := (.int .i64 0)) rfl rfl rfl rfl) rfl fun fr r => ?_
                  refine seq_val (.bool ((D.plan_Plan_Size ({ (⟨1048576, 16, 1024, 64, 256, 1073741823⟩ : Plan) with threads := (IntKind.i64.wrap (((⟨1048576, 16, 1024, 64, 256, 1073741823⟩ : Plan).threads) + 1)) })) == 0)) r (fun R => y_pick r (b := true) (congrArg Value.bool h83) rfl) rfl fun fr r => ?_
                  refine seq_val (.bool ((D.plan_Plan_Size ({ (⟨1048576, 16, 1024, 64, 256, 1073741823⟩ : Plan) with threads := (IntKind.i64.wrap (((⟨1048576, 16, 1024, 64, 256, 1073741823⟩ : Plan).threads) + 1)) })) == 0)) r (fun R => y_move r rfl) rfl fun fr r => ?_
                  refine seq_split ((D.plan_Plan_Size ({ (⟨1048576, 16, 1024, 64, 256, 1073741823⟩ : Plan) with threads := (IntKind.i64.wrap (((⟨1048576, 16, 1024, 64, 256, 1073741823⟩ : Plan).threads) + 1)) })) == 0) (fun h85 => ?_) (fun h85 => ?_)
                  · skip
                    refine seq_want r rfl rfl rfl (congrArg Value.bool h85) ?_
                    refine seq_val (.agg (planC ({ (⟨1048576, 16, 1024, 64, 256, 1073741823⟩ : Plan) with threads := (IntKind.i64.wrap (((⟨1048576, 16, 1024, 64, 256, 1073741823⟩ : Plan).threads) + 1)) })).toArray) r (fun R => y_load_agg r (cs := (planC ({ (⟨1048576, 16, 1024, 64, 256, 1073741823⟩ : Plan) with threads := (IntKind.i64.wrap (((⟨1048576, 16, 1024, 64, 256, 1073741823⟩ : Plan).threads) + 1)) }))) (n := 6) rfl h_b66 ta24 rfl) rfl fun fr r => ?_
                    refine seq_want r rfl rfl rfl (congrArg Value.bool h85) ?_
                    refine seq_call r (c_plan_Plan_Head w84 ({ (⟨1048576, 16, 1024, 64, 256, 1073741823⟩ : Plan) with threads := (IntKind.i64.wrap (((⟨1048576, 16, 1024, 64, 256, 1073741823⟩ : Plan).threads) + 1)) })) (fun R hc => y_call r rfl cl22 hc) rfl ?_
                    rintro _ w86 ⟨rfl, hb⟩
                    refine ⟨_, rfl, fun fr r => ?_⟩
                    have z_w86 := hb.size
                    have h_b3 := keep hb h_b3
                    have h_b66 := keep hb h_b66
                    have hB := hB.trans (hb.mono hB.size)
                    have zB := hB.size
                    refine seq_want r rfl rfl rfl (congrArg Value.bool h85) ?_
                    refine seq_val (.bool ((D.plan_Plan_Head ({ (⟨1048576, 16, 1024, 64, 256, 1073741823⟩ : Plan) with threads := (IntKind.i64.wrap (((⟨1048576, 16, 1024, 64, 256, 1073741823⟩ : Plan).threads) + 1)) })) == (-1))) r (fun R => y_bin r (u := (.int .i64 (D.plan_Plan_Head ({ (⟨1048576, 16, 1024, 64, 256, 1073741823⟩ : Plan) with threads := (IntKind.i64.wrap (((⟨1048576, 16, 1024, 64, 256, 1073741823⟩ : Plan).threads) + 1)) })))) (u' := (.int .i64 (-1))) rfl rfl rfl rfl) rfl fun fr r => ?_
                    refine seq_val (.bool ((D.plan_Plan_Head ({ (⟨1048576, 16, 1024, 64, 256, 1073741823⟩ : Plan) with threads := (IntKind.i64.wrap (((⟨1048576, 16, 1024, 64, 256, 1073741823⟩ : Plan).threads) + 1)) })) == (-1))) r (fun R => y_pick r (b := true) (congrArg Value.bool h85) rfl) rfl fun fr r => ?_
                    refine seq_val (.bool ((D.plan_Plan_Head ({ (⟨1048576, 16, 1024, 64, 256, 1073741823⟩ : Plan) with threads := (IntKind.i64.wrap (((⟨1048576, 16, 1024, 64, 256, 1073741823⟩ : Plan).threads) + 1)) })) == (-1))) r (fun R => y_assign r rfl) rfl fun fr r => ?_
                    refine wpList_nil ?_
                    refine wp_ret ?_
                    have hd : D.cubiclelaw06_PlanGreat a0 = ((D.plan_Plan_Head ({ (⟨1048576, 16, 1024, 64, 256, 1073741823⟩ : Plan) with threads := (IntKind.i64.wrap (((⟨1048576, 16, 1024, 64, 256, 1073741823⟩ : Plan).threads) + 1)) })) == (-1)) := (cond_f h2).trans ((cond_f h8).trans ((cond_t h63).trans ((cond_f h65).trans ((cond_f h71).trans ((cond_t h79).trans ((cond_t h83).trans ((cond_t h85).trans (rfl))))))))
                    refine ret_tmp r rfl (v := (.bool ((D.plan_Plan_Head ({ (⟨1048576, 16, 1024, 64, 256, 1073741823⟩ : Plan) with threads := (IntKind.i64.wrap (((⟨1048576, 16, 1024, 64, 256, 1073741823⟩ : Plan).threads) + 1)) })) == (-1)))) rfl ?_
                    rw [hd]
                    exact ⟨rfl, hB⟩
                  · skip
                    refine seq_skip r rfl rfl rfl (v := .bool false) (congrArg Value.bool h85) (by simp [boolOf]) fun fr r => ?_
                    refine seq_skip r rfl rfl rfl (v := .bool false) (congrArg Value.bool h85) (by simp [boolOf]) fun fr r => ?_
                    refine seq_skip r rfl rfl rfl (v := .bool false) (congrArg Value.bool h85) (by simp [boolOf]) fun fr r => ?_
                    refine seq_val (.bool false) r (fun R => y_pick r (b := false) (congrArg Value.bool h85) rfl) rfl fun fr r => ?_
                    refine seq_val (.bool false) r (fun R => y_assign r rfl) rfl fun fr r => ?_
                    refine wpList_nil ?_
                    refine wp_ret ?_
                    have hd : D.cubiclelaw06_PlanGreat a0 = false := (cond_f h2).trans ((cond_f h8).trans ((cond_t h63).trans ((cond_f h65).trans ((cond_f h71).trans ((cond_t h79).trans ((cond_t h83).trans ((cond_f h85).trans (rfl))))))))
                    refine ret_tmp r rfl (v := (.bool false)) rfl ?_
                    rw [hd]
                    exact ⟨rfl, hB⟩
                · skip
                  refine seq_skip r rfl rfl rfl (v := .bool false) (congrArg Value.bool h83) (by simp [boolOf]) fun fr r => ?_
                  refine seq_skip r rfl rfl rfl (v := .bool false) (congrArg Value.bool h83) (by simp [boolOf]) fun fr r => ?_
                  refine seq_skip r rfl rfl rfl (v := .bool false) (congrArg Value.bool h83) (by simp [boolOf]) fun fr r => ?_
                  refine seq_val (.bool false) r (fun R => y_pick r (b := false) (congrArg Value.bool h83) rfl) rfl fun fr r => ?_
                  refine seq_val (.bool false) r (fun R => y_move r rfl) rfl fun fr r => ?_
                  refine seq_skip r rfl rfl rfl (v := .bool false) (congrArg Value.bool (rfl : false = _)) (by simp [boolOf]) fun fr r => ?_
                  refine seq_skip r rfl rfl rfl (v := .bool false) (congrArg Value.bool (rfl : false = _)) (by simp [boolOf]) fun fr r => ?_
                  refine seq_skip r rfl rfl rfl (v := .bool false) (congrArg Value.bool (rfl : false = _)) (by simp [boolOf]) fun fr r => ?_
                  refine seq_val (.bool false) r (fun R => y_pick r (b := false) (congrArg Value.bool (rfl : false = _)) rfl) rfl fun fr r => ?_
                  refine seq_val (.bool false) r (fun R => y_assign r rfl) rfl fun fr r => ?_
                  refine wpList_nil ?_
                  refine wp_ret ?_
                  have hd : D.cubiclelaw06_PlanGreat a0 = false := (cond_f h2).trans ((cond_f h8).trans ((cond_t h63).trans ((cond_f h65).trans ((cond_f h71).trans ((cond_t h79).trans ((cond_f h83).trans (rfl)))))))
                  refine ret_tmp r rfl (v := (.bool false)) rfl ?_
                  rw [hd]
                  exact ⟨rfl, hB⟩
              · skip
                refine wp_seq ?_
                refine wp_region_lit ?_
                refine seq_val (.bool ((a0.tmod 6) == 2)) r (fun R => y_bin r (u := (.int .u8 (a0.tmod 6))) (u' := (.int .u8 2)) rfl rfl rfl rfl) rfl fun fr r => ?_
                refine seq_val (.bool ((a0.tmod 6) == 2)) r (fun R => y_assign r rfl) rfl fun fr r => ?_
                refine wpList_nil ?_
                refine wp_cond_split (t := ((a0.tmod 6) == 2)) (r.ev rfl) (fun h87 => ?_) (fun h87 => ?_)
                · skip
                  refine wp_region_lit ?_
                  refine seq_val (.pointer (some ⟨b66, 2, none⟩)) r (fun R => y_fieldAddr r (o := 0) rfl fo24_2) rfl fun fr r => ?_
                  refine seq_val (.int .i64 (⟨1048576, 16, 1024, 64, 256, 1073741823⟩ : Plan).retire) r (fun R => y_load_one r (v := (.int .i64 (⟨1048576, 16, 1024, 64, 256, 1073741823⟩ : Plan).retire)) rfl h_b66 to3 rfl) rfl fun fr r => ?_
                  refine seq_val (.int .i64 (IntKind.i64.wrap (((⟨1048576, 16, 1024, 64, 256, 1073741823⟩ : Plan).retire) + 1))) r (fun R => y_bin r (u := (.int .i64 (⟨1048576, 16, 1024, 64, 256, 1073741823⟩ : Plan).retire)) (u' := (.int .i64 1)) rfl rfl rfl rfl) rfl fun fr r => ?_
                  refine seq_val (.pointer (some ⟨b66, 2, none⟩)) r (fun R => y_fieldAddr r (o := 0) rfl fo24_2) rfl fun fr r => ?_
                  refine seq_upd (.cells ((planC ({ (⟨1048576, 16, 1024, 64, 256, 1073741823⟩ : Plan) with retire := (IntKind.i64.wrap (((⟨1048576, 16, 1024, 64, 256, 1073741823⟩ : Plan).retire) + 1)) }))).toArray 24 (0, 0)) r (fun R => y_store r (o := 2) (v := (.int .i64 (IntKind.i64.wrap (((⟨1048576, 16, 1024, 64, 256, 1073741823⟩ : Plan).retire) + 1)))) rfl rfl h_b66 ts3 (Nat.le_of_ble_eq_true rfl) rfl rfl) rfl fun fr w88 u89 r => ?_
                  have z_w88 := u89.size
                  have h_b3 := u89.keep h_b3 (by omega)
                  have h_b66 := u89.at_
                  have hB := u89.below hB (by omega)
                  have zB := hB.size
                  refine wpList_nil ?_
                  refine wp_seq ?_
                  refine wp_region_lit ?_
                  refine seq_val (.agg (planC ({ (⟨1048576, 16, 1024, 64, 256, 1073741823⟩ : Plan) with retire := (IntKind.i64.wrap (((⟨1048576, 16, 1024, 64, 256, 1073741823⟩ : Plan).retire) + 1)) })).toArray) r (fun R => y_load_agg r (cs := (planC ({ (⟨1048576, 16, 1024, 64, 256, 1073741823⟩ : Plan) with retire := (IntKind.i64.wrap (((⟨1048576, 16, 1024, 64, 256, 1073741823⟩ : Plan).retire) + 1)) }))) (n := 6) rfl h_b66 ta24 rfl) rfl fun fr r => ?_
                  refine seq_call r (c_plan_Plan_Formed w88 ({ (⟨1048576, 16, 1024, 64, 256, 1073741823⟩ : Plan) with retire := (IntKind.i64.wrap (((⟨1048576, 16, 1024, 64, 256, 1073741823⟩ : Plan).retire) + 1)) })) (fun R hc => y_call r rfl cl19 hc) rfl ?_
                  rintro _ w90 ⟨rfl, hb⟩
                  refine ⟨_, rfl, fun fr r => ?_⟩
                  have z_w90 := hb.size
                  have h_b3 := keep hb h_b3
                  have h_b66 := keep hb h_b66
                  have hB := hB.trans (hb.mono hB.size)
                  have zB := hB.size
                  refine seq_val (.bool (!(D.plan_Plan_Formed ({ (⟨1048576, 16, 1024, 64, 256, 1073741823⟩ : Plan) with retire := (IntKind.i64.wrap (((⟨1048576, 16, 1024, 64, 256, 1073741823⟩ : Plan).retire) + 1)) })))) r (fun R => y_un r (u := (.bool (D.plan_Plan_Formed ({ (⟨1048576, 16, 1024, 64, 256, 1073741823⟩ : Plan) with retire := (IntKind.i64.wrap (((⟨1048576, 16, 1024, 64, 256, 1073741823⟩ : Plan).retire) + 1)) })))) rfl rfl) rfl fun fr r => ?_
                  refine seq_val (.bool (!(D.plan_Plan_Formed ({ (⟨1048576, 16, 1024, 64, 256, 1073741823⟩ : Plan) with retire := (IntKind.i64.wrap (((⟨1048576, 16, 1024, 64, 256, 1073741823⟩ : Plan).retire) + 1)) })))) r (fun R => y_move r rfl) rfl fun fr r => ?_
                  refine seq_split (!(D.plan_Plan_Formed ({ (⟨1048576, 16, 1024, 64, 256, 1073741823⟩ : Plan) with retire := (IntKind.i64.wrap (((⟨1048576, 16, 1024, 64, 256, 1073741823⟩ : Plan).retire) + 1)) }))) (fun h91 => ?_) (fun h91 => ?_)
                  · skip
                    refine seq_want r rfl rfl rfl (congrArg Value.bool h91) ?_
                    refine seq_val (.agg (planC ({ (⟨1048576, 16, 1024, 64, 256, 1073741823⟩ : Plan) with retire := (IntKind.i64.wrap (((⟨1048576, 16, 1024, 64, 256, 1073741823⟩ : Plan).retire) + 1)) })).toArray) r (fun R => y_load_agg r (cs := (planC ({ (⟨1048576, 16, 1024, 64, 256, 1073741823⟩ : Plan) with retire := (IntKind.i64.wrap (((⟨1048576, 16, 1024, 64, 256, 1073741823⟩ : Plan).retire) + 1)) }))) (n := 6) rfl h_b66 ta24 rfl) rfl fun fr r => ?_
                    refine seq_want r rfl rfl rfl (congrArg Value.bool h91) ?_
                    refine seq_call r (c_plan_Plan_Size w90 ({ (⟨1048576, 16, 1024, 64, 256, 1073741823⟩ : Plan) with retire := (IntKind.i64.wrap (((⟨1048576, 16, 1024, 64, 256, 1073741823⟩ : Plan).retire) + 1)) })) (fun R hc => y_call r rfl cl21 hc) rfl ?_
                    rintro _ w92 ⟨rfl, hb⟩
                    refine ⟨_, rfl, fun fr r => ?_⟩
                    have z_w92 := hb.size
                    have h_b3 := keep hb h_b3
                    have h_b66 := keep hb h_b66
                    have hB := hB.trans (hb.mono hB.size)
                    have zB := hB.size
                    refine seq_want r rfl rfl rfl (congrArg Value.bool h91) ?_
                    refine seq_val (.bool ((D.plan_Plan_Size ({ (⟨1048576, 16, 1024, 64, 256, 1073741823⟩ : Plan) with retire := (IntKind.i64.wrap (((⟨1048576, 16, 1024, 64, 256, 1073741823⟩ : Plan).retire) + 1)) })) == 0)) r (fun R => y_bin r (u := (.int .i64 (D.plan_Plan_Size ({ (⟨1048576, 16, 1024, 64, 256, 1073741823⟩ : Plan) with retire := (IntKind.i64.wrap (((⟨1048576, 16, 1024, 64, 256, 1073741823⟩ : Plan).retire) + 1)) })))) (u' := (.int .i64 0)) rfl rfl rfl rfl) rfl fun fr r => ?_
                    refine seq_val (.bool ((D.plan_Plan_Size ({ (⟨1048576, 16, 1024, 64, 256, 1073741823⟩ : Plan) with retire := (IntKind.i64.wrap (((⟨1048576, 16, 1024, 64, 256, 1073741823⟩ : Plan).retire) + 1)) })) == 0)) r (fun R => y_pick r (b := true) (congrArg Value.bool h91) rfl) rfl fun fr r => ?_
                    refine seq_val (.bool ((D.plan_Plan_Size ({ (⟨1048576, 16, 1024, 64, 256, 1073741823⟩ : Plan) with retire := (IntKind.i64.wrap (((⟨1048576, 16, 1024, 64, 256, 1073741823⟩ : Plan).retire) + 1)) })) == 0)) r (fun R => y_move r rfl) rfl fun fr r => ?_
                    refine seq_split ((D.plan_Plan_Size ({ (⟨1048576, 16, 1024, 64, 256, 1073741823⟩ : Plan) with retire := (IntKind.i64.wrap (((⟨1048576, 16, 1024, 64, 256, 1073741823⟩ : Plan).retire) + 1)) })) == 0) (fun h93 => ?_) (fun h93 => ?_)
                    · skip
                      refine seq_want r rfl rfl rfl (congrArg Value.bool h93) ?_
                      refine seq_val (.agg (planC ({ (⟨1048576, 16, 1024, 64, 256, 1073741823⟩ : Plan) with retire := (IntKind.i64.wrap (((⟨1048576, 16, 1024, 64, 256, 1073741823⟩ : Plan).retire) + 1)) })).toArray) r (fun R => y_load_agg r (cs := (planC ({ (⟨1048576, 16, 1024, 64, 256, 1073741823⟩ : Plan) with retire := (IntKind.i64.wrap (((⟨1048576, 16, 1024, 64, 256, 1073741823⟩ : Plan).retire) + 1)) }))) (n := 6) rfl h_b66 ta24 rfl) rfl fun fr r => ?_
                      refine seq_want r rfl rfl rfl (congrArg Value.bool h93) ?_
                      refine seq_call r (c_plan_Plan_Head w92 ({ (⟨1048576, 16, 1024, 64, 256, 1073741823⟩ : Plan) with retire := (IntKind.i64.wrap (((⟨1048576, 16, 1024, 64, 256, 1073741823⟩ : Plan).retire) + 1)) })) (fun R hc => y_call r rfl cl22 hc) rfl ?_
                      rintro _ w94 ⟨rfl, hb⟩
                      refine ⟨_, rfl, fun fr r => ?_⟩
                      have z_w94 := hb.size
                      have h_b3 := keep hb h_b3
                      have h_b66 := keep hb h_b66
                      have hB := hB.trans (hb.mono hB.size)
                      have zB := hB.size
                      refine seq_want r rfl rfl rfl (congrArg Value.bool h93) ?_
                      refine seq_val (.bool ((D.plan_Plan_Head ({ (⟨1048576, 16, 1024, 64, 256, 1073741823⟩ : Plan) with retire := (IntKind.i64.wrap (((⟨1048576, 16, 1024, 64, 256, 1073741823⟩ : Plan).retire) + 1)) })) == (-1))) r (fun R => y_bin r (u := (.int .i64 (D.plan_Plan_Head ({ (⟨1048576, 16, 1024, 64, 256, 1073741823⟩ : Plan) with retire := (IntKind.i64.wrap (((⟨1048576, 16, 1024, 64, 256, 1073741823⟩ : Plan).retire) + 1)) })))) (u' := (.int .i64 (-1))) rfl rfl rfl rfl) rfl fun fr r => ?_
                      refine seq_val (.bool ((D.plan_Plan_Head ({ (⟨1048576, 16, 1024, 64, 256, 1073741823⟩ : Plan) with retire := (IntKind.i64.wrap (((⟨1048576, 16, 1024, 64, 256, 1073741823⟩ : Plan).retire) + 1)) })) == (-1))) r (fun R => y_pick r (b := true) (congrArg Value.bool h93) rfl) rfl fun fr r => ?_
                      refine seq_val (.bool ((D.plan_Plan_Head ({ (⟨1048576, 16, 1024, 64, 256, 1073741823⟩ : Plan) with retire := (IntKind.i64.wrap (((⟨1048576, 16, 1024, 64, 256, 1073741823⟩ : Plan).retire) + 1)) })) == (-1))) r (fun R => y_assign r rfl) rfl fun fr r => ?_
                      refine wpList_nil ?_
                      refine wp_ret ?_
                      have hd : D.cubiclelaw06_PlanGreat a0 = ((D.plan_Plan_Head ({ (⟨1048576, 16, 1024, 64, 256, 1073741823⟩ : Plan) with retire := (IntKind.i64.wrap (((⟨1048576, 16, 1024, 64, 256, 1073741823⟩ : Plan).retire) + 1)) })) == (-1)) := (cond_f h2).trans ((cond_f h8).trans ((cond_t h63).trans ((cond_f h65).trans ((cond_f h71).trans ((cond_f h79).trans ((cond_t h87).trans ((cond_t h91).trans ((cond_t h93).trans (rfl)))))))))
                      refine ret_tmp r rfl (v := (.bool ((D.plan_Plan_Head ({ (⟨1048576, 16, 1024, 64, 256, 1073741823⟩ : Plan) with retire := (IntKind.i64.wrap (((⟨1048576, 16, 1024, 64, 256, 1073741823⟩ : Plan).retire) + 1)) })) == (-1)))) rfl ?_
                      rw [hd]
                      exact ⟨rfl, hB⟩
                    · skip
                      refine seq_skip r rfl rfl rfl (v := .bool false) (congrArg Value.bool h93) (by simp [boolOf]) fun fr r => ?_
                      refine seq_skip r rfl rfl rfl (v := .bool false) (congrArg Value.bool h93) (by simp [boolOf]) fun fr r => ?_
                      refine seq_skip r rfl rfl rfl (v := .bool false) (congrArg Value.bool h93) (by simp [boolOf]) fun fr r => ?_
                      refine seq_val (.bool false) r (fun R => y_pick r (b := false) (congrArg Value.bool h93) rfl) rfl fun fr r => ?_
                      refine seq_val (.bool false) r (fun R => y_assign r rfl) rfl fun fr r => ?_
                      refine wpList_nil ?_
                      refine wp_ret ?_
                      have hd : D.cubiclelaw06_PlanGreat a0 = false := (cond_f h2).trans ((cond_f h8).trans ((cond_t h63).trans ((cond_f h65).trans ((cond_f h71).trans ((cond_f h79).trans ((cond_t h87).trans ((cond_t h91).trans ((cond_f h93).trans (rfl)))))))))
                      refine ret_tmp r rfl (v := (.bool false)) rfl ?_
                      rw [hd]
                      exact ⟨rfl, hB⟩
                  · skip
                    refine seq_skip r rfl rfl rfl (v := .bool false) (congrArg Value.bool h91) (by simp [boolOf]) fun fr r => ?_
                    refine seq_skip r rfl rfl rfl (v := .bool false) (congrArg Value.bool h91) (by simp [boolOf]) fun fr r => ?_
                    refine seq_skip r rfl rfl rfl (v := .bool false) (congrArg Value.bool h91) (by simp [boolOf]) fun fr r => ?_
                    refine seq_val (.bool false) r (fun R => y_pick r (b := false) (congrArg Value.bool h91) rfl) rfl fun fr r => ?_
                    refine seq_val (.bool false) r (fun R => y_move r rfl) rfl fun fr r => ?_
                    refine seq_skip r rfl rfl rfl (v := .bool false) (congrArg Value.bool (rfl : false = _)) (by simp [boolOf]) fun fr r => ?_
                    refine seq_skip r rfl rfl rfl (v := .bool false) (congrArg Value.bool (rfl : false = _)) (by simp [boolOf]) fun fr r => ?_
                    refine seq_skip r rfl rfl rfl (v := .bool false) (congrArg Value.bool (rfl : false = _)) (by simp [boolOf]) fun fr r => ?_
                    refine seq_val (.bool false) r (fun R => y_pick r (b := false) (congrArg Value.bool (rfl : false = _)) rfl) rfl fun fr r => ?_
                    refine seq_val (.bool false) r (fun R => y_assign r rfl) rfl fun fr r => ?_
                    refine wpList_nil ?_
                    refine wp_ret ?_
                    have hd : D.cubiclelaw06_PlanGreat a0 = false := (cond_f h2).trans ((cond_f h8).trans ((cond_t h63).trans ((cond_f h65).trans ((cond_f h71).trans ((cond_f h79).trans ((cond_t h87).trans ((cond_f h91).trans (rfl))))))))
                    refine ret_tmp r rfl (v := (.bool false)) rfl ?_
                    rw [hd]
                    exact ⟨rfl, hB⟩
                · skip
                  refine wp_seq ?_
                  refine wp_region_lit ?_
                  refine seq_val (.bool ((a0.tmod 6) == 3)) r (fun R => y_bin r (u := (.int .u8 (a0.tmod 6))) (u' := (.int .u8 3)) rfl rfl rfl rfl) rfl fun fr r => ?_
                  refine seq_val (.bool ((a0.tmod 6) == 3)) r (fun R => y_assign r rfl) rfl fun fr r => ?_
                  refine wpList_nil ?_
                  refine wp_cond_split (t := ((a0.tmod 6) == 3)) (r.ev rfl) (fun h95 => ?_) (fun h95 => ?_)
                  · skip
                    refine wp_region_lit ?_
                    refine seq_val (.pointer (some ⟨b66, 3, none⟩)) r (fun R => y_fieldAddr r (o := 0) rfl fo24_3) rfl fun fr r => ?_
                    refine seq_val (.int .i64 (⟨1048576, 16, 1024, 64, 256, 1073741823⟩ : Plan).domains) r (fun R => y_load_one r (v := (.int .i64 (⟨1048576, 16, 1024, 64, 256, 1073741823⟩ : Plan).domains)) rfl h_b66 to3 rfl) rfl fun fr r => ?_
                    refine seq_val (.int .i64 (IntKind.i64.wrap (((⟨1048576, 16, 1024, 64, 256, 1073741823⟩ : Plan).domains) + 1))) r (fun R => y_bin r (u := (.int .i64 (⟨1048576, 16, 1024, 64, 256, 1073741823⟩ : Plan).domains)) (u' := (.int .i64 1)) rfl rfl rfl rfl) rfl fun fr r => ?_
                    refine seq_val (.pointer (some ⟨b66, 3, none⟩)) r (fun R => y_fieldAddr r (o := 0) rfl fo24_3) rfl fun fr r => ?_
                    refine seq_upd (.cells ((planC ({ (⟨1048576, 16, 1024, 64, 256, 1073741823⟩ : Plan) with domains := (IntKind.i64.wrap (((⟨1048576, 16, 1024, 64, 256, 1073741823⟩ : Plan).domains) + 1)) }))).toArray 24 (0, 0)) r (fun R => y_store r (o := 3) (v := (.int .i64 (IntKind.i64.wrap (((⟨1048576, 16, 1024, 64, 256, 1073741823⟩ : Plan).domains) + 1)))) rfl rfl h_b66 ts3 (Nat.le_of_ble_eq_true rfl) rfl rfl) rfl fun fr w96 u97 r => ?_
                    have z_w96 := u97.size
                    have h_b3 := u97.keep h_b3 (by omega)
                    have h_b66 := u97.at_
                    have hB := u97.below hB (by omega)
                    have zB := hB.size
                    refine wpList_nil ?_
                    refine wp_seq ?_
                    refine wp_region_lit ?_
                    refine seq_val (.agg (planC ({ (⟨1048576, 16, 1024, 64, 256, 1073741823⟩ : Plan) with domains := (IntKind.i64.wrap (((⟨1048576, 16, 1024, 64, 256, 1073741823⟩ : Plan).domains) + 1)) })).toArray) r (fun R => y_load_agg r (cs := (planC ({ (⟨1048576, 16, 1024, 64, 256, 1073741823⟩ : Plan) with domains := (IntKind.i64.wrap (((⟨1048576, 16, 1024, 64, 256, 1073741823⟩ : Plan).domains) + 1)) }))) (n := 6) rfl h_b66 ta24 rfl) rfl fun fr r => ?_
                    refine seq_call r (c_plan_Plan_Formed w96 ({ (⟨1048576, 16, 1024, 64, 256, 1073741823⟩ : Plan) with domains := (IntKind.i64.wrap (((⟨1048576, 16, 1024, 64, 256, 1073741823⟩ : Plan).domains) + 1)) })) (fun R hc => y_call r rfl cl19 hc) rfl ?_
                    rintro _ w98 ⟨rfl, hb⟩
                    refine ⟨_, rfl, fun fr r => ?_⟩
                    have z_w98 := hb.size
                    have h_b3 := keep hb h_b3
                    have h_b66 := keep hb h_b66
                    have hB := hB.trans (hb.mono hB.size)
                    have zB := hB.size
                    refine seq_val (.bool (!(D.plan_Plan_Formed ({ (⟨1048576, 16, 1024, 64, 256, 1073741823⟩ : Plan) with domains := (IntKind.i64.wrap (((⟨1048576, 16, 1024, 64, 256, 1073741823⟩ : Plan).domains) + 1)) })))) r (fun R => y_un r (u := (.bool (D.plan_Plan_Formed ({ (⟨1048576, 16, 1024, 64, 256, 1073741823⟩ : Plan) with domains := (IntKind.i64.wrap (((⟨1048576, 16, 1024, 64, 256, 1073741823⟩ : Plan).domains) + 1)) })))) rfl rfl) rfl fun fr r => ?_
                    refine seq_val (.bool (!(D.plan_Plan_Formed ({ (⟨1048576, 16, 1024, 64, 256, 1073741823⟩ : Plan) with domains := (IntKind.i64.wrap (((⟨1048576, 16, 1024, 64, 256, 1073741823⟩ : Plan).domains) + 1)) })))) r (fun R => y_move r rfl) rfl fun fr r => ?_
                    refine seq_split (!(D.plan_Plan_Formed ({ (⟨1048576, 16, 1024, 64, 256, 1073741823⟩ : Plan) with domains := (IntKind.i64.wrap (((⟨1048576, 16, 1024, 64, 256, 1073741823⟩ : Plan).domains) + 1)) }))) (fun h99 => ?_) (fun h99 => ?_)
                    · skip
                      refine seq_want r rfl rfl rfl (congrArg Value.bool h99) ?_
                      refine seq_val (.agg (planC ({ (⟨1048576, 16, 1024, 64, 256, 1073741823⟩ : Plan) with domains := (IntKind.i64.wrap (((⟨1048576, 16, 1024, 64, 256, 1073741823⟩ : Plan).domains) + 1)) })).toArray) r (fun R => y_load_agg r (cs := (planC ({ (⟨1048576, 16, 1024, 64, 256, 1073741823⟩ : Plan) with domains := (IntKind.i64.wrap (((⟨1048576, 16, 1024, 64, 256, 1073741823⟩ : Plan).domains) + 1)) }))) (n := 6) rfl h_b66 ta24 rfl) rfl fun fr r => ?_
                      refine seq_want r rfl rfl rfl (congrArg Value.bool h99) ?_
                      refine seq_call r (c_plan_Plan_Size w98 ({ (⟨1048576, 16, 1024, 64, 256, 1073741823⟩ : Plan) with domains := (IntKind.i64.wrap (((⟨1048576, 16, 1024, 64, 256, 1073741823⟩ : Plan).domains) + 1)) })) (fun R hc => y_call r rfl cl21 hc) rfl ?_
                      rintro _ w100 ⟨rfl, hb⟩
                      refine ⟨_, rfl, fun fr r => ?_⟩
                      have z_w100 := hb.size
                      have h_b3 := keep hb h_b3
                      have h_b66 := keep hb h_b66
                      have hB := hB.trans (hb.mono hB.size)
                      have zB := hB.size
                      refine seq_want r rfl rfl rfl (congrArg Value.bool h99) ?_
                      refine seq_val (.bool ((D.plan_Plan_Size ({ (⟨1048576, 16, 1024, 64, 256, 1073741823⟩ : Plan) with domains := (IntKind.i64.wrap (((⟨1048576, 16, 1024, 64, 256, 1073741823⟩ : Plan).domains) + 1)) })) == 0)) r (fun R => y_bin r (u := (.int .i64 (D.plan_Plan_Size ({ (⟨1048576, 16, 1024, 64, 256, 1073741823⟩ : Plan) with domains := (IntKind.i64.wrap (((⟨1048576, 16, 1024, 64, 256, 1073741823⟩ : Plan).domains) + 1)) })))) (u' := (.int .i64 0)) rfl rfl rfl rfl) rfl fun fr r => ?_
                      refine seq_val (.bool ((D.plan_Plan_Size ({ (⟨1048576, 16, 1024, 64, 256, 1073741823⟩ : Plan) with domains := (IntKind.i64.wrap (((⟨1048576, 16, 1024, 64, 256, 1073741823⟩ : Plan).domains) + 1)) })) == 0)) r (fun R => y_pick r (b := true) (congrArg Value.bool h99) rfl) rfl fun fr r => ?_
                      refine seq_val (.bool ((D.plan_Plan_Size ({ (⟨1048576, 16, 1024, 64, 256, 1073741823⟩ : Plan) with domains := (IntKind.i64.wrap (((⟨1048576, 16, 1024, 64, 256, 1073741823⟩ : Plan).domains) + 1)) })) == 0)) r (fun R => y_move r rfl) rfl fun fr r => ?_
                      refine seq_split ((D.plan_Plan_Size ({ (⟨1048576, 16, 1024, 64, 256, 1073741823⟩ : Plan) with domains := (IntKind.i64.wrap (((⟨1048576, 16, 1024, 64, 256, 1073741823⟩ : Plan).domains) + 1)) })) == 0) (fun h101 => ?_) (fun h101 => ?_)
                      · skip
                        refine seq_want r rfl rfl rfl (congrArg Value.bool h101) ?_
                        refine seq_val (.agg (planC ({ (⟨1048576, 16, 1024, 64, 256, 1073741823⟩ : Plan) with domains := (IntKind.i64.wrap (((⟨1048576, 16, 1024, 64, 256, 1073741823⟩ : Plan).domains) + 1)) })).toArray) r (fun R => y_load_agg r (cs := (planC ({ (⟨1048576, 16, 1024, 64, 256, 1073741823⟩ : Plan) with domains := (IntKind.i64.wrap (((⟨1048576, 16, 1024, 64, 256, 1073741823⟩ : Plan).domains) + 1)) }))) (n := 6) rfl h_b66 ta24 rfl) rfl fun fr r => ?_
                        refine seq_want r rfl rfl rfl (congrArg Value.bool h101) ?_
                        refine seq_call r (c_plan_Plan_Head w100 ({ (⟨1048576, 16, 1024, 64, 256, 1073741823⟩ : Plan) with domains := (IntKind.i64.wrap (((⟨1048576, 16, 1024, 64, 256, 1073741823⟩ : Plan).domains) + 1)) })) (fun R hc => y_call r rfl cl22 hc) rfl ?_
                        rintro _ w102 ⟨rfl, hb⟩
                        refine ⟨_, rfl, fun fr r => ?_⟩
                        have z_w102 := hb.size
                        have h_b3 := keep hb h_b3
                        have h_b66 := keep hb h_b66
                        have hB := hB.trans (hb.mono hB.size)
                        have zB := hB.size
                        refine seq_want r rfl rfl rfl (congrArg Value.bool h101) ?_
                        refine seq_val (.bool ((D.plan_Plan_Head ({ (⟨1048576, 16, 1024, 64, 256, 1073741823⟩ : Plan) with domains := (IntKind.i64.wrap (((⟨1048576, 16, 1024, 64, 256, 1073741823⟩ : Plan).domains) + 1)) })) == (-1))) r (fun R => y_bin r (u := (.int .i64 (D.plan_Plan_Head ({ (⟨1048576, 16, 1024, 64, 256, 1073741823⟩ : Plan) with domains := (IntKind.i64.wrap (((⟨1048576, 16, 1024, 64, 256, 1073741823⟩ : Plan).domains) + 1)) })))) (u' := (.int .i64 (-1))) rfl rfl rfl rfl) rfl fun fr r => ?_
                        refine seq_val (.bool ((D.plan_Plan_Head ({ (⟨1048576, 16, 1024, 64, 256, 1073741823⟩ : Plan) with domains := (IntKind.i64.wrap (((⟨1048576, 16, 1024, 64, 256, 1073741823⟩ : Plan).domains) + 1)) })) == (-1))) r (fun R => y_pick r (b := true) (congrArg Value.bool h101) rfl) rfl fun fr r => ?_
                        refine seq_val (.bool ((D.plan_Plan_Head ({ (⟨1048576, 16, 1024, 64, 256, 1073741823⟩ : Plan) with domains := (IntKind.i64.wrap (((⟨1048576, 16, 1024, 64, 256, 1073741823⟩ : Plan).domains) + 1)) })) == (-1))) r (fun R => y_assign r rfl) rfl fun fr r => ?_
                        refine wpList_nil ?_
                        refine wp_ret ?_
                        have hd : D.cubiclelaw06_PlanGreat a0 = ((D.plan_Plan_Head ({ (⟨1048576, 16, 1024, 64, 256, 1073741823⟩ : Plan) with domains := (IntKind.i64.wrap (((⟨1048576, 16, 1024, 64, 256, 1073741823⟩ : Plan).domains) + 1)) })) == (-1)) := (cond_f h2).trans ((cond_f h8).trans ((cond_t h63).trans ((cond_f h65).trans ((cond_f h71).trans ((cond_f h79).trans ((cond_f h87).trans ((cond_t h95).trans ((cond_t h99).trans ((cond_t h101).trans (rfl))))))))))
                        refine ret_tmp r rfl (v := (.bool ((D.plan_Plan_Head ({ (⟨1048576, 16, 1024, 64, 256, 1073741823⟩ : Plan) with domains := (IntKind.i64.wrap (((⟨1048576, 16, 1024, 64, 256, 1073741823⟩ : Plan).domains) + 1)) })) == (-1)))) rfl ?_
                        rw [hd]
                        exact ⟨rfl, hB⟩
                      · skip
                        refine seq_skip r rfl rfl rfl (v := .bool false) (congrArg Value.bool h101) (by simp [boolOf]) fun fr r => ?_
                        refine seq_skip r rfl rfl rfl (v := .bool false) (congrArg Value.bool h101) (by simp [boolOf]) fun fr r => ?_
                        refine seq_skip r rfl rfl rfl (v := .bool false) (congrArg Value.bool h101) (by simp [boolOf]) fun fr r => ?_
                        refine seq_val (.bool false) r (fun R => y_pick r (b := false) (congrArg Value.bool h101) rfl) rfl fun fr r => ?_
                        refine seq_val (.bool false) r (fun R => y_assign r rfl) rfl fun fr r => ?_
                        refine wpList_nil ?_
                        refine wp_ret ?_
                        have hd : D.cubiclelaw06_PlanGreat a0 = false := (cond_f h2).trans ((cond_f h8).trans ((cond_t h63).trans ((cond_f h65).trans ((cond_f h71).trans ((cond_f h79).trans ((cond_f h87).trans ((cond_t h95).trans ((cond_t h99).trans ((cond_f h101).trans (rfl))))))))))
                        refine ret_tmp r rfl (v := (.bool false)) rfl ?_
                        rw [hd]
                        exact ⟨rfl, hB⟩
                    · skip
                      refine seq_skip r rfl rfl rfl (v := .bool false) (congrArg Value.bool h99) (by simp [boolOf]) fun fr r => ?_
                      refine seq_skip r rfl rfl rfl (v := .bool false) (congrArg Value.bool h99) (by simp [boolOf]) fun fr r => ?_
                      refine seq_skip r rfl rfl rfl (v := .bool false) (congrArg Value.bool h99) (by simp [boolOf]) fun fr r => ?_
                      refine seq_val (.bool false) r (fun R => y_pick r (b := false) (congrArg Value.bool h99) rfl) rfl fun fr r => ?_
                      refine seq_val (.bool false) r (fun R => y_move r rfl) rfl fun fr r => ?_
                      refine seq_skip r rfl rfl rfl (v := .bool false) (congrArg Value.bool (rfl : false = _)) (by simp [boolOf]) fun fr r => ?_
                      refine seq_skip r rfl rfl rfl (v := .bool false) (congrArg Value.bool (rfl : false = _)) (by simp [boolOf]) fun fr r => ?_
                      refine seq_skip r rfl rfl rfl (v := .bool false) (congrArg Value.bool (rfl : false = _)) (by simp [boolOf]) fun fr r => ?_
                      refine seq_val (.bool false) r (fun R => y_pick r (b := false) (congrArg Value.bool (rfl : false = _)) rfl) rfl fun fr r => ?_
                      refine seq_val (.bool false) r (fun R => y_assign r rfl) rfl fun fr r => ?_
                      refine wpList_nil ?_
                      refine wp_ret ?_
                      have hd : D.cubiclelaw06_PlanGreat a0 = false := (cond_f h2).trans ((cond_f h8).trans ((cond_t h63).trans ((cond_f h65).trans ((cond_f h71).trans ((cond_f h79).trans ((cond_f h87).trans ((cond_t h95).trans ((cond_f h99).trans (rfl)))))))))
                      refine ret_tmp r rfl (v := (.bool false)) rfl ?_
                      rw [hd]
                      exact ⟨rfl, hB⟩
                  · skip
                    refine wp_seq ?_
                    refine wp_region_lit ?_
                    refine seq_val (.bool ((a0.tmod 6) == 4)) r (fun R => y_bin r (u := (.int .u8 (a0.tmod 6))) (u' := (.int .u8 4)) rfl rfl rfl rfl) rfl fun fr r => ?_
                    refine seq_val (.bool ((a0.tmod 6) == 4)) r (fun R => y_assign r rfl) rfl fun fr r => ?_
                    refine wpList_nil ?_
                    refine wp_cond_split (t := ((a0.tmod 6) == 4)) (r.ev rfl) (fun h103 => ?_) (fun h103 => ?_)
                    · skip
                      refine wp_region_lit ?_
                      refine seq_val (.pointer (some ⟨b66, 4, none⟩)) r (fun R => y_fieldAddr r (o := 0) rfl fo24_4) rfl fun fr r => ?_
                      refine seq_val (.int .i64 (⟨1048576, 16, 1024, 64, 256, 1073741823⟩ : Plan).buckets) r (fun R => y_load_one r (v := (.int .i64 (⟨1048576, 16, 1024, 64, 256, 1073741823⟩ : Plan).buckets)) rfl h_b66 to3 rfl) rfl fun fr r => ?_
                      refine seq_val (.int .i64 (IntKind.i64.wrap (((⟨1048576, 16, 1024, 64, 256, 1073741823⟩ : Plan).buckets) + 1))) r (fun R => y_bin r (u := (.int .i64 (⟨1048576, 16, 1024, 64, 256, 1073741823⟩ : Plan).buckets)) (u' := (.int .i64 1)) rfl rfl rfl rfl) rfl fun fr r => ?_
                      refine seq_val (.pointer (some ⟨b66, 4, none⟩)) r (fun R => y_fieldAddr r (o := 0) rfl fo24_4) rfl fun fr r => ?_
                      refine seq_upd (.cells ((planC ({ (⟨1048576, 16, 1024, 64, 256, 1073741823⟩ : Plan) with buckets := (IntKind.i64.wrap (((⟨1048576, 16, 1024, 64, 256, 1073741823⟩ : Plan).buckets) + 1)) }))).toArray 24 (0, 0)) r (fun R => y_store r (o := 4) (v := (.int .i64 (IntKind.i64.wrap (((⟨1048576, 16, 1024, 64, 256, 1073741823⟩ : Plan).buckets) + 1)))) rfl rfl h_b66 ts3 (Nat.le_of_ble_eq_true rfl) rfl rfl) rfl fun fr w104 u105 r => ?_
                      have z_w104 := u105.size
                      have h_b3 := u105.keep h_b3 (by omega)
                      have h_b66 := u105.at_
                      have hB := u105.below hB (by omega)
                      have zB := hB.size
                      refine wpList_nil ?_
                      refine wp_seq ?_
                      refine wp_region_lit ?_
                      refine seq_val (.agg (planC ({ (⟨1048576, 16, 1024, 64, 256, 1073741823⟩ : Plan) with buckets := (IntKind.i64.wrap (((⟨1048576, 16, 1024, 64, 256, 1073741823⟩ : Plan).buckets) + 1)) })).toArray) r (fun R => y_load_agg r (cs := (planC ({ (⟨1048576, 16, 1024, 64, 256, 1073741823⟩ : Plan) with buckets := (IntKind.i64.wrap (((⟨1048576, 16, 1024, 64, 256, 1073741823⟩ : Plan).buckets) + 1)) }))) (n := 6) rfl h_b66 ta24 rfl) rfl fun fr r => ?_
                      refine seq_call r (c_plan_Plan_Formed w104 ({ (⟨1048576, 16, 1024, 64, 256, 1073741823⟩ : Plan) with buckets := (IntKind.i64.wrap (((⟨1048576, 16, 1024, 64, 256, 1073741823⟩ : Plan).buckets) + 1)) })) (fun R hc => y_call r rfl cl19 hc) rfl ?_
                      rintro _ w106 ⟨rfl, hb⟩
                      refine ⟨_, rfl, fun fr r => ?_⟩
                      have z_w106 := hb.size
                      have h_b3 := keep hb h_b3
                      have h_b66 := keep hb h_b66
                      have hB := hB.trans (hb.mono hB.size)
                      have zB := hB.size
                      refine seq_val (.bool (!(D.plan_Plan_Formed ({ (⟨1048576, 16, 1024, 64, 256, 1073741823⟩ : Plan) with buckets := (IntKind.i64.wrap (((⟨1048576, 16, 1024, 64, 256, 1073741823⟩ : Plan).buckets) + 1)) })))) r (fun R => y_un r (u := (.bool (D.plan_Plan_Formed ({ (⟨1048576, 16, 1024, 64, 256, 1073741823⟩ : Plan) with buckets := (IntKind.i64.wrap (((⟨1048576, 16, 1024, 64, 256, 1073741823⟩ : Plan).buckets) + 1)) })))) rfl rfl) rfl fun fr r => ?_
                      refine seq_val (.bool (!(D.plan_Plan_Formed ({ (⟨1048576, 16, 1024, 64, 256, 1073741823⟩ : Plan) with buckets := (IntKind.i64.wrap (((⟨1048576, 16, 1024, 64, 256, 1073741823⟩ : Plan).buckets) + 1)) })))) r (fun R => y_move r rfl) rfl fun fr r => ?_
                      refine seq_split (!(D.plan_Plan_Formed ({ (⟨1048576, 16, 1024, 64, 256, 1073741823⟩ : Plan) with buckets := (IntKind.i64.wrap (((⟨1048576, 16, 1024, 64, 256, 1073741823⟩ : Plan).buckets) + 1)) }))) (fun h107 => ?_) (fun h107 => ?_)
                      · skip
                        refine seq_want r rfl rfl rfl (congrArg Value.bool h107) ?_
                        refine seq_val (.agg (planC ({ (⟨1048576, 16, 1024, 64, 256, 1073741823⟩ : Plan) with buckets := (IntKind.i64.wrap (((⟨1048576, 16, 1024, 64, 256, 1073741823⟩ : Plan).buckets) + 1)) })).toArray) r (fun R => y_load_agg r (cs := (planC ({ (⟨1048576, 16, 1024, 64, 256, 1073741823⟩ : Plan) with buckets := (IntKind.i64.wrap (((⟨1048576, 16, 1024, 64, 256, 1073741823⟩ : Plan).buckets) + 1)) }))) (n := 6) rfl h_b66 ta24 rfl) rfl fun fr r => ?_
                        refine seq_want r rfl rfl rfl (congrArg Value.bool h107) ?_
                        refine seq_call r (c_plan_Plan_Size w106 ({ (⟨1048576, 16, 1024, 64, 256, 1073741823⟩ : Plan) with buckets := (IntKind.i64.wrap (((⟨1048576, 16, 1024, 64, 256, 1073741823⟩ : Plan).buckets) + 1)) })) (fun R hc => y_call r rfl cl21 hc) rfl ?_
                        rintro _ w108 ⟨rfl, hb⟩
                        refine ⟨_, rfl, fun fr r => ?_⟩
                        have z_w108 := hb.size
                        have h_b3 := keep hb h_b3
                        have h_b66 := keep hb h_b66
                        have hB := hB.trans (hb.mono hB.size)
                        have zB := hB.size
                        refine seq_want r rfl rfl rfl (congrArg Value.bool h107) ?_
                        refine seq_val (.bool ((D.plan_Plan_Size ({ (⟨1048576, 16, 1024, 64, 256, 1073741823⟩ : Plan) with buckets := (IntKind.i64.wrap (((⟨1048576, 16, 1024, 64, 256, 1073741823⟩ : Plan).buckets) + 1)) })) == 0)) r (fun R => y_bin r (u := (.int .i64 (D.plan_Plan_Size ({ (⟨1048576, 16, 1024, 64, 256, 1073741823⟩ : Plan) with buckets := (IntKind.i64.wrap (((⟨1048576, 16, 1024, 64, 256, 1073741823⟩ : Plan).buckets) + 1)) })))) (u' := (.int .i64 0)) rfl rfl rfl rfl) rfl fun fr r => ?_
                        refine seq_val (.bool ((D.plan_Plan_Size ({ (⟨1048576, 16, 1024, 64, 256, 1073741823⟩ : Plan) with buckets := (IntKind.i64.wrap (((⟨1048576, 16, 1024, 64, 256, 1073741823⟩ : Plan).buckets) + 1)) })) == 0)) r (fun R => y_pick r (b := true) (congrArg Value.bool h107) rfl) rfl fun fr r => ?_
                        refine seq_val (.bool ((D.plan_Plan_Size ({ (⟨1048576, 16, 1024, 64, 256, 1073741823⟩ : Plan) with buckets := (IntKind.i64.wrap (((⟨1048576, 16, 1024, 64, 256, 1073741823⟩ : Plan).buckets) + 1)) })) == 0)) r (fun R => y_move r rfl) rfl fun fr r => ?_
                        refine seq_split ((D.plan_Plan_Size ({ (⟨1048576, 16, 1024, 64, 256, 1073741823⟩ : Plan) with buckets := (IntKind.i64.wrap (((⟨1048576, 16, 1024, 64, 256, 1073741823⟩ : Plan).buckets) + 1)) })) == 0) (fun h109 => ?_) (fun h109 => ?_)
                        · skip
                          refine seq_want r rfl rfl rfl (congrArg Value.bool h109) ?_
                          refine seq_val (.agg (planC ({ (⟨1048576, 16, 1024, 64, 256, 1073741823⟩ : Plan) with buckets := (IntKind.i64.wrap (((⟨1048576, 16, 1024, 64, 256, 1073741823⟩ : Plan).buckets) + 1)) })).toArray) r (fun R => y_load_agg r (cs := (planC ({ (⟨1048576, 16, 1024, 64, 256, 1073741823⟩ : Plan) with buckets := (IntKind.i64.wrap (((⟨1048576, 16, 1024, 64, 256, 1073741823⟩ : Plan).buckets) + 1)) }))) (n := 6) rfl h_b66 ta24 rfl) rfl fun fr r => ?_
                          refine seq_want r rfl rfl rfl (congrArg Value.bool h109) ?_
                          refine seq_call r (c_plan_Plan_Head w108 ({ (⟨1048576, 16, 1024, 64, 256, 1073741823⟩ : Plan) with buckets := (IntKind.i64.wrap (((⟨1048576, 16, 1024, 64, 256, 1073741823⟩ : Plan).buckets) + 1)) })) (fun R hc => y_call r rfl cl22 hc) rfl ?_
                          rintro _ w110 ⟨rfl, hb⟩
                          refine ⟨_, rfl, fun fr r => ?_⟩
                          have z_w110 := hb.size
                          have h_b3 := keep hb h_b3
                          have h_b66 := keep hb h_b66
                          have hB := hB.trans (hb.mono hB.size)
                          have zB := hB.size
                          refine seq_want r rfl rfl rfl (congrArg Value.bool h109) ?_
                          refine seq_val (.bool ((D.plan_Plan_Head ({ (⟨1048576, 16, 1024, 64, 256, 1073741823⟩ : Plan) with buckets := (IntKind.i64.wrap (((⟨1048576, 16, 1024, 64, 256, 1073741823⟩ : Plan).buckets) + 1)) })) == (-1))) r (fun R => y_bin r (u := (.int .i64 (D.plan_Plan_Head ({ (⟨1048576, 16, 1024, 64, 256, 1073741823⟩ : Plan) with buckets := (IntKind.i64.wrap (((⟨1048576, 16, 1024, 64, 256, 1073741823⟩ : Plan).buckets) + 1)) })))) (u' := (.int .i64 (-1))) rfl rfl rfl rfl) rfl fun fr r => ?_
                          refine seq_val (.bool ((D.plan_Plan_Head ({ (⟨1048576, 16, 1024, 64, 256, 1073741823⟩ : Plan) with buckets := (IntKind.i64.wrap (((⟨1048576, 16, 1024, 64, 256, 1073741823⟩ : Plan).buckets) + 1)) })) == (-1))) r (fun R => y_pick r (b := true) (congrArg Value.bool h109) rfl) rfl fun fr r => ?_
                          refine seq_val (.bool ((D.plan_Plan_Head ({ (⟨1048576, 16, 1024, 64, 256, 1073741823⟩ : Plan) with buckets := (IntKind.i64.wrap (((⟨1048576, 16, 1024, 64, 256, 1073741823⟩ : Plan).buckets) + 1)) })) == (-1))) r (fun R => y_assign r rfl) rfl fun fr r => ?_
                          refine wpList_nil ?_
                          refine wp_ret ?_
                          have hd : D.cubiclelaw06_PlanGreat a0 = ((D.plan_Plan_Head ({ (⟨1048576, 16, 1024, 64, 256, 1073741823⟩ : Plan) with buckets := (IntKind.i64.wrap (((⟨1048576, 16, 1024, 64, 256, 1073741823⟩ : Plan).buckets) + 1)) })) == (-1)) := (cond_f h2).trans ((cond_f h8).trans ((cond_t h63).trans ((cond_f h65).trans ((cond_f h71).trans ((cond_f h79).trans ((cond_f h87).trans ((cond_f h95).trans ((cond_t h103).trans ((cond_t h107).trans ((cond_t h109).trans (rfl)))))))))))
                          refine ret_tmp r rfl (v := (.bool ((D.plan_Plan_Head ({ (⟨1048576, 16, 1024, 64, 256, 1073741823⟩ : Plan) with buckets := (IntKind.i64.wrap (((⟨1048576, 16, 1024, 64, 256, 1073741823⟩ : Plan).buckets) + 1)) })) == (-1)))) rfl ?_
                          rw [hd]
                          exact ⟨rfl, hB⟩
                        · skip
                          refine seq_skip r rfl rfl rfl (v := .bool false) (congrArg Value.bool h109) (by simp [boolOf]) fun fr r => ?_
                          refine seq_skip r rfl rfl rfl (v := .bool false) (congrArg Value.bool h109) (by simp [boolOf]) fun fr r => ?_
                          refine seq_skip r rfl rfl rfl (v := .bool false) (congrArg Value.bool h109) (by simp [boolOf]) fun fr r => ?_
                          refine seq_val (.bool false) r (fun R => y_pick r (b := false) (congrArg Value.bool h109) rfl) rfl fun fr r => ?_
                          refine seq_val (.bool false) r (fun R => y_assign r rfl) rfl fun fr r => ?_
                          refine wpList_nil ?_
                          refine wp_ret ?_
                          have hd : D.cubiclelaw06_PlanGreat a0 = false := (cond_f h2).trans ((cond_f h8).trans ((cond_t h63).trans ((cond_f h65).trans ((cond_f h71).trans ((cond_f h79).trans ((cond_f h87).trans ((cond_f h95).trans ((cond_t h103).trans ((cond_t h107).trans ((cond_f h109).trans (rfl)))))))))))
                          refine ret_tmp r rfl (v := (.bool false)) rfl ?_
                          rw [hd]
                          exact ⟨rfl, hB⟩
                      · skip
                        refine seq_skip r rfl rfl rfl (v := .bool false) (congrArg Value.bool h107) (by simp [boolOf]) fun fr r => ?_
                        refine seq_skip r rfl rfl rfl (v := .bool false) (congrArg Value.bool h107) (by simp [boolOf]) fun fr r => ?_
                        refine seq_skip r rfl rfl rfl (v := .bool false) (congrArg Value.bool h107) (by simp [boolOf]) fun fr r => ?_
                        refine seq_val (.bool false) r (fun R => y_pick r (b := false) (congrArg Value.bool h107) rfl) rfl fun fr r => ?_
                        refine seq_val (.bool false) r (fun R => y_move r rfl) rfl fun fr r => ?_
                        refine seq_skip r rfl rfl rfl (v := .bool false) (congrArg Value.bool (rfl : false = _)) (by simp [boolOf]) fun fr r => ?_
                        refine seq_skip r rfl rfl rfl (v := .bool false) (congrArg Value.bool (rfl : false = _)) (by simp [boolOf]) fun fr r => ?_
                        refine seq_skip r rfl rfl rfl (v := .bool false) (congrArg Value.bool (rfl : false = _)) (by simp [boolOf]) fun fr r => ?_
                        refine seq_val (.bool false) r (fun R => y_pick r (b := false) (congrArg Value.bool (rfl : false = _)) rfl) rfl fun fr r => ?_
                        refine seq_val (.bool false) r (fun R => y_assign r rfl) rfl fun fr r => ?_
                        refine wpList_nil ?_
                        refine wp_ret ?_
                        have hd : D.cubiclelaw06_PlanGreat a0 = false := (cond_f h2).trans ((cond_f h8).trans ((cond_t h63).trans ((cond_f h65).trans ((cond_f h71).trans ((cond_f h79).trans ((cond_f h87).trans ((cond_f h95).trans ((cond_t h103).trans ((cond_f h107).trans (rfl))))))))))
                        refine ret_tmp r rfl (v := (.bool false)) rfl ?_
                        rw [hd]
                        exact ⟨rfl, hB⟩
                    · skip
                      refine wp_region_lit ?_
                      refine seq_val (.pointer (some ⟨b66, 5, none⟩)) r (fun R => y_fieldAddr r (o := 0) rfl fo24_5) rfl fun fr r => ?_
                      refine seq_val (.int .i64 (⟨1048576, 16, 1024, 64, 256, 1073741823⟩ : Plan).gen) r (fun R => y_load_one r (v := (.int .i64 (⟨1048576, 16, 1024, 64, 256, 1073741823⟩ : Plan).gen)) rfl h_b66 to3 rfl) rfl fun fr r => ?_
                      refine seq_val (.int .i64 (IntKind.i64.wrap (((⟨1048576, 16, 1024, 64, 256, 1073741823⟩ : Plan).gen) + 1))) r (fun R => y_bin r (u := (.int .i64 (⟨1048576, 16, 1024, 64, 256, 1073741823⟩ : Plan).gen)) (u' := (.int .i64 1)) rfl rfl rfl rfl) rfl fun fr r => ?_
                      refine seq_val (.pointer (some ⟨b66, 5, none⟩)) r (fun R => y_fieldAddr r (o := 0) rfl fo24_5) rfl fun fr r => ?_
                      refine seq_upd (.cells ((planC ({ (⟨1048576, 16, 1024, 64, 256, 1073741823⟩ : Plan) with gen := (IntKind.i64.wrap (((⟨1048576, 16, 1024, 64, 256, 1073741823⟩ : Plan).gen) + 1)) }))).toArray 24 (0, 0)) r (fun R => y_store r (o := 5) (v := (.int .i64 (IntKind.i64.wrap (((⟨1048576, 16, 1024, 64, 256, 1073741823⟩ : Plan).gen) + 1)))) rfl rfl h_b66 ts3 (Nat.le_of_ble_eq_true rfl) rfl rfl) rfl fun fr w111 u112 r => ?_
                      have z_w111 := u112.size
                      have h_b3 := u112.keep h_b3 (by omega)
                      have h_b66 := u112.at_
                      have hB := u112.below hB (by omega)
                      have zB := hB.size
                      refine wpList_nil ?_
                      refine wp_seq ?_
                      refine wp_region_lit ?_
                      refine seq_val (.agg (planC ({ (⟨1048576, 16, 1024, 64, 256, 1073741823⟩ : Plan) with gen := (IntKind.i64.wrap (((⟨1048576, 16, 1024, 64, 256, 1073741823⟩ : Plan).gen) + 1)) })).toArray) r (fun R => y_load_agg r (cs := (planC ({ (⟨1048576, 16, 1024, 64, 256, 1073741823⟩ : Plan) with gen := (IntKind.i64.wrap (((⟨1048576, 16, 1024, 64, 256, 1073741823⟩ : Plan).gen) + 1)) }))) (n := 6) rfl h_b66 ta24 rfl) rfl fun fr r => ?_
                      refine seq_call r (c_plan_Plan_Formed w111 ({ (⟨1048576, 16, 1024, 64, 256, 1073741823⟩ : Plan) with gen := (IntKind.i64.wrap (((⟨1048576, 16, 1024, 64, 256, 1073741823⟩ : Plan).gen) + 1)) })) (fun R hc => y_call r rfl cl19 hc) rfl ?_
                      rintro _ w113 ⟨rfl, hb⟩
                      refine ⟨_, rfl, fun fr r => ?_⟩
                      have z_w113 := hb.size
                      have h_b3 := keep hb h_b3
                      have h_b66 := keep hb h_b66
                      have hB := hB.trans (hb.mono hB.size)
                      have zB := hB.size
                      refine seq_val (.bool (!(D.plan_Plan_Formed ({ (⟨1048576, 16, 1024, 64, 256, 1073741823⟩ : Plan) with gen := (IntKind.i64.wrap (((⟨1048576, 16, 1024, 64, 256, 1073741823⟩ : Plan).gen) + 1)) })))) r (fun R => y_un r (u := (.bool (D.plan_Plan_Formed ({ (⟨1048576, 16, 1024, 64, 256, 1073741823⟩ : Plan) with gen := (IntKind.i64.wrap (((⟨1048576, 16, 1024, 64, 256, 1073741823⟩ : Plan).gen) + 1)) })))) rfl rfl) rfl fun fr r => ?_
                      refine seq_val (.bool (!(D.plan_Plan_Formed ({ (⟨1048576, 16, 1024, 64, 256, 1073741823⟩ : Plan) with gen := (IntKind.i64.wrap (((⟨1048576, 16, 1024, 64, 256, 1073741823⟩ : Plan).gen) + 1)) })))) r (fun R => y_move r rfl) rfl fun fr r => ?_
                      refine seq_split (!(D.plan_Plan_Formed ({ (⟨1048576, 16, 1024, 64, 256, 1073741823⟩ : Plan) with gen := (IntKind.i64.wrap (((⟨1048576, 16, 1024, 64, 256, 1073741823⟩ : Plan).gen) + 1)) }))) (fun h114 => ?_) (fun h114 => ?_)
                      · skip
                        refine seq_want r rfl rfl rfl (congrArg Value.bool h114) ?_
                        refine seq_val (.agg (planC ({ (⟨1048576, 16, 1024, 64, 256, 1073741823⟩ : Plan) with gen := (IntKind.i64.wrap (((⟨1048576, 16, 1024, 64, 256, 1073741823⟩ : Plan).gen) + 1)) })).toArray) r (fun R => y_load_agg r (cs := (planC ({ (⟨1048576, 16, 1024, 64, 256, 1073741823⟩ : Plan) with gen := (IntKind.i64.wrap (((⟨1048576, 16, 1024, 64, 256, 1073741823⟩ : Plan).gen) + 1)) }))) (n := 6) rfl h_b66 ta24 rfl) rfl fun fr r => ?_
                        refine seq_want r rfl rfl rfl (congrArg Value.bool h114) ?_
                        refine seq_call r (c_plan_Plan_Size w113 ({ (⟨1048576, 16, 1024, 64, 256, 1073741823⟩ : Plan) with gen := (IntKind.i64.wrap (((⟨1048576, 16, 1024, 64, 256, 1073741823⟩ : Plan).gen) + 1)) })) (fun R hc => y_call r rfl cl21 hc) rfl ?_
                        rintro _ w115 ⟨rfl, hb⟩
                        refine ⟨_, rfl, fun fr r => ?_⟩
                        have z_w115 := hb.size
                        have h_b3 := keep hb h_b3
                        have h_b66 := keep hb h_b66
                        have hB := hB.trans (hb.mono hB.size)
                        have zB := hB.size
                        refine seq_want r rfl rfl rfl (congrArg Value.bool h114) ?_
                        refine seq_val (.bool ((D.plan_Plan_Size ({ (⟨1048576, 16, 1024, 64, 256, 1073741823⟩ : Plan) with gen := (IntKind.i64.wrap (((⟨1048576, 16, 1024, 64, 256, 1073741823⟩ : Plan).gen) + 1)) })) == 0)) r (fun R => y_bin r (u := (.int .i64 (D.plan_Plan_Size ({ (⟨1048576, 16, 1024, 64, 256, 1073741823⟩ : Plan) with gen := (IntKind.i64.wrap (((⟨1048576, 16, 1024, 64, 256, 1073741823⟩ : Plan).gen) + 1)) })))) (u' := (.int .i64 0)) rfl rfl rfl rfl) rfl fun fr r => ?_
                        refine seq_val (.bool ((D.plan_Plan_Size ({ (⟨1048576, 16, 1024, 64, 256, 1073741823⟩ : Plan) with gen := (IntKind.i64.wrap (((⟨1048576, 16, 1024, 64, 256, 1073741823⟩ : Plan).gen) + 1)) })) == 0)) r (fun R => y_pick r (b := true) (congrArg Value.bool h114) rfl) rfl fun fr r => ?_
                        refine seq_val (.bool ((D.plan_Plan_Size ({ (⟨1048576, 16, 1024, 64, 256, 1073741823⟩ : Plan) with gen := (IntKind.i64.wrap (((⟨1048576, 16, 1024, 64, 256, 1073741823⟩ : Plan).gen) + 1)) })) == 0)) r (fun R => y_move r rfl) rfl fun fr r => ?_
                        refine seq_split ((D.plan_Plan_Size ({ (⟨1048576, 16, 1024, 64, 256, 1073741823⟩ : Plan) with gen := (IntKind.i64.wrap (((⟨1048576, 16, 1024, 64, 256, 1073741823⟩ : Plan).gen) + 1)) })) == 0) (fun h116 => ?_) (fun h116 => ?_)
                        · skip
                          refine seq_want r rfl rfl rfl (congrArg Value.bool h116) ?_
                          refine seq_val (.agg (planC ({ (⟨1048576, 16, 1024, 64, 256, 1073741823⟩ : Plan) with gen := (IntKind.i64.wrap (((⟨1048576, 16, 1024, 64, 256, 1073741823⟩ : Plan).gen) + 1)) })).toArray) r (fun R => y_load_agg r (cs := (planC ({ (⟨1048576, 16, 1024, 64, 256, 1073741823⟩ : Plan) with gen := (IntKind.i64.wrap (((⟨1048576, 16, 1024, 64, 256, 1073741823⟩ : Plan).gen) + 1)) }))) (n := 6) rfl h_b66 ta24 rfl) rfl fun fr r => ?_
                          refine seq_want r rfl rfl rfl (congrArg Value.bool h116) ?_
                          refine seq_call r (c_plan_Plan_Head w115 ({ (⟨1048576, 16, 1024, 64, 256, 1073741823⟩ : Plan) with gen := (IntKind.i64.wrap (((⟨1048576, 16, 1024, 64, 256, 1073741823⟩ : Plan).gen) + 1)) })) (fun R hc => y_call r rfl cl22 hc) rfl ?_
                          rintro _ w117 ⟨rfl, hb⟩
                          refine ⟨_, rfl, fun fr r => ?_⟩
                          have z_w117 := hb.size
                          have h_b3 := keep hb h_b3
                          have h_b66 := keep hb h_b66
                          have hB := hB.trans (hb.mono hB.size)
                          have zB := hB.size
                          refine seq_want r rfl rfl rfl (congrArg Value.bool h116) ?_
                          refine seq_val (.bool ((D.plan_Plan_Head ({ (⟨1048576, 16, 1024, 64, 256, 1073741823⟩ : Plan) with gen := (IntKind.i64.wrap (((⟨1048576, 16, 1024, 64, 256, 1073741823⟩ : Plan).gen) + 1)) })) == (-1))) r (fun R => y_bin r (u := (.int .i64 (D.plan_Plan_Head ({ (⟨1048576, 16, 1024, 64, 256, 1073741823⟩ : Plan) with gen := (IntKind.i64.wrap (((⟨1048576, 16, 1024, 64, 256, 1073741823⟩ : Plan).gen) + 1)) })))) (u' := (.int .i64 (-1))) rfl rfl rfl rfl) rfl fun fr r => ?_
                          refine seq_val (.bool ((D.plan_Plan_Head ({ (⟨1048576, 16, 1024, 64, 256, 1073741823⟩ : Plan) with gen := (IntKind.i64.wrap (((⟨1048576, 16, 1024, 64, 256, 1073741823⟩ : Plan).gen) + 1)) })) == (-1))) r (fun R => y_pick r (b := true) (congrArg Value.bool h116) rfl) rfl fun fr r => ?_
                          refine seq_val (.bool ((D.plan_Plan_Head ({ (⟨1048576, 16, 1024, 64, 256, 1073741823⟩ : Plan) with gen := (IntKind.i64.wrap (((⟨1048576, 16, 1024, 64, 256, 1073741823⟩ : Plan).gen) + 1)) })) == (-1))) r (fun R => y_assign r rfl) rfl fun fr r => ?_
                          refine wpList_nil ?_
                          refine wp_ret ?_
                          have hd : D.cubiclelaw06_PlanGreat a0 = ((D.plan_Plan_Head ({ (⟨1048576, 16, 1024, 64, 256, 1073741823⟩ : Plan) with gen := (IntKind.i64.wrap (((⟨1048576, 16, 1024, 64, 256, 1073741823⟩ : Plan).gen) + 1)) })) == (-1)) := (cond_f h2).trans ((cond_f h8).trans ((cond_t h63).trans ((cond_f h65).trans ((cond_f h71).trans ((cond_f h79).trans ((cond_f h87).trans ((cond_f h95).trans ((cond_f h103).trans ((cond_t h114).trans ((cond_t h116).trans (rfl)))))))))))
                          refine ret_tmp r rfl (v := (.bool ((D.plan_Plan_Head ({ (⟨1048576, 16, 1024, 64, 256, 1073741823⟩ : Plan) with gen := (IntKind.i64.wrap (((⟨1048576, 16, 1024, 64, 256, 1073741823⟩ : Plan).gen) + 1)) })) == (-1)))) rfl ?_
                          rw [hd]
                          exact ⟨rfl, hB⟩
                        · skip
                          refine seq_skip r rfl rfl rfl (v := .bool false) (congrArg Value.bool h116) (by simp [boolOf]) fun fr r => ?_
                          refine seq_skip r rfl rfl rfl (v := .bool false) (congrArg Value.bool h116) (by simp [boolOf]) fun fr r => ?_
                          refine seq_skip r rfl rfl rfl (v := .bool false) (congrArg Value.bool h116) (by simp [boolOf]) fun fr r => ?_
                          refine seq_val (.bool false) r (fun R => y_pick r (b := false) (congrArg Value.bool h116) rfl) rfl fun fr r => ?_
                          refine seq_val (.bool false) r (fun R => y_assign r rfl) rfl fun fr r => ?_
                          refine wpList_nil ?_
                          refine wp_ret ?_
                          have hd : D.cubiclelaw06_PlanGreat a0 = false := (cond_f h2).trans ((cond_f h8).trans ((cond_t h63).trans ((cond_f h65).trans ((cond_f h71).trans ((cond_f h79).trans ((cond_f h87).trans ((cond_f h95).trans ((cond_f h103).trans ((cond_t h114).trans ((cond_f h116).trans (rfl)))))))))))
                          refine ret_tmp r rfl (v := (.bool false)) rfl ?_
                          rw [hd]
                          exact ⟨rfl, hB⟩
                      · skip
                        refine seq_skip r rfl rfl rfl (v := .bool false) (congrArg Value.bool h114) (by simp [boolOf]) fun fr r => ?_
                        refine seq_skip r rfl rfl rfl (v := .bool false) (congrArg Value.bool h114) (by simp [boolOf]) fun fr r => ?_
                        refine seq_skip r rfl rfl rfl (v := .bool false) (congrArg Value.bool h114) (by simp [boolOf]) fun fr r => ?_
                        refine seq_val (.bool false) r (fun R => y_pick r (b := false) (congrArg Value.bool h114) rfl) rfl fun fr r => ?_
                        refine seq_val (.bool false) r (fun R => y_move r rfl) rfl fun fr r => ?_
                        refine seq_skip r rfl rfl rfl (v := .bool false) (congrArg Value.bool (rfl : false = _)) (by simp [boolOf]) fun fr r => ?_
                        refine seq_skip r rfl rfl rfl (v := .bool false) (congrArg Value.bool (rfl : false = _)) (by simp [boolOf]) fun fr r => ?_
                        refine seq_skip r rfl rfl rfl (v := .bool false) (congrArg Value.bool (rfl : false = _)) (by simp [boolOf]) fun fr r => ?_
                        refine seq_val (.bool false) r (fun R => y_pick r (b := false) (congrArg Value.bool (rfl : false = _)) rfl) rfl fun fr r => ?_
                        refine seq_val (.bool false) r (fun R => y_assign r rfl) rfl fun fr r => ?_
                        refine wpList_nil ?_
                        refine wp_ret ?_
                        have hd : D.cubiclelaw06_PlanGreat a0 = false := (cond_f h2).trans ((cond_f h8).trans ((cond_t h63).trans ((cond_f h65).trans ((cond_f h71).trans ((cond_f h79).trans ((cond_f h87).trans ((cond_f h95).trans ((cond_f h103).trans ((cond_f h114).trans (rfl))))))))))
                        refine ret_tmp r rfl (v := (.bool false)) rfl ?_
                        rw [hd]
                        exact ⟨rfl, hB⟩
      · skip
        refine wp_drawnF 15 [.val (.agg (planC (⟨1048576, 16, 1024, 64, 256, 1073741823⟩ : Plan)).toArray), .val (.bool (D.plan_Plan_Formed (⟨1048576, 16, 1024, 64, 256, 1073741823⟩ : Plan))), .val (.bool (!(D.plan_Plan_Formed (⟨1048576, 16, 1024, 64, 256, 1073741823⟩ : Plan)))), .val (.bool (!(D.plan_Plan_Formed (⟨1048576, 16, 1024, 64, 256, 1073741823⟩ : Plan)))), .val (.agg (planC (⟨1048576, 16, 1024, 64, 256, 1073741823⟩ : Plan)).toArray), .val (.int .i64 (D.plan_Plan_Field (⟨1048576, 16, 1024, 64, 256, 1073741823⟩ : Plan) 1048575 2)), .val (.agg (planC (⟨1048576, 16, 1024, 64, 256, 1073741823⟩ : Plan)).toArray), .val (.int .i64 (D.plan_Plan_Size (⟨1048576, 16, 1024, 64, 256, 1073741823⟩ : Plan))), .val (.int .i64 (IntKind.i64.wrap ((D.plan_Plan_Size (⟨1048576, 16, 1024, 64, 256, 1073741823⟩ : Plan)) - 1))), .val (.bool ((D.plan_Plan_Field (⟨1048576, 16, 1024, 64, 256, 1073741823⟩ : Plan) 1048575 2) != (IntKind.i64.wrap ((D.plan_Plan_Size (⟨1048576, 16, 1024, 64, 256, 1073741823⟩ : Plan)) - 1)))), .val (.bool ((D.plan_Plan_Field (⟨1048576, 16, 1024, 64, 256, 1073741823⟩ : Plan) 1048575 2) != (IntKind.i64.wrap ((D.plan_Plan_Size (⟨1048576, 16, 1024, 64, 256, 1073741823⟩ : Plan)) - 1)))), .val (.bool ((D.plan_Plan_Field (⟨1048576, 16, 1024, 64, 256, 1073741823⟩ : Plan) 1048575 2) != (IntKind.i64.wrap ((D.plan_Plan_Size (⟨1048576, 16, 1024, 64, 256, 1073741823⟩ : Plan)) - 1)))), .val (.agg (planC (⟨1048576, 16, 1024, 64, 256, 1073741823⟩ : Plan)).toArray), .val (.int .i64 (D.plan_Plan_Field (⟨1048576, 16, 1024, 64, 256, 1073741823⟩ : Plan) 1048576 0)), .val (.bool ((D.plan_Plan_Field (⟨1048576, 16, 1024, 64, 256, 1073741823⟩ : Plan) 1048576 0) != (-1)))] mixed r (by kernel_rfl) ?_ ?_
        · skip
          refine each_consF r rfl (fun fr1 u w' hb' hd r' => ?_) ?_
          · exact y_load_agg r' (cs := (planC (⟨1048576, 16, 1024, 64, 256, 1073741823⟩ : Plan))) (n := 6) rfl (keep hb' h_b3) ta24 rfl ⟨Below.refl _ _, rfl⟩
          refine each_consF r rfl (fun fr1 u w' hb' hd r' => ?_) ?_
          · obtain ⟨d0, _⟩ := hd; exact y_call r' (args := [(.agg (planC (⟨1048576, 16, 1024, 64, 256, 1073741823⟩ : Plan)).toArray)]) (lc d0 l0) cl19 ((c_plan_Plan_Formed _ (⟨1048576, 16, 1024, 64, 256, 1073741823⟩ : Plan)).mono (by rintro _ w2 ⟨rfl, hb2⟩; exact ⟨_, rfl, hb2, rfl⟩))
          refine each_consF r rfl (fun fr1 u w' hb' hd r' => ?_) ?_
          · obtain ⟨d0, _⟩ := hd; exact y_un r' (u := (.bool (D.plan_Plan_Formed (⟨1048576, 16, 1024, 64, 256, 1073741823⟩ : Plan)))) (v := (.bool (!(D.plan_Plan_Formed (⟨1048576, 16, 1024, 64, 256, 1073741823⟩ : Plan))))) d0 rfl ⟨Below.refl _ _, rfl⟩
          refine each_consF r rfl (fun fr1 u w' hb' hd r' => ?_) ?_
          · obtain ⟨d0, d1, _⟩ := hd; exact y_move r' (v := (.bool (!(D.plan_Plan_Formed (⟨1048576, 16, 1024, 64, 256, 1073741823⟩ : Plan))))) d0 ⟨Below.refl _ _, rfl⟩
          refine each_consW false r rfl rfl rfl (fun u w' hd => by obtain ⟨d0, _⟩ := hd; exact Eq.trans (show u 3 = .bool (!(D.plan_Plan_Formed (⟨1048576, 16, 1024, 64, 256, 1073741823⟩ : Plan))) from d0) (congrArg Value.bool h8)) (fun fr1 u w' hb' hd r' => ?_) ?_
          · obtain ⟨d0, _⟩ := hd; exact y_load_agg r' (cs := (planC (⟨1048576, 16, 1024, 64, 256, 1073741823⟩ : Plan))) (n := 6) rfl (keep hb' h_b3) ta24 rfl ⟨Below.refl _ _, rfl⟩
          refine each_consW false r rfl rfl rfl (fun u w' hd => by obtain ⟨d0, d1, d2, _⟩ := hd; exact Eq.trans (show u 3 = .bool (!(D.plan_Plan_Formed (⟨1048576, 16, 1024, 64, 256, 1073741823⟩ : Plan))) from d1) (congrArg Value.bool h8)) (fun fr1 u w' hb' hd r' => ?_) ?_
          · obtain ⟨d0, d1, d2, _⟩ := hd; exact y_call r' (args := [(.agg (planC (⟨1048576, 16, 1024, 64, 256, 1073741823⟩ : Plan)).toArray), (.int .i64 1048575), (.int .i64 2)]) (lc d0 (lc rfl (lc rfl l0))) cl20 ((c_plan_Plan_Field _ (⟨1048576, 16, 1024, 64, 256, 1073741823⟩ : Plan) 1048575 2).mono (by rintro _ w2 ⟨rfl, hb2⟩; exact ⟨_, rfl, hb2, rfl⟩))
          refine each_consW false r rfl rfl rfl (fun u w' hd => by obtain ⟨d0, _⟩ := hd; exact Eq.trans (show u 3 = .bool (!(D.plan_Plan_Formed (⟨1048576, 16, 1024, 64, 256, 1073741823⟩ : Plan))) from d0) (congrArg Value.bool h8)) (fun fr1 u w' hb' hd r' => ?_) ?_
          · obtain ⟨d0, _⟩ := hd; exact y_load_agg r' (cs := (planC (⟨1048576, 16, 1024, 64, 256, 1073741823⟩ : Plan))) (n := 6) rfl (keep hb' h_b3) ta24 rfl ⟨Below.refl _ _, rfl⟩
          refine each_consW false r rfl rfl rfl (fun u w' hd => by obtain ⟨d0, d1, d2, _⟩ := hd; exact Eq.trans (show u 3 = .bool (!(D.plan_Plan_Formed (⟨1048576, 16, 1024, 64, 256, 1073741823⟩ : Plan))) from d2) (congrArg Value.bool h8)) (fun fr1 u w' hb' hd r' => ?_) ?_
          · obtain ⟨d0, d1, d2, _⟩ := hd; exact y_call r' (args := [(.agg (planC (⟨1048576, 16, 1024, 64, 256, 1073741823⟩ : Plan)).toArray)]) (lc d0 l0) cl21 ((c_plan_Plan_Size _ (⟨1048576, 16, 1024, 64, 256, 1073741823⟩ : Plan)).mono (by rintro _ w2 ⟨rfl, hb2⟩; exact ⟨_, rfl, hb2, rfl⟩))
          refine each_consW false r rfl rfl rfl (fun u w' hd => by obtain ⟨d0, d1, _⟩ := hd; exact Eq.trans (show u 3 = .bool (!(D.plan_Plan_Formed (⟨1048576, 16, 1024, 64, 256, 1073741823⟩ : Plan))) from d1) (congrArg Value.bool h8)) (fun fr1 u w' hb' hd r' => ?_) ?_
          · obtain ⟨d0, d1, _⟩ := hd; exact y_bin r' (u := (.int .i64 (D.plan_Plan_Size (⟨1048576, 16, 1024, 64, 256, 1073741823⟩ : Plan)))) (u' := (.int .i64 1)) (v := (.int .i64 (IntKind.i64.wrap ((D.plan_Plan_Size (⟨1048576, 16, 1024, 64, 256, 1073741823⟩ : Plan)) - 1)))) d0 rfl rfl rfl ⟨Below.refl _ _, rfl⟩
          refine each_consW false r rfl rfl rfl (fun u w' hd => by obtain ⟨d0, d1, d2, _⟩ := hd; exact Eq.trans (show u 3 = .bool (!(D.plan_Plan_Formed (⟨1048576, 16, 1024, 64, 256, 1073741823⟩ : Plan))) from d2) (congrArg Value.bool h8)) (fun fr1 u w' hb' hd r' => ?_) ?_
          · obtain ⟨d0, d1, d2, _⟩ := hd; exact y_bin r' (u := (.int .i64 (D.plan_Plan_Field (⟨1048576, 16, 1024, 64, 256, 1073741823⟩ : Plan) 1048575 2))) (u' := (.int .i64 (IntKind.i64.wrap ((D.plan_Plan_Size (⟨1048576, 16, 1024, 64, 256, 1073741823⟩ : Plan)) - 1)))) (v := (.bool ((D.plan_Plan_Field (⟨1048576, 16, 1024, 64, 256, 1073741823⟩ : Plan) 1048575 2) != (IntKind.i64.wrap ((D.plan_Plan_Size (⟨1048576, 16, 1024, 64, 256, 1073741823⟩ : Plan)) - 1))))) d0 d1 rfl rfl ⟨Below.refl _ _, rfl⟩
          refine each_consF r rfl (fun fr1 u w' hb' hd r' => ?_) ?_
          · obtain ⟨d0, d1, _⟩ := hd; exact y_pick r' (b := false) (v := (.bool ((D.plan_Plan_Field (⟨1048576, 16, 1024, 64, 256, 1073741823⟩ : Plan) 1048575 2) != (IntKind.i64.wrap ((D.plan_Plan_Size (⟨1048576, 16, 1024, 64, 256, 1073741823⟩ : Plan)) - 1))))) (Eq.trans (show u 3 = .bool (!(D.plan_Plan_Formed (⟨1048576, 16, 1024, 64, 256, 1073741823⟩ : Plan))) from d0) (congrArg Value.bool h8)) d1 ⟨Below.refl _ _, rfl⟩
          refine each_consF r rfl (fun fr1 u w' hb' hd r' => ?_) ?_
          · obtain ⟨d0, d1, _⟩ := hd; exact y_move r' (v := (.bool ((D.plan_Plan_Field (⟨1048576, 16, 1024, 64, 256, 1073741823⟩ : Plan) 1048575 2) != (IntKind.i64.wrap ((D.plan_Plan_Size (⟨1048576, 16, 1024, 64, 256, 1073741823⟩ : Plan)) - 1))))) d0 ⟨Below.refl _ _, rfl⟩
          refine each_consW false r rfl rfl rfl (fun u w' hd => by obtain ⟨d0, _⟩ := hd; exact Eq.trans (show u 11 = .bool ((D.plan_Plan_Field (⟨1048576, 16, 1024, 64, 256, 1073741823⟩ : Plan) 1048575 2) != (IntKind.i64.wrap ((D.plan_Plan_Size (⟨1048576, 16, 1024, 64, 256, 1073741823⟩ : Plan)) - 1))) from d0) (congrArg Value.bool h63)) (fun fr1 u w' hb' hd r' => ?_) ?_
          · obtain ⟨d0, _⟩ := hd; exact y_load_agg r' (cs := (planC (⟨1048576, 16, 1024, 64, 256, 1073741823⟩ : Plan))) (n := 6) rfl (keep hb' h_b3) ta24 rfl ⟨Below.refl _ _, rfl⟩
          refine each_consW false r rfl rfl rfl (fun u w' hd => by obtain ⟨d0, d1, d2, _⟩ := hd; exact Eq.trans (show u 11 = .bool ((D.plan_Plan_Field (⟨1048576, 16, 1024, 64, 256, 1073741823⟩ : Plan) 1048575 2) != (IntKind.i64.wrap ((D.plan_Plan_Size (⟨1048576, 16, 1024, 64, 256, 1073741823⟩ : Plan)) - 1))) from d1) (congrArg Value.bool h63)) (fun fr1 u w' hb' hd r' => ?_) ?_
          · obtain ⟨d0, d1, d2, _⟩ := hd; exact y_call r' (args := [(.agg (planC (⟨1048576, 16, 1024, 64, 256, 1073741823⟩ : Plan)).toArray), (.int .i64 1048576), (.int .i64 0)]) (lc d0 (lc rfl (lc rfl l0))) cl20 ((c_plan_Plan_Field _ (⟨1048576, 16, 1024, 64, 256, 1073741823⟩ : Plan) 1048576 0).mono (by rintro _ w2 ⟨rfl, hb2⟩; exact ⟨_, rfl, hb2, rfl⟩))
          refine each_consW false r rfl rfl rfl (fun u w' hd => by obtain ⟨d0, d1, _⟩ := hd; exact Eq.trans (show u 11 = .bool ((D.plan_Plan_Field (⟨1048576, 16, 1024, 64, 256, 1073741823⟩ : Plan) 1048575 2) != (IntKind.i64.wrap ((D.plan_Plan_Size (⟨1048576, 16, 1024, 64, 256, 1073741823⟩ : Plan)) - 1))) from d1) (congrArg Value.bool h63)) (fun fr1 u w' hb' hd r' => ?_) ?_
          · obtain ⟨d0, d1, _⟩ := hd; exact y_bin r' (u := (.int .i64 (D.plan_Plan_Field (⟨1048576, 16, 1024, 64, 256, 1073741823⟩ : Plan) 1048576 0))) (u' := (.int .i64 (-1))) (v := (.bool ((D.plan_Plan_Field (⟨1048576, 16, 1024, 64, 256, 1073741823⟩ : Plan) 1048576 0) != (-1)))) d0 rfl rfl rfl ⟨Below.refl _ _, rfl⟩
          exact each_nil
        · skip
          intro fr u w118 hb hΦ r
          have g0 : u 0 = (.agg (planC (⟨1048576, 16, 1024, 64, 256, 1073741823⟩ : Plan)).toArray) := hΦ 0 (by decide)
          have g1 : u 1 = (.bool (D.plan_Plan_Formed (⟨1048576, 16, 1024, 64, 256, 1073741823⟩ : Plan))) := hΦ 1 (by decide)
          have g2 : u 2 = (.bool (!(D.plan_Plan_Formed (⟨1048576, 16, 1024, 64, 256, 1073741823⟩ : Plan)))) := hΦ 2 (by decide)
          have g3 : u 3 = (.bool (!(D.plan_Plan_Formed (⟨1048576, 16, 1024, 64, 256, 1073741823⟩ : Plan)))) := hΦ 3 (by decide)
          have g4 : u 4 = (.agg (planC (⟨1048576, 16, 1024, 64, 256, 1073741823⟩ : Plan)).toArray) := hΦ 4 (by decide)
          have g5 : u 5 = (.int .i64 (D.plan_Plan_Field (⟨1048576, 16, 1024, 64, 256, 1073741823⟩ : Plan) 1048575 2)) := hΦ 5 (by decide)
          have g6 : u 6 = (.agg (planC (⟨1048576, 16, 1024, 64, 256, 1073741823⟩ : Plan)).toArray) := hΦ 6 (by decide)
          have g7 : u 7 = (.int .i64 (D.plan_Plan_Size (⟨1048576, 16, 1024, 64, 256, 1073741823⟩ : Plan))) := hΦ 7 (by decide)
          have g8 : u 8 = (.int .i64 (IntKind.i64.wrap ((D.plan_Plan_Size (⟨1048576, 16, 1024, 64, 256, 1073741823⟩ : Plan)) - 1))) := hΦ 8 (by decide)
          have g9 : u 9 = (.bool ((D.plan_Plan_Field (⟨1048576, 16, 1024, 64, 256, 1073741823⟩ : Plan) 1048575 2) != (IntKind.i64.wrap ((D.plan_Plan_Size (⟨1048576, 16, 1024, 64, 256, 1073741823⟩ : Plan)) - 1)))) := hΦ 9 (by decide)
          have g10 : u 10 = (.bool ((D.plan_Plan_Field (⟨1048576, 16, 1024, 64, 256, 1073741823⟩ : Plan) 1048575 2) != (IntKind.i64.wrap ((D.plan_Plan_Size (⟨1048576, 16, 1024, 64, 256, 1073741823⟩ : Plan)) - 1)))) := hΦ 10 (by decide)
          have g11 : u 11 = (.bool ((D.plan_Plan_Field (⟨1048576, 16, 1024, 64, 256, 1073741823⟩ : Plan) 1048575 2) != (IntKind.i64.wrap ((D.plan_Plan_Size (⟨1048576, 16, 1024, 64, 256, 1073741823⟩ : Plan)) - 1)))) := hΦ 11 (by decide)
          have g12 : u 12 = (.agg (planC (⟨1048576, 16, 1024, 64, 256, 1073741823⟩ : Plan)).toArray) := hΦ 12 (by decide)
          have g13 : u 13 = (.int .i64 (D.plan_Plan_Field (⟨1048576, 16, 1024, 64, 256, 1073741823⟩ : Plan) 1048576 0)) := hΦ 13 (by decide)
          have g14 : u 14 = (.bool ((D.plan_Plan_Field (⟨1048576, 16, 1024, 64, 256, 1073741823⟩ : Plan) 1048576 0) != (-1))) := hΦ 14 (by decide)
          have r := r.congr (sc g14 (sc g13 (sc g12 (sc g11 (sc g10 (sc g9 (sc g8 (sc g7 (sc g6 (sc g5 (sc g4 (sc g3 (sc g2 (sc g1 (sc g0 rfl)))))))))))))))
          have z_w118 := hb.size
          have h_b3 := keep hb h_b3
          have hB := hB.trans (hb.mono hB.size)
          have zB := hB.size
          refine seq_val (.bool ((D.plan_Plan_Field (⟨1048576, 16, 1024, 64, 256, 1073741823⟩ : Plan) 1048576 0) != (-1))) r (fun R => y_pick r (b := false) (congrArg Value.bool h63) rfl) rfl fun fr r => ?_
          refine wpList_nil ?_
          refine wp_cond_split (t := ((D.plan_Plan_Field (⟨1048576, 16, 1024, 64, 256, 1073741823⟩ : Plan) 1048576 0) != (-1))) (r.ev rfl) (fun h119 => ?_) (fun h119 => ?_)
          · skip
            refine wp_seq ?_
            refine wp_region_lit ?_
            refine seq_val (.bool false) r (fun R => y_assign r rfl) rfl fun fr r => ?_
            refine wpList_nil ?_
            refine wp_ret ?_
            have hd : D.cubiclelaw06_PlanGreat a0 = false := (cond_f h2).trans ((cond_f h8).trans ((cond_f h63).trans ((cond_t h119).trans (rfl))))
            refine ret_tmp r rfl (v := (.bool false)) rfl ?_
            rw [hd]
            exact ⟨rfl, hB⟩
          · skip
            refine wp_skip ?_
            refine wp_seq ?_
            refine wp_region_lit ?_
            refine seq_val (.agg (planC (⟨1048576, 16, 1024, 64, 256, 1073741823⟩ : Plan)).toArray) r (fun R => y_load_agg r (cs := (planC (⟨1048576, 16, 1024, 64, 256, 1073741823⟩ : Plan))) (n := 6) rfl h_b3 ta24 rfl) rfl fun fr r => ?_
            refine seq_new (.cells ((planC (⟨0, 0, 0, 0, 0, 0⟩ : Plan))).toArray 24 (0, 0)) r (fun R => y_alloc tz24) rfl fun fr b120 w121 n122 r => ?_
            have h_b3 := keep n122.below h_b3
            have e_b120 := n122.eq
            have z_w121 := n122.size
            have h_b120 := n122.at_
            have hB := hB.trans (n122.below.mono hB.size)
            have zB := hB.size
            refine seq_upd (.cells ((planC (⟨1048576, 16, 1024, 64, 256, 1073741823⟩ : Plan))).toArray 24 (0, 0)) r (fun R => y_store r (o := 0) (v := (.agg (planC (⟨1048576, 16, 1024, 64, 256, 1073741823⟩ : Plan)).toArray)) rfl rfl h_b120 ts24 (Nat.le_of_ble_eq_true rfl) rfl rfl) rfl fun fr w123 u124 r => ?_
            have z_w123 := u124.size
            have h_b3 := u124.keep h_b3 (by omega)
            have h_b120 := u124.at_
            have hB := u124.below hB (by omega)
            have zB := hB.size
            refine wpList_nil ?_
            refine wp_seq ?_
            refine wp_seq ?_
            refine wp_region_lit ?_
            refine seq_val (.int .u8 a0) r (fun R => y_move r rfl) rfl fun fr r => ?_
            refine seq_val (.int .u8 (a0.tmod 6)) r (fun R => y_bin r (u := (.int .u8 a0)) (u' := (.int .u8 6)) rfl rfl rfl rfl) rfl fun fr r => ?_
            refine wpList_nil ?_
            refine wp_block ?_
            refine wp_seq ?_
            refine wp_region_lit ?_
            refine seq_val (.bool ((a0.tmod 6) == 0)) r (fun R => y_bin r (u := (.int .u8 (a0.tmod 6))) (u' := (.int .u8 0)) rfl rfl rfl rfl) rfl fun fr r => ?_
            refine seq_val (.bool ((a0.tmod 6) == 0)) r (fun R => y_assign r rfl) rfl fun fr r => ?_
            refine wpList_nil ?_
            refine wp_cond_split (t := ((a0.tmod 6) == 0)) (r.ev rfl) (fun h125 => ?_) (fun h125 => ?_)
            · skip
              refine wp_region_lit ?_
              refine seq_val (.pointer (some ⟨b120, 0, none⟩)) r (fun R => y_fieldAddr r (o := 0) rfl fo24_0) rfl fun fr r => ?_
              refine seq_val (.int .i64 (⟨1048576, 16, 1024, 64, 256, 1073741823⟩ : Plan).nodes) r (fun R => y_load_one r (v := (.int .i64 (⟨1048576, 16, 1024, 64, 256, 1073741823⟩ : Plan).nodes)) rfl h_b120 to3 rfl) rfl fun fr r => ?_
              refine seq_val (.int .i64 (IntKind.i64.wrap (((⟨1048576, 16, 1024, 64, 256, 1073741823⟩ : Plan).nodes) + 1))) r (fun R => y_bin r (u := (.int .i64 (⟨1048576, 16, 1024, 64, 256, 1073741823⟩ : Plan).nodes)) (u' := (.int .i64 1)) rfl rfl rfl rfl) rfl fun fr r => ?_
              refine seq_val (.pointer (some ⟨b120, 0, none⟩)) r (fun R => y_fieldAddr r (o := 0) rfl fo24_0) rfl fun fr r => ?_
              refine seq_upd (.cells ((planC ({ (⟨1048576, 16, 1024, 64, 256, 1073741823⟩ : Plan) with nodes := (IntKind.i64.wrap (((⟨1048576, 16, 1024, 64, 256, 1073741823⟩ : Plan).nodes) + 1)) }))).toArray 24 (0, 0)) r (fun R => y_store r (o := 0) (v := (.int .i64 (IntKind.i64.wrap (((⟨1048576, 16, 1024, 64, 256, 1073741823⟩ : Plan).nodes) + 1)))) rfl rfl h_b120 ts3 (Nat.le_of_ble_eq_true rfl) rfl rfl) rfl fun fr w126 u127 r => ?_
              have z_w126 := u127.size
              have h_b3 := u127.keep h_b3 (by omega)
              have h_b120 := u127.at_
              have hB := u127.below hB (by omega)
              have zB := hB.size
              refine wpList_nil ?_
              refine wp_seq ?_
              refine wp_region_lit ?_
              refine seq_val (.agg (planC ({ (⟨1048576, 16, 1024, 64, 256, 1073741823⟩ : Plan) with nodes := (IntKind.i64.wrap (((⟨1048576, 16, 1024, 64, 256, 1073741823⟩ : Plan).nodes) + 1)) })).toArray) r (fun R => y_load_agg r (cs := (planC ({ (⟨1048576, 16, 1024, 64, 256, 1073741823⟩ : Plan) with nodes := (IntKind.i64.wrap (((⟨1048576, 16, 1024, 64, 256, 1073741823⟩ : Plan).nodes) + 1)) }))) (n := 6) rfl h_b120 ta24 rfl) rfl fun fr r => ?_
              refine seq_call r (c_plan_Plan_Formed w126 ({ (⟨1048576, 16, 1024, 64, 256, 1073741823⟩ : Plan) with nodes := (IntKind.i64.wrap (((⟨1048576, 16, 1024, 64, 256, 1073741823⟩ : Plan).nodes) + 1)) })) (fun R hc => y_call r rfl cl19 hc) rfl ?_
              rintro _ w128 ⟨rfl, hb⟩
              refine ⟨_, rfl, fun fr r => ?_⟩
              have z_w128 := hb.size
              have h_b3 := keep hb h_b3
              have h_b120 := keep hb h_b120
              have hB := hB.trans (hb.mono hB.size)
              have zB := hB.size
              refine seq_val (.bool (!(D.plan_Plan_Formed ({ (⟨1048576, 16, 1024, 64, 256, 1073741823⟩ : Plan) with nodes := (IntKind.i64.wrap (((⟨1048576, 16, 1024, 64, 256, 1073741823⟩ : Plan).nodes) + 1)) })))) r (fun R => y_un r (u := (.bool (D.plan_Plan_Formed ({ (⟨1048576, 16, 1024, 64, 256, 1073741823⟩ : Plan) with nodes := (IntKind.i64.wrap (((⟨1048576, 16, 1024, 64, 256, 1073741823⟩ : Plan).nodes) + 1)) })))) rfl rfl) rfl fun fr r => ?_
              refine seq_val (.bool (!(D.plan_Plan_Formed ({ (⟨1048576, 16, 1024, 64, 256, 1073741823⟩ : Plan) with nodes := (IntKind.i64.wrap (((⟨1048576, 16, 1024, 64, 256, 1073741823⟩ : Plan).nodes) + 1)) })))) r (fun R => y_move r rfl) rfl fun fr r => ?_
              refine seq_split (!(D.plan_Plan_Formed ({ (⟨1048576, 16, 1024, 64, 256, 1073741823⟩ : Plan) with nodes := (IntKind.i64.wrap (((⟨1048576, 16, 1024, 64, 256, 1073741823⟩ : Plan).nodes) + 1)) }))) (fun h129 => ?_) (fun h129 => ?_)
              · skip
                refine seq_want r rfl rfl rfl (congrArg Value.bool h129) ?_
                refine seq_val (.agg (planC ({ (⟨1048576, 16, 1024, 64, 256, 1073741823⟩ : Plan) with nodes := (IntKind.i64.wrap (((⟨1048576, 16, 1024, 64, 256, 1073741823⟩ : Plan).nodes) + 1)) })).toArray) r (fun R => y_load_agg r (cs := (planC ({ (⟨1048576, 16, 1024, 64, 256, 1073741823⟩ : Plan) with nodes := (IntKind.i64.wrap (((⟨1048576, 16, 1024, 64, 256, 1073741823⟩ : Plan).nodes) + 1)) }))) (n := 6) rfl h_b120 ta24 rfl) rfl fun fr r => ?_
                refine seq_want r rfl rfl rfl (congrArg Value.bool h129) ?_
                refine seq_call r (c_plan_Plan_Size w128 ({ (⟨1048576, 16, 1024, 64, 256, 1073741823⟩ : Plan) with nodes := (IntKind.i64.wrap (((⟨1048576, 16, 1024, 64, 256, 1073741823⟩ : Plan).nodes) + 1)) })) (fun R hc => y_call r rfl cl21 hc) rfl ?_
                rintro _ w130 ⟨rfl, hb⟩
                refine ⟨_, rfl, fun fr r => ?_⟩
                have z_w130 := hb.size
                have h_b3 := keep hb h_b3
                have h_b120 := keep hb h_b120
                have hB := hB.trans (hb.mono hB.size)
                have zB := hB.size
                refine seq_want r rfl rfl rfl (congrArg Value.bool h129) ?_
                refine seq_val (.bool ((D.plan_Plan_Size ({ (⟨1048576, 16, 1024, 64, 256, 1073741823⟩ : Plan) with nodes := (IntKind.i64.wrap (((⟨1048576, 16, 1024, 64, 256, 1073741823⟩ : Plan).nodes) + 1)) })) == 0)) r (fun R => y_bin r (u := (.int .i64 (D.plan_Plan_Size ({ (⟨1048576, 16, 1024, 64, 256, 1073741823⟩ : Plan) with nodes := (IntKind.i64.wrap (((⟨1048576, 16, 1024, 64, 256, 1073741823⟩ : Plan).nodes) + 1)) })))) (u' := (.int .i64 0)) rfl rfl rfl rfl) rfl fun fr r => ?_
                refine seq_val (.bool ((D.plan_Plan_Size ({ (⟨1048576, 16, 1024, 64, 256, 1073741823⟩ : Plan) with nodes := (IntKind.i64.wrap (((⟨1048576, 16, 1024, 64, 256, 1073741823⟩ : Plan).nodes) + 1)) })) == 0)) r (fun R => y_pick r (b := true) (congrArg Value.bool h129) rfl) rfl fun fr r => ?_
                refine seq_val (.bool ((D.plan_Plan_Size ({ (⟨1048576, 16, 1024, 64, 256, 1073741823⟩ : Plan) with nodes := (IntKind.i64.wrap (((⟨1048576, 16, 1024, 64, 256, 1073741823⟩ : Plan).nodes) + 1)) })) == 0)) r (fun R => y_move r rfl) rfl fun fr r => ?_
                refine seq_split ((D.plan_Plan_Size ({ (⟨1048576, 16, 1024, 64, 256, 1073741823⟩ : Plan) with nodes := (IntKind.i64.wrap (((⟨1048576, 16, 1024, 64, 256, 1073741823⟩ : Plan).nodes) + 1)) })) == 0) (fun h131 => ?_) (fun h131 => ?_)
                · skip
                  refine seq_want r rfl rfl rfl (congrArg Value.bool h131) ?_
                  refine seq_val (.agg (planC ({ (⟨1048576, 16, 1024, 64, 256, 1073741823⟩ : Plan) with nodes := (IntKind.i64.wrap (((⟨1048576, 16, 1024, 64, 256, 1073741823⟩ : Plan).nodes) + 1)) })).toArray) r (fun R => y_load_agg r (cs := (planC ({ (⟨1048576, 16, 1024, 64, 256, 1073741823⟩ : Plan) with nodes := (IntKind.i64.wrap (((⟨1048576, 16, 1024, 64, 256, 1073741823⟩ : Plan).nodes) + 1)) }))) (n := 6) rfl h_b120 ta24 rfl) rfl fun fr r => ?_
                  refine seq_want r rfl rfl rfl (congrArg Value.bool h131) ?_
                  refine seq_call r (c_plan_Plan_Head w130 ({ (⟨1048576, 16, 1024, 64, 256, 1073741823⟩ : Plan) with nodes := (IntKind.i64.wrap (((⟨1048576, 16, 1024, 64, 256, 1073741823⟩ : Plan).nodes) + 1)) })) (fun R hc => y_call r rfl cl22 hc) rfl ?_
                  rintro _ w132 ⟨rfl, hb⟩
                  refine ⟨_, rfl, fun fr r => ?_⟩
                  have z_w132 := hb.size
                  have h_b3 := keep hb h_b3
                  have h_b120 := keep hb h_b120
                  have hB := hB.trans (hb.mono hB.size)
                  have zB := hB.size
                  refine seq_want r rfl rfl rfl (congrArg Value.bool h131) ?_
                  refine seq_val (.bool ((D.plan_Plan_Head ({ (⟨1048576, 16, 1024, 64, 256, 1073741823⟩ : Plan) with nodes := (IntKind.i64.wrap (((⟨1048576, 16, 1024, 64, 256, 1073741823⟩ : Plan).nodes) + 1)) })) == (-1))) r (fun R => y_bin r (u := (.int .i64 (D.plan_Plan_Head ({ (⟨1048576, 16, 1024, 64, 256, 1073741823⟩ : Plan) with nodes := (IntKind.i64.wrap (((⟨1048576, 16, 1024, 64, 256, 1073741823⟩ : Plan).nodes) + 1)) })))) (u' := (.int .i64 (-1))) rfl rfl rfl rfl) rfl fun fr r => ?_
                  refine seq_val (.bool ((D.plan_Plan_Head ({ (⟨1048576, 16, 1024, 64, 256, 1073741823⟩ : Plan) with nodes := (IntKind.i64.wrap (((⟨1048576, 16, 1024, 64, 256, 1073741823⟩ : Plan).nodes) + 1)) })) == (-1))) r (fun R => y_pick r (b := true) (congrArg Value.bool h131) rfl) rfl fun fr r => ?_
                  refine seq_val (.bool ((D.plan_Plan_Head ({ (⟨1048576, 16, 1024, 64, 256, 1073741823⟩ : Plan) with nodes := (IntKind.i64.wrap (((⟨1048576, 16, 1024, 64, 256, 1073741823⟩ : Plan).nodes) + 1)) })) == (-1))) r (fun R => y_assign r rfl) rfl fun fr r => ?_
                  refine wpList_nil ?_
                  refine wp_ret ?_
                  have hd : D.cubiclelaw06_PlanGreat a0 = ((D.plan_Plan_Head ({ (⟨1048576, 16, 1024, 64, 256, 1073741823⟩ : Plan) with nodes := (IntKind.i64.wrap (((⟨1048576, 16, 1024, 64, 256, 1073741823⟩ : Plan).nodes) + 1)) })) == (-1)) := (cond_f h2).trans ((cond_f h8).trans ((cond_f h63).trans ((cond_f h119).trans ((cond_t h125).trans ((cond_t h129).trans ((cond_t h131).trans (rfl)))))))
                  refine ret_tmp r rfl (v := (.bool ((D.plan_Plan_Head ({ (⟨1048576, 16, 1024, 64, 256, 1073741823⟩ : Plan) with nodes := (IntKind.i64.wrap (((⟨1048576, 16, 1024, 64, 256, 1073741823⟩ : Plan).nodes) + 1)) })) == (-1)))) rfl ?_
                  rw [hd]
                  exact ⟨rfl, hB⟩
                · skip
                  refine seq_skip r rfl rfl rfl (v := .bool false) (congrArg Value.bool h131) (by simp [boolOf]) fun fr r => ?_
                  refine seq_skip r rfl rfl rfl (v := .bool false) (congrArg Value.bool h131) (by simp [boolOf]) fun fr r => ?_
                  refine seq_skip r rfl rfl rfl (v := .bool false) (congrArg Value.bool h131) (by simp [boolOf]) fun fr r => ?_
                  refine seq_val (.bool false) r (fun R => y_pick r (b := false) (congrArg Value.bool h131) rfl) rfl fun fr r => ?_
                  refine seq_val (.bool false) r (fun R => y_assign r rfl) rfl fun fr r => ?_
                  refine wpList_nil ?_
                  refine wp_ret ?_
                  have hd : D.cubiclelaw06_PlanGreat a0 = false := (cond_f h2).trans ((cond_f h8).trans ((cond_f h63).trans ((cond_f h119).trans ((cond_t h125).trans ((cond_t h129).trans ((cond_f h131).trans (rfl)))))))
                  refine ret_tmp r rfl (v := (.bool false)) rfl ?_
                  rw [hd]
                  exact ⟨rfl, hB⟩
              · skip
                refine seq_skip r rfl rfl rfl (v := .bool false) (congrArg Value.bool h129) (by simp [boolOf]) fun fr r => ?_
                refine seq_skip r rfl rfl rfl (v := .bool false) (congrArg Value.bool h129) (by simp [boolOf]) fun fr r => ?_
                refine seq_skip r rfl rfl rfl (v := .bool false) (congrArg Value.bool h129) (by simp [boolOf]) fun fr r => ?_
                refine seq_val (.bool false) r (fun R => y_pick r (b := false) (congrArg Value.bool h129) rfl) rfl fun fr r => ?_
                refine seq_val (.bool false) r (fun R => y_move r rfl) rfl fun fr r => ?_
                refine seq_skip r rfl rfl rfl (v := .bool false) (congrArg Value.bool (rfl : false = _)) (by simp [boolOf]) fun fr r => ?_
                refine seq_skip r rfl rfl rfl (v := .bool false) (congrArg Value.bool (rfl : false = _)) (by simp [boolOf]) fun fr r => ?_
                refine seq_skip r rfl rfl rfl (v := .bool false) (congrArg Value.bool (rfl : false = _)) (by simp [boolOf]) fun fr r => ?_
                refine seq_val (.bool false) r (fun R => y_pick r (b := false) (congrArg Value.bool (rfl : false = _)) rfl) rfl fun fr r => ?_
                refine seq_val (.bool false) r (fun R => y_assign r rfl) rfl fun fr r => ?_
                refine wpList_nil ?_
                refine wp_ret ?_
                have hd : D.cubiclelaw06_PlanGreat a0 = false := (cond_f h2).trans ((cond_f h8).trans ((cond_f h63).trans ((cond_f h119).trans ((cond_t h125).trans ((cond_f h129).trans (rfl))))))
                refine ret_tmp r rfl (v := (.bool false)) rfl ?_
                rw [hd]
                exact ⟨rfl, hB⟩
            · skip
              refine wp_seq ?_
              refine wp_region_lit ?_
              refine seq_val (.bool ((a0.tmod 6) == 1)) r (fun R => y_bin r (u := (.int .u8 (a0.tmod 6))) (u' := (.int .u8 1)) rfl rfl rfl rfl) rfl fun fr r => ?_
              refine seq_val (.bool ((a0.tmod 6) == 1)) r (fun R => y_assign r rfl) rfl fun fr r => ?_
              refine wpList_nil ?_
              refine wp_cond_split (t := ((a0.tmod 6) == 1)) (r.ev rfl) (fun h133 => ?_) (fun h133 => ?_)
              · skip
                refine wp_region_lit ?_
                refine seq_val (.pointer (some ⟨b120, 1, none⟩)) r (fun R => y_fieldAddr r (o := 0) rfl fo24_1) rfl fun fr r => ?_
                refine seq_val (.int .i64 (⟨1048576, 16, 1024, 64, 256, 1073741823⟩ : Plan).threads) r (fun R => y_load_one r (v := (.int .i64 (⟨1048576, 16, 1024, 64, 256, 1073741823⟩ : Plan).threads)) rfl h_b120 to3 rfl) rfl fun fr r => ?_
                refine seq_val (.int .i64 (IntKind.i64.wrap (((⟨1048576, 16, 1024, 64, 256, 1073741823⟩ : Plan).threads) + 1))) r (fun R => y_bin r (u := (.int .i64 (⟨1048576, 16, 1024, 64, 256, 1073741823⟩ : Plan).threads)) (u' := (.int .i64 1)) rfl rfl rfl rfl) rfl fun fr r => ?_
                refine seq_val (.pointer (some ⟨b120, 1, none⟩)) r (fun R => y_fieldAddr r (o := 0) rfl fo24_1) rfl fun fr r => ?_
                refine seq_upd (.cells ((planC ({ (⟨1048576, 16, 1024, 64, 256, 1073741823⟩ : Plan) with threads := (IntKind.i64.wrap (((⟨1048576, 16, 1024, 64, 256, 1073741823⟩ : Plan).threads) + 1)) }))).toArray 24 (0, 0)) r (fun R => y_store r (o := 1) (v := (.int .i64 (IntKind.i64.wrap (((⟨1048576, 16, 1024, 64, 256, 1073741823⟩ : Plan).threads) + 1)))) rfl rfl h_b120 ts3 (Nat.le_of_ble_eq_true rfl) rfl rfl) rfl fun fr w134 u135 r => ?_
                have z_w134 := u135.size
                have h_b3 := u135.keep h_b3 (by omega)
                have h_b120 := u135.at_
                have hB := u135.below hB (by omega)
                have zB := hB.size
                refine wpList_nil ?_
                refine wp_seq ?_
                refine wp_region_lit ?_
                refine seq_val (.agg (planC ({ (⟨1048576, 16, 1024, 64, 256, 1073741823⟩ : Plan) with threads := (IntKind.i64.wrap (((⟨1048576, 16, 1024, 64, 256, 1073741823⟩ : Plan).threads) + 1)) })).toArray) r (fun R => y_load_agg r (cs := (planC ({ (⟨1048576, 16, 1024, 64, 256, 1073741823⟩ : Plan) with threads := (IntKind.i64.wrap (((⟨1048576, 16, 1024, 64, 256, 1073741823⟩ : Plan).threads) + 1)) }))) (n := 6) rfl h_b120 ta24 rfl) rfl fun fr r => ?_
                refine seq_call r (c_plan_Plan_Formed w134 ({ (⟨1048576, 16, 1024, 64, 256, 1073741823⟩ : Plan) with threads := (IntKind.i64.wrap (((⟨1048576, 16, 1024, 64, 256, 1073741823⟩ : Plan).threads) + 1)) })) (fun R hc => y_call r rfl cl19 hc) rfl ?_
                rintro _ w136 ⟨rfl, hb⟩
                refine ⟨_, rfl, fun fr r => ?_⟩
                have z_w136 := hb.size
                have h_b3 := keep hb h_b3
                have h_b120 := keep hb h_b120
                have hB := hB.trans (hb.mono hB.size)
                have zB := hB.size
                refine seq_val (.bool (!(D.plan_Plan_Formed ({ (⟨1048576, 16, 1024, 64, 256, 1073741823⟩ : Plan) with threads := (IntKind.i64.wrap (((⟨1048576, 16, 1024, 64, 256, 1073741823⟩ : Plan).threads) + 1)) })))) r (fun R => y_un r (u := (.bool (D.plan_Plan_Formed ({ (⟨1048576, 16, 1024, 64, 256, 1073741823⟩ : Plan) with threads := (IntKind.i64.wrap (((⟨1048576, 16, 1024, 64, 256, 1073741823⟩ : Plan).threads) + 1)) })))) rfl rfl) rfl fun fr r => ?_
                refine seq_val (.bool (!(D.plan_Plan_Formed ({ (⟨1048576, 16, 1024, 64, 256, 1073741823⟩ : Plan) with threads := (IntKind.i64.wrap (((⟨1048576, 16, 1024, 64, 256, 1073741823⟩ : Plan).threads) + 1)) })))) r (fun R => y_move r rfl) rfl fun fr r => ?_
                refine seq_split (!(D.plan_Plan_Formed ({ (⟨1048576, 16, 1024, 64, 256, 1073741823⟩ : Plan) with threads := (IntKind.i64.wrap (((⟨1048576, 16, 1024, 64, 256, 1073741823⟩ : Plan).threads) + 1)) }))) (fun h137 => ?_) (fun h137 => ?_)
                · skip
                  refine seq_want r rfl rfl rfl (congrArg Value.bool h137) ?_
                  refine seq_val (.agg (planC ({ (⟨1048576, 16, 1024, 64, 256, 1073741823⟩ : Plan) with threads := (IntKind.i64.wrap (((⟨1048576, 16, 1024, 64, 256, 1073741823⟩ : Plan).threads) + 1)) })).toArray) r (fun R => y_load_agg r (cs := (planC ({ (⟨1048576, 16, 1024, 64, 256, 1073741823⟩ : Plan) with threads := (IntKind.i64.wrap (((⟨1048576, 16, 1024, 64, 256, 1073741823⟩ : Plan).threads) + 1)) }))) (n := 6) rfl h_b120 ta24 rfl) rfl fun fr r => ?_
                  refine seq_want r rfl rfl rfl (congrArg Value.bool h137) ?_
                  refine seq_call r (c_plan_Plan_Size w136 ({ (⟨1048576, 16, 1024, 64, 256, 1073741823⟩ : Plan) with threads := (IntKind.i64.wrap (((⟨1048576, 16, 1024, 64, 256, 1073741823⟩ : Plan).threads) + 1)) })) (fun R hc => y_call r rfl cl21 hc) rfl ?_
                  rintro _ w138 ⟨rfl, hb⟩
                  refine ⟨_, rfl, fun fr r => ?_⟩
                  have z_w138 := hb.size
                  have h_b3 := keep hb h_b3
                  have h_b120 := keep hb h_b120
                  have hB := hB.trans (hb.mono hB.size)
                  have zB := hB.size
                  refine seq_want r rfl rfl rfl (congrArg Value.bool h137) ?_
                  refine seq_val (.bool ((D.plan_Plan_Size ({ (⟨1048576, 16, 1024, 64, 256, 1073741823⟩ : Plan) with threads := (IntKind.i64.wrap (((⟨1048576, 16, 1024, 64, 256, 1073741823⟩ : Plan).threads) + 1)) })) == 0)) r (fun R => y_bin r (u := (.int .i64 (D.plan_Plan_Size ({ (⟨1048576, 16, 1024, 64, 256, 1073741823⟩ : Plan) with threads := (IntKind.i64.wrap (((⟨1048576, 16, 1024, 64, 256, 1073741823⟩ : Plan).threads) + 1)) })))) (u' := (.int .i64 0)) rfl rfl rfl rfl) rfl fun fr r => ?_
                  refine seq_val (.bool ((D.plan_Plan_Size ({ (⟨1048576, 16, 1024, 64, 256, 1073741823⟩ : Plan) with threads := (IntKind.i64.wrap (((⟨1048576, 16, 1024, 64, 256, 1073741823⟩ : Plan).threads) + 1)) })) == 0)) r (fun R => y_pick r (b := true) (congrArg Value.bool h137) rfl) rfl fun fr r => ?_
                  refine seq_val (.bool ((D.plan_Plan_Size ({ (⟨1048576, 16, 1024, 64, 256, 1073741823⟩ : Plan) with threads := (IntKind.i64.wrap (((⟨1048576, 16, 1024, 64, 256, 1073741823⟩ : Plan).threads) + 1)) })) == 0)) r (fun R => y_move r rfl) rfl fun fr r => ?_
                  refine seq_split ((D.plan_Plan_Size ({ (⟨1048576, 16, 1024, 64, 256, 1073741823⟩ : Plan) with threads := (IntKind.i64.wrap (((⟨1048576, 16, 1024, 64, 256, 1073741823⟩ : Plan).threads) + 1)) })) == 0) (fun h139 => ?_) (fun h139 => ?_)
                  · skip
                    refine seq_want r rfl rfl rfl (congrArg Value.bool h139) ?_
                    refine seq_val (.agg (planC ({ (⟨1048576, 16, 1024, 64, 256, 1073741823⟩ : Plan) with threads := (IntKind.i64.wrap (((⟨1048576, 16, 1024, 64, 256, 1073741823⟩ : Plan).threads) + 1)) })).toArray) r (fun R => y_load_agg r (cs := (planC ({ (⟨1048576, 16, 1024, 64, 256, 1073741823⟩ : Plan) with threads := (IntKind.i64.wrap (((⟨1048576, 16, 1024, 64, 256, 1073741823⟩ : Plan).threads) + 1)) }))) (n := 6) rfl h_b120 ta24 rfl) rfl fun fr r => ?_
                    refine seq_want r rfl rfl rfl (congrArg Value.bool h139) ?_
                    refine seq_call r (c_plan_Plan_Head w138 ({ (⟨1048576, 16, 1024, 64, 256, 1073741823⟩ : Plan) with threads := (IntKind.i64.wrap (((⟨1048576, 16, 1024, 64, 256, 1073741823⟩ : Plan).threads) + 1)) })) (fun R hc => y_call r rfl cl22 hc) rfl ?_
                    rintro _ w140 ⟨rfl, hb⟩
                    refine ⟨_, rfl, fun fr r => ?_⟩
                    have z_w140 := hb.size
                    have h_b3 := keep hb h_b3
                    have h_b120 := keep hb h_b120
                    have hB := hB.trans (hb.mono hB.size)
                    have zB := hB.size
                    refine seq_want r rfl rfl rfl (congrArg Value.bool h139) ?_
                    refine seq_val (.bool ((D.plan_Plan_Head ({ (⟨1048576, 16, 1024, 64, 256, 1073741823⟩ : Plan) with threads := (IntKind.i64.wrap (((⟨1048576, 16, 1024, 64, 256, 1073741823⟩ : Plan).threads) + 1)) })) == (-1))) r (fun R => y_bin r (u := (.int .i64 (D.plan_Plan_Head ({ (⟨1048576, 16, 1024, 64, 256, 1073741823⟩ : Plan) with threads := (IntKind.i64.wrap (((⟨1048576, 16, 1024, 64, 256, 1073741823⟩ : Plan).threads) + 1)) })))) (u' := (.int .i64 (-1))) rfl rfl rfl rfl) rfl fun fr r => ?_
                    refine seq_val (.bool ((D.plan_Plan_Head ({ (⟨1048576, 16, 1024, 64, 256, 1073741823⟩ : Plan) with threads := (IntKind.i64.wrap (((⟨1048576, 16, 1024, 64, 256, 1073741823⟩ : Plan).threads) + 1)) })) == (-1))) r (fun R => y_pick r (b := true) (congrArg Value.bool h139) rfl) rfl fun fr r => ?_
                    refine seq_val (.bool ((D.plan_Plan_Head ({ (⟨1048576, 16, 1024, 64, 256, 1073741823⟩ : Plan) with threads := (IntKind.i64.wrap (((⟨1048576, 16, 1024, 64, 256, 1073741823⟩ : Plan).threads) + 1)) })) == (-1))) r (fun R => y_assign r rfl) rfl fun fr r => ?_
                    refine wpList_nil ?_
                    refine wp_ret ?_
                    have hd : D.cubiclelaw06_PlanGreat a0 = ((D.plan_Plan_Head ({ (⟨1048576, 16, 1024, 64, 256, 1073741823⟩ : Plan) with threads := (IntKind.i64.wrap (((⟨1048576, 16, 1024, 64, 256, 1073741823⟩ : Plan).threads) + 1)) })) == (-1)) := (cond_f h2).trans ((cond_f h8).trans ((cond_f h63).trans ((cond_f h119).trans ((cond_f h125).trans ((cond_t h133).trans ((cond_t h137).trans ((cond_t h139).trans (rfl))))))))
                    refine ret_tmp r rfl (v := (.bool ((D.plan_Plan_Head ({ (⟨1048576, 16, 1024, 64, 256, 1073741823⟩ : Plan) with threads := (IntKind.i64.wrap (((⟨1048576, 16, 1024, 64, 256, 1073741823⟩ : Plan).threads) + 1)) })) == (-1)))) rfl ?_
                    rw [hd]
                    exact ⟨rfl, hB⟩
                  · skip
                    refine seq_skip r rfl rfl rfl (v := .bool false) (congrArg Value.bool h139) (by simp [boolOf]) fun fr r => ?_
                    refine seq_skip r rfl rfl rfl (v := .bool false) (congrArg Value.bool h139) (by simp [boolOf]) fun fr r => ?_
                    refine seq_skip r rfl rfl rfl (v := .bool false) (congrArg Value.bool h139) (by simp [boolOf]) fun fr r => ?_
                    refine seq_val (.bool false) r (fun R => y_pick r (b := false) (congrArg Value.bool h139) rfl) rfl fun fr r => ?_
                    refine seq_val (.bool false) r (fun R => y_assign r rfl) rfl fun fr r => ?_
                    refine wpList_nil ?_
                    refine wp_ret ?_
                    have hd : D.cubiclelaw06_PlanGreat a0 = false := (cond_f h2).trans ((cond_f h8).trans ((cond_f h63).trans ((cond_f h119).trans ((cond_f h125).trans ((cond_t h133).trans ((cond_t h137).trans ((cond_f h139).trans (rfl))))))))
                    refine ret_tmp r rfl (v := (.bool false)) rfl ?_
                    rw [hd]
                    exact ⟨rfl, hB⟩
                · skip
                  refine seq_skip r rfl rfl rfl (v := .bool false) (congrArg Value.bool h137) (by simp [boolOf]) fun fr r => ?_
                  refine seq_skip r rfl rfl rfl (v := .bool false) (congrArg Value.bool h137) (by simp [boolOf]) fun fr r => ?_
                  refine seq_skip r rfl rfl rfl (v := .bool false) (congrArg Value.bool h137) (by simp [boolOf]) fun fr r => ?_
                  refine seq_val (.bool false) r (fun R => y_pick r (b := false) (congrArg Value.bool h137) rfl) rfl fun fr r => ?_
                  refine seq_val (.bool false) r (fun R => y_move r rfl) rfl fun fr r => ?_
                  refine seq_skip r rfl rfl rfl (v := .bool false) (congrArg Value.bool (rfl : false = _)) (by simp [boolOf]) fun fr r => ?_
                  refine seq_skip r rfl rfl rfl (v := .bool false) (congrArg Value.bool (rfl : false = _)) (by simp [boolOf]) fun fr r => ?_
                  refine seq_skip r rfl rfl rfl (v := .bool false) (congrArg Value.bool (rfl : false = _)) (by simp [boolOf]) fun fr r => ?_
                  refine seq_val (.bool false) r (fun R => y_pick r (b := false) (congrArg Value.bool (rfl : false = _)) rfl) rfl fun fr r => ?_
                  refine seq_val (.bool false) r (fun R => y_assign r rfl) rfl fun fr r => ?_
                  refine wpList_nil ?_
                  refine wp_ret ?_
                  have hd : D.cubiclelaw06_PlanGreat a0 = false := (cond_f h2).trans ((cond_f h8).trans ((cond_f h63).trans ((cond_f h119).trans ((cond_f h125).trans ((cond_t h133).trans ((cond_f h137).trans (rfl)))))))
                  refine ret_tmp r rfl (v := (.bool false)) rfl ?_
                  rw [hd]
                  exact ⟨rfl, hB⟩
              · skip
                refine wp_seq ?_
                refine wp_region_lit ?_
                refine seq_val (.bool ((a0.tmod 6) == 2)) r (fun R => y_bin r (u := (.int .u8 (a0.tmod 6))) (u' := (.int .u8 2)) rfl rfl rfl rfl) rfl fun fr r => ?_
                refine seq_val (.bool ((a0.tmod 6) == 2)) r (fun R => y_assign r rfl) rfl fun fr r => ?_
                refine wpList_nil ?_
                refine wp_cond_split (t := ((a0.tmod 6) == 2)) (r.ev rfl) (fun h141 => ?_) (fun h141 => ?_)
                · skip
                  refine wp_region_lit ?_
                  refine seq_val (.pointer (some ⟨b120, 2, none⟩)) r (fun R => y_fieldAddr r (o := 0) rfl fo24_2) rfl fun fr r => ?_
                  refine seq_val (.int .i64 (⟨1048576, 16, 1024, 64, 256, 1073741823⟩ : Plan).retire) r (fun R => y_load_one r (v := (.int .i64 (⟨1048576, 16, 1024, 64, 256, 1073741823⟩ : Plan).retire)) rfl h_b120 to3 rfl) rfl fun fr r => ?_
                  refine seq_val (.int .i64 (IntKind.i64.wrap (((⟨1048576, 16, 1024, 64, 256, 1073741823⟩ : Plan).retire) + 1))) r (fun R => y_bin r (u := (.int .i64 (⟨1048576, 16, 1024, 64, 256, 1073741823⟩ : Plan).retire)) (u' := (.int .i64 1)) rfl rfl rfl rfl) rfl fun fr r => ?_
                  refine seq_val (.pointer (some ⟨b120, 2, none⟩)) r (fun R => y_fieldAddr r (o := 0) rfl fo24_2) rfl fun fr r => ?_
                  refine seq_upd (.cells ((planC ({ (⟨1048576, 16, 1024, 64, 256, 1073741823⟩ : Plan) with retire := (IntKind.i64.wrap (((⟨1048576, 16, 1024, 64, 256, 1073741823⟩ : Plan).retire) + 1)) }))).toArray 24 (0, 0)) r (fun R => y_store r (o := 2) (v := (.int .i64 (IntKind.i64.wrap (((⟨1048576, 16, 1024, 64, 256, 1073741823⟩ : Plan).retire) + 1)))) rfl rfl h_b120 ts3 (Nat.le_of_ble_eq_true rfl) rfl rfl) rfl fun fr w142 u143 r => ?_
                  have z_w142 := u143.size
                  have h_b3 := u143.keep h_b3 (by omega)
                  have h_b120 := u143.at_
                  have hB := u143.below hB (by omega)
                  have zB := hB.size
                  refine wpList_nil ?_
                  refine wp_seq ?_
                  refine wp_region_lit ?_
                  refine seq_val (.agg (planC ({ (⟨1048576, 16, 1024, 64, 256, 1073741823⟩ : Plan) with retire := (IntKind.i64.wrap (((⟨1048576, 16, 1024, 64, 256, 1073741823⟩ : Plan).retire) + 1)) })).toArray) r (fun R => y_load_agg r (cs := (planC ({ (⟨1048576, 16, 1024, 64, 256, 1073741823⟩ : Plan) with retire := (IntKind.i64.wrap (((⟨1048576, 16, 1024, 64, 256, 1073741823⟩ : Plan).retire) + 1)) }))) (n := 6) rfl h_b120 ta24 rfl) rfl fun fr r => ?_
                  refine seq_call r (c_plan_Plan_Formed w142 ({ (⟨1048576, 16, 1024, 64, 256, 1073741823⟩ : Plan) with retire := (IntKind.i64.wrap (((⟨1048576, 16, 1024, 64, 256, 1073741823⟩ : Plan).retire) + 1)) })) (fun R hc => y_call r rfl cl19 hc) rfl ?_
                  rintro _ w144 ⟨rfl, hb⟩
                  refine ⟨_, rfl, fun fr r => ?_⟩
                  have z_w144 := hb.size
                  have h_b3 := keep hb h_b3
                  have h_b120 := keep hb h_b120
                  have hB := hB.trans (hb.mono hB.size)
                  have zB := hB.size
                  refine seq_val (.bool (!(D.plan_Plan_Formed ({ (⟨1048576, 16, 1024, 64, 256, 1073741823⟩ : Plan) with retire := (IntKind.i64.wrap (((⟨1048576, 16, 1024, 64, 256, 1073741823⟩ : Plan).retire) + 1)) })))) r (fun R => y_un r (u := (.bool (D.plan_Plan_Formed ({ (⟨1048576, 16, 1024, 64, 256, 1073741823⟩ : Plan) with retire := (IntKind.i64.wrap (((⟨1048576, 16, 1024, 64, 256, 1073741823⟩ : Plan).retire) + 1)) })))) rfl rfl) rfl fun fr r => ?_
                  refine seq_val (.bool (!(D.plan_Plan_Formed ({ (⟨1048576, 16, 1024, 64, 256, 1073741823⟩ : Plan) with retire := (IntKind.i64.wrap (((⟨1048576, 16, 1024, 64, 256, 1073741823⟩ : Plan).retire) + 1)) })))) r (fun R => y_move r rfl) rfl fun fr r => ?_
                  refine seq_split (!(D.plan_Plan_Formed ({ (⟨1048576, 16, 1024, 64, 256, 1073741823⟩ : Plan) with retire := (IntKind.i64.wrap (((⟨1048576, 16, 1024, 64, 256, 1073741823⟩ : Plan).retire) + 1)) }))) (fun h145 => ?_) (fun h145 => ?_)
                  · skip
                    refine seq_want r rfl rfl rfl (congrArg Value.bool h145) ?_
                    refine seq_val (.agg (planC ({ (⟨1048576, 16, 1024, 64, 256, 1073741823⟩ : Plan) with retire := (IntKind.i64.wrap (((⟨1048576, 16, 1024, 64, 256, 1073741823⟩ : Plan).retire) + 1)) })).toArray) r (fun R => y_load_agg r (cs := (planC ({ (⟨1048576, 16, 1024, 64, 256, 1073741823⟩ : Plan) with retire := (IntKind.i64.wrap (((⟨1048576, 16, 1024, 64, 256, 1073741823⟩ : Plan).retire) + 1)) }))) (n := 6) rfl h_b120 ta24 rfl) rfl fun fr r => ?_
                    refine seq_want r rfl rfl rfl (congrArg Value.bool h145) ?_
                    refine seq_call r (c_plan_Plan_Size w144 ({ (⟨1048576, 16, 1024, 64, 256, 1073741823⟩ : Plan) with retire := (IntKind.i64.wrap (((⟨1048576, 16, 1024, 64, 256, 1073741823⟩ : Plan).retire) + 1)) })) (fun R hc => y_call r rfl cl21 hc) rfl ?_
                    rintro _ w146 ⟨rfl, hb⟩
                    refine ⟨_, rfl, fun fr r => ?_⟩
                    have z_w146 := hb.size
                    have h_b3 := keep hb h_b3
                    have h_b120 := keep hb h_b120
                    have hB := hB.trans (hb.mono hB.size)
                    have zB := hB.size
                    refine seq_want r rfl rfl rfl (congrArg Value.bool h145) ?_
                    refine seq_val (.bool ((D.plan_Plan_Size ({ (⟨1048576, 16, 1024, 64, 256, 1073741823⟩ : Plan) with retire := (IntKind.i64.wrap (((⟨1048576, 16, 1024, 64, 256, 1073741823⟩ : Plan).retire) + 1)) })) == 0)) r (fun R => y_bin r (u := (.int .i64 (D.plan_Plan_Size ({ (⟨1048576, 16, 1024, 64, 256, 1073741823⟩ : Plan) with retire := (IntKind.i64.wrap (((⟨1048576, 16, 1024, 64, 256, 1073741823⟩ : Plan).retire) + 1)) })))) (u' := (.int .i64 0)) rfl rfl rfl rfl) rfl fun fr r => ?_
                    refine seq_val (.bool ((D.plan_Plan_Size ({ (⟨1048576, 16, 1024, 64, 256, 1073741823⟩ : Plan) with retire := (IntKind.i64.wrap (((⟨1048576, 16, 1024, 64, 256, 1073741823⟩ : Plan).retire) + 1)) })) == 0)) r (fun R => y_pick r (b := true) (congrArg Value.bool h145) rfl) rfl fun fr r => ?_
                    refine seq_val (.bool ((D.plan_Plan_Size ({ (⟨1048576, 16, 1024, 64, 256, 1073741823⟩ : Plan) with retire := (IntKind.i64.wrap (((⟨1048576, 16, 1024, 64, 256, 1073741823⟩ : Plan).retire) + 1)) })) == 0)) r (fun R => y_move r rfl) rfl fun fr r => ?_
                    refine seq_split ((D.plan_Plan_Size ({ (⟨1048576, 16, 1024, 64, 256, 1073741823⟩ : Plan) with retire := (IntKind.i64.wrap (((⟨1048576, 16, 1024, 64, 256, 1073741823⟩ : Plan).retire) + 1)) })) == 0) (fun h147 => ?_) (fun h147 => ?_)
                    · skip
                      refine seq_want r rfl rfl rfl (congrArg Value.bool h147) ?_
                      refine seq_val (.agg (planC ({ (⟨1048576, 16, 1024, 64, 256, 1073741823⟩ : Plan) with retire := (IntKind.i64.wrap (((⟨1048576, 16, 1024, 64, 256, 1073741823⟩ : Plan).retire) + 1)) })).toArray) r (fun R => y_load_agg r (cs := (planC ({ (⟨1048576, 16, 1024, 64, 256, 1073741823⟩ : Plan) with retire := (IntKind.i64.wrap (((⟨1048576, 16, 1024, 64, 256, 1073741823⟩ : Plan).retire) + 1)) }))) (n := 6) rfl h_b120 ta24 rfl) rfl fun fr r => ?_
                      refine seq_want r rfl rfl rfl (congrArg Value.bool h147) ?_
                      refine seq_call r (c_plan_Plan_Head w146 ({ (⟨1048576, 16, 1024, 64, 256, 1073741823⟩ : Plan) with retire := (IntKind.i64.wrap (((⟨1048576, 16, 1024, 64, 256, 1073741823⟩ : Plan).retire) + 1)) })) (fun R hc => y_call r rfl cl22 hc) rfl ?_
                      rintro _ w148 ⟨rfl, hb⟩
                      refine ⟨_, rfl, fun fr r => ?_⟩
                      have z_w148 := hb.size
                      have h_b3 := keep hb h_b3
                      have h_b120 := keep hb h_b120
                      have hB := hB.trans (hb.mono hB.size)
                      have zB := hB.size
                      refine seq_want r rfl rfl rfl (congrArg Value.bool h147) ?_
                      refine seq_val (.bool ((D.plan_Plan_Head ({ (⟨1048576, 16, 1024, 64, 256, 1073741823⟩ : Plan) with retire := (IntKind.i64.wrap (((⟨1048576, 16, 1024, 64, 256, 1073741823⟩ : Plan).retire) + 1)) })) == (-1))) r (fun R => y_bin r (u := (.int .i64 (D.plan_Plan_Head ({ (⟨1048576, 16, 1024, 64, 256, 1073741823⟩ : Plan) with retire := (IntKind.i64.wrap (((⟨1048576, 16, 1024, 64, 256, 1073741823⟩ : Plan).retire) + 1)) })))) (u' := (.int .i64 (-1))) rfl rfl rfl rfl) rfl fun fr r => ?_
                      refine seq_val (.bool ((D.plan_Plan_Head ({ (⟨1048576, 16, 1024, 64, 256, 1073741823⟩ : Plan) with retire := (IntKind.i64.wrap (((⟨1048576, 16, 1024, 64, 256, 1073741823⟩ : Plan).retire) + 1)) })) == (-1))) r (fun R => y_pick r (b := true) (congrArg Value.bool h147) rfl) rfl fun fr r => ?_
                      refine seq_val (.bool ((D.plan_Plan_Head ({ (⟨1048576, 16, 1024, 64, 256, 1073741823⟩ : Plan) with retire := (IntKind.i64.wrap (((⟨1048576, 16, 1024, 64, 256, 1073741823⟩ : Plan).retire) + 1)) })) == (-1))) r (fun R => y_assign r rfl) rfl fun fr r => ?_
                      refine wpList_nil ?_
                      refine wp_ret ?_
                      have hd : D.cubiclelaw06_PlanGreat a0 = ((D.plan_Plan_Head ({ (⟨1048576, 16, 1024, 64, 256, 1073741823⟩ : Plan) with retire := (IntKind.i64.wrap (((⟨1048576, 16, 1024, 64, 256, 1073741823⟩ : Plan).retire) + 1)) })) == (-1)) := (cond_f h2).trans ((cond_f h8).trans ((cond_f h63).trans ((cond_f h119).trans ((cond_f h125).trans ((cond_f h133).trans ((cond_t h141).trans ((cond_t h145).trans ((cond_t h147).trans (rfl)))))))))
                      refine ret_tmp r rfl (v := (.bool ((D.plan_Plan_Head ({ (⟨1048576, 16, 1024, 64, 256, 1073741823⟩ : Plan) with retire := (IntKind.i64.wrap (((⟨1048576, 16, 1024, 64, 256, 1073741823⟩ : Plan).retire) + 1)) })) == (-1)))) rfl ?_
                      rw [hd]
                      exact ⟨rfl, hB⟩
                    · skip
                      refine seq_skip r rfl rfl rfl (v := .bool false) (congrArg Value.bool h147) (by simp [boolOf]) fun fr r => ?_
                      refine seq_skip r rfl rfl rfl (v := .bool false) (congrArg Value.bool h147) (by simp [boolOf]) fun fr r => ?_
                      refine seq_skip r rfl rfl rfl (v := .bool false) (congrArg Value.bool h147) (by simp [boolOf]) fun fr r => ?_
                      refine seq_val (.bool false) r (fun R => y_pick r (b := false) (congrArg Value.bool h147) rfl) rfl fun fr r => ?_
                      refine seq_val (.bool false) r (fun R => y_assign r rfl) rfl fun fr r => ?_
                      refine wpList_nil ?_
                      refine wp_ret ?_
                      have hd : D.cubiclelaw06_PlanGreat a0 = false := (cond_f h2).trans ((cond_f h8).trans ((cond_f h63).trans ((cond_f h119).trans ((cond_f h125).trans ((cond_f h133).trans ((cond_t h141).trans ((cond_t h145).trans ((cond_f h147).trans (rfl)))))))))
                      refine ret_tmp r rfl (v := (.bool false)) rfl ?_
                      rw [hd]
                      exact ⟨rfl, hB⟩
                  · skip
                    refine seq_skip r rfl rfl rfl (v := .bool false) (congrArg Value.bool h145) (by simp [boolOf]) fun fr r => ?_
                    refine seq_skip r rfl rfl rfl (v := .bool false) (congrArg Value.bool h145) (by simp [boolOf]) fun fr r => ?_
                    refine seq_skip r rfl rfl rfl (v := .bool false) (congrArg Value.bool h145) (by simp [boolOf]) fun fr r => ?_
                    refine seq_val (.bool false) r (fun R => y_pick r (b := false) (congrArg Value.bool h145) rfl) rfl fun fr r => ?_
                    refine seq_val (.bool false) r (fun R => y_move r rfl) rfl fun fr r => ?_
                    refine seq_skip r rfl rfl rfl (v := .bool false) (congrArg Value.bool (rfl : false = _)) (by simp [boolOf]) fun fr r => ?_
                    refine seq_skip r rfl rfl rfl (v := .bool false) (congrArg Value.bool (rfl : false = _)) (by simp [boolOf]) fun fr r => ?_
                    refine seq_skip r rfl rfl rfl (v := .bool false) (congrArg Value.bool (rfl : false = _)) (by simp [boolOf]) fun fr r => ?_
                    refine seq_val (.bool false) r (fun R => y_pick r (b := false) (congrArg Value.bool (rfl : false = _)) rfl) rfl fun fr r => ?_
                    refine seq_val (.bool false) r (fun R => y_assign r rfl) rfl fun fr r => ?_
                    refine wpList_nil ?_
                    refine wp_ret ?_
                    have hd : D.cubiclelaw06_PlanGreat a0 = false := (cond_f h2).trans ((cond_f h8).trans ((cond_f h63).trans ((cond_f h119).trans ((cond_f h125).trans ((cond_f h133).trans ((cond_t h141).trans ((cond_f h145).trans (rfl))))))))
                    refine ret_tmp r rfl (v := (.bool false)) rfl ?_
                    rw [hd]
                    exact ⟨rfl, hB⟩
                · skip
                  refine wp_seq ?_
                  refine wp_region_lit ?_
                  refine seq_val (.bool ((a0.tmod 6) == 3)) r (fun R => y_bin r (u := (.int .u8 (a0.tmod 6))) (u' := (.int .u8 3)) rfl rfl rfl rfl) rfl fun fr r => ?_
                  refine seq_val (.bool ((a0.tmod 6) == 3)) r (fun R => y_assign r rfl) rfl fun fr r => ?_
                  refine wpList_nil ?_
                  refine wp_cond_split (t := ((a0.tmod 6) == 3)) (r.ev rfl) (fun h149 => ?_) (fun h149 => ?_)
                  · skip
                    refine wp_region_lit ?_
                    refine seq_val (.pointer (some ⟨b120, 3, none⟩)) r (fun R => y_fieldAddr r (o := 0) rfl fo24_3) rfl fun fr r => ?_
                    refine seq_val (.int .i64 (⟨1048576, 16, 1024, 64, 256, 1073741823⟩ : Plan).domains) r (fun R => y_load_one r (v := (.int .i64 (⟨1048576, 16, 1024, 64, 256, 1073741823⟩ : Plan).domains)) rfl h_b120 to3 rfl) rfl fun fr r => ?_
                    refine seq_val (.int .i64 (IntKind.i64.wrap (((⟨1048576, 16, 1024, 64, 256, 1073741823⟩ : Plan).domains) + 1))) r (fun R => y_bin r (u := (.int .i64 (⟨1048576, 16, 1024, 64, 256, 1073741823⟩ : Plan).domains)) (u' := (.int .i64 1)) rfl rfl rfl rfl) rfl fun fr r => ?_
                    refine seq_val (.pointer (some ⟨b120, 3, none⟩)) r (fun R => y_fieldAddr r (o := 0) rfl fo24_3) rfl fun fr r => ?_
                    refine seq_upd (.cells ((planC ({ (⟨1048576, 16, 1024, 64, 256, 1073741823⟩ : Plan) with domains := (IntKind.i64.wrap (((⟨1048576, 16, 1024, 64, 256, 1073741823⟩ : Plan).domains) + 1)) }))).toArray 24 (0, 0)) r (fun R => y_store r (o := 3) (v := (.int .i64 (IntKind.i64.wrap (((⟨1048576, 16, 1024, 64, 256, 1073741823⟩ : Plan).domains) + 1)))) rfl rfl h_b120 ts3 (Nat.le_of_ble_eq_true rfl) rfl rfl) rfl fun fr w150 u151 r => ?_
                    have z_w150 := u151.size
                    have h_b3 := u151.keep h_b3 (by omega)
                    have h_b120 := u151.at_
                    have hB := u151.below hB (by omega)
                    have zB := hB.size
                    refine wpList_nil ?_
                    refine wp_seq ?_
                    refine wp_region_lit ?_
                    refine seq_val (.agg (planC ({ (⟨1048576, 16, 1024, 64, 256, 1073741823⟩ : Plan) with domains := (IntKind.i64.wrap (((⟨1048576, 16, 1024, 64, 256, 1073741823⟩ : Plan).domains) + 1)) })).toArray) r (fun R => y_load_agg r (cs := (planC ({ (⟨1048576, 16, 1024, 64, 256, 1073741823⟩ : Plan) with domains := (IntKind.i64.wrap (((⟨1048576, 16, 1024, 64, 256, 1073741823⟩ : Plan).domains) + 1)) }))) (n := 6) rfl h_b120 ta24 rfl) rfl fun fr r => ?_
                    refine seq_call r (c_plan_Plan_Formed w150 ({ (⟨1048576, 16, 1024, 64, 256, 1073741823⟩ : Plan) with domains := (IntKind.i64.wrap (((⟨1048576, 16, 1024, 64, 256, 1073741823⟩ : Plan).domains) + 1)) })) (fun R hc => y_call r rfl cl19 hc) rfl ?_
                    rintro _ w152 ⟨rfl, hb⟩
                    refine ⟨_, rfl, fun fr r => ?_⟩
                    have z_w152 := hb.size
                    have h_b3 := keep hb h_b3
                    have h_b120 := keep hb h_b120
                    have hB := hB.trans (hb.mono hB.size)
                    have zB := hB.size
                    refine seq_val (.bool (!(D.plan_Plan_Formed ({ (⟨1048576, 16, 1024, 64, 256, 1073741823⟩ : Plan) with domains := (IntKind.i64.wrap (((⟨1048576, 16, 1024, 64, 256, 1073741823⟩ : Plan).domains) + 1)) })))) r (fun R => y_un r (u := (.bool (D.plan_Plan_Formed ({ (⟨1048576, 16, 1024, 64, 256, 1073741823⟩ : Plan) with domains := (IntKind.i64.wrap (((⟨1048576, 16, 1024, 64, 256, 1073741823⟩ : Plan).domains) + 1)) })))) rfl rfl) rfl fun fr r => ?_
                    refine seq_val (.bool (!(D.plan_Plan_Formed ({ (⟨1048576, 16, 1024, 64, 256, 1073741823⟩ : Plan) with domains := (IntKind.i64.wrap (((⟨1048576, 16, 1024, 64, 256, 1073741823⟩ : Plan).domains) + 1)) })))) r (fun R => y_move r rfl) rfl fun fr r => ?_
                    refine seq_split (!(D.plan_Plan_Formed ({ (⟨1048576, 16, 1024, 64, 256, 1073741823⟩ : Plan) with domains := (IntKind.i64.wrap (((⟨1048576, 16, 1024, 64, 256, 1073741823⟩ : Plan).domains) + 1)) }))) (fun h153 => ?_) (fun h153 => ?_)
                    · skip
                      refine seq_want r rfl rfl rfl (congrArg Value.bool h153) ?_
                      refine seq_val (.agg (planC ({ (⟨1048576, 16, 1024, 64, 256, 1073741823⟩ : Plan) with domains := (IntKind.i64.wrap (((⟨1048576, 16, 1024, 64, 256, 1073741823⟩ : Plan).domains) + 1)) })).toArray) r (fun R => y_load_agg r (cs := (planC ({ (⟨1048576, 16, 1024, 64, 256, 1073741823⟩ : Plan) with domains := (IntKind.i64.wrap (((⟨1048576, 16, 1024, 64, 256, 1073741823⟩ : Plan).domains) + 1)) }))) (n := 6) rfl h_b120 ta24 rfl) rfl fun fr r => ?_
                      refine seq_want r rfl rfl rfl (congrArg Value.bool h153) ?_
                      refine seq_call r (c_plan_Plan_Size w152 ({ (⟨1048576, 16, 1024, 64, 256, 1073741823⟩ : Plan) with domains := (IntKind.i64.wrap (((⟨1048576, 16, 1024, 64, 256, 1073741823⟩ : Plan).domains) + 1)) })) (fun R hc => y_call r rfl cl21 hc) rfl ?_
                      rintro _ w154 ⟨rfl, hb⟩
                      refine ⟨_, rfl, fun fr r => ?_⟩
                      have z_w154 := hb.size
                      have h_b3 := keep hb h_b3
                      have h_b120 := keep hb h_b120
                      have hB := hB.trans (hb.mono hB.size)
                      have zB := hB.size
                      refine seq_want r rfl rfl rfl (congrArg Value.bool h153) ?_
                      refine seq_val (.bool ((D.plan_Plan_Size ({ (⟨1048576, 16, 1024, 64, 256, 1073741823⟩ : Plan) with domains := (IntKind.i64.wrap (((⟨1048576, 16, 1024, 64, 256, 1073741823⟩ : Plan).domains) + 1)) })) == 0)) r (fun R => y_bin r (u := (.int .i64 (D.plan_Plan_Size ({ (⟨1048576, 16, 1024, 64, 256, 1073741823⟩ : Plan) with domains := (IntKind.i64.wrap (((⟨1048576, 16, 1024, 64, 256, 1073741823⟩ : Plan).domains) + 1)) })))) (u' := (.int .i64 0)) rfl rfl rfl rfl) rfl fun fr r => ?_
                      refine seq_val (.bool ((D.plan_Plan_Size ({ (⟨1048576, 16, 1024, 64, 256, 1073741823⟩ : Plan) with domains := (IntKind.i64.wrap (((⟨1048576, 16, 1024, 64, 256, 1073741823⟩ : Plan).domains) + 1)) })) == 0)) r (fun R => y_pick r (b := true) (congrArg Value.bool h153) rfl) rfl fun fr r => ?_
                      refine seq_val (.bool ((D.plan_Plan_Size ({ (⟨1048576, 16, 1024, 64, 256, 1073741823⟩ : Plan) with domains := (IntKind.i64.wrap (((⟨1048576, 16, 1024, 64, 256, 1073741823⟩ : Plan).domains) + 1)) })) == 0)) r (fun R => y_move r rfl) rfl fun fr r => ?_
                      refine seq_split ((D.plan_Plan_Size ({ (⟨1048576, 16, 1024, 64, 256, 1073741823⟩ : Plan) with domains := (IntKind.i64.wrap (((⟨1048576, 16, 1024, 64, 256, 1073741823⟩ : Plan).domains) + 1)) })) == 0) (fun h155 => ?_) (fun h155 => ?_)
                      · skip
                        refine seq_want r rfl rfl rfl (congrArg Value.bool h155) ?_
                        refine seq_val (.agg (planC ({ (⟨1048576, 16, 1024, 64, 256, 1073741823⟩ : Plan) with domains := (IntKind.i64.wrap (((⟨1048576, 16, 1024, 64, 256, 1073741823⟩ : Plan).domains) + 1)) })).toArray) r (fun R => y_load_agg r (cs := (planC ({ (⟨1048576, 16, 1024, 64, 256, 1073741823⟩ : Plan) with domains := (IntKind.i64.wrap (((⟨1048576, 16, 1024, 64, 256, 1073741823⟩ : Plan).domains) + 1)) }))) (n := 6) rfl h_b120 ta24 rfl) rfl fun fr r => ?_
                        refine seq_want r rfl rfl rfl (congrArg Value.bool h155) ?_
                        refine seq_call r (c_plan_Plan_Head w154 ({ (⟨1048576, 16, 1024, 64, 256, 1073741823⟩ : Plan) with domains := (IntKind.i64.wrap (((⟨1048576, 16, 1024, 64, 256, 1073741823⟩ : Plan).domains) + 1)) })) (fun R hc => y_call r rfl cl22 hc) rfl ?_
                        rintro _ w156 ⟨rfl, hb⟩
                        refine ⟨_, rfl, fun fr r => ?_⟩
                        have z_w156 := hb.size
                        have h_b3 := keep hb h_b3
                        have h_b120 := keep hb h_b120
                        have hB := hB.trans (hb.mono hB.size)
                        have zB := hB.size
                        refine seq_want r rfl rfl rfl (congrArg Value.bool h155) ?_
                        refine seq_val (.bool ((D.plan_Plan_Head ({ (⟨1048576, 16, 1024, 64, 256, 1073741823⟩ : Plan) with domains := (IntKind.i64.wrap (((⟨1048576, 16, 1024, 64, 256, 1073741823⟩ : Plan).domains) + 1)) })) == (-1))) r (fun R => y_bin r (u := (.int .i64 (D.plan_Plan_Head ({ (⟨1048576, 16, 1024, 64, 256, 1073741823⟩ : Plan) with domains := (IntKind.i64.wrap (((⟨1048576, 16, 1024, 64, 256, 1073741823⟩ : Plan).domains) + 1)) })))) (u' := (.int .i64 (-1))) rfl rfl rfl rfl) rfl fun fr r => ?_
                        refine seq_val (.bool ((D.plan_Plan_Head ({ (⟨1048576, 16, 1024, 64, 256, 1073741823⟩ : Plan) with domains := (IntKind.i64.wrap (((⟨1048576, 16, 1024, 64, 256, 1073741823⟩ : Plan).domains) + 1)) })) == (-1))) r (fun R => y_pick r (b := true) (congrArg Value.bool h155) rfl) rfl fun fr r => ?_
                        refine seq_val (.bool ((D.plan_Plan_Head ({ (⟨1048576, 16, 1024, 64, 256, 1073741823⟩ : Plan) with domains := (IntKind.i64.wrap (((⟨1048576, 16, 1024, 64, 256, 1073741823⟩ : Plan).domains) + 1)) })) == (-1))) r (fun R => y_assign r rfl) rfl fun fr r => ?_
                        refine wpList_nil ?_
                        refine wp_ret ?_
                        have hd : D.cubiclelaw06_PlanGreat a0 = ((D.plan_Plan_Head ({ (⟨1048576, 16, 1024, 64, 256, 1073741823⟩ : Plan) with domains := (IntKind.i64.wrap (((⟨1048576, 16, 1024, 64, 256, 1073741823⟩ : Plan).domains) + 1)) })) == (-1)) := (cond_f h2).trans ((cond_f h8).trans ((cond_f h63).trans ((cond_f h119).trans ((cond_f h125).trans ((cond_f h133).trans ((cond_f h141).trans ((cond_t h149).trans ((cond_t h153).trans ((cond_t h155).trans (rfl))))))))))
                        refine ret_tmp r rfl (v := (.bool ((D.plan_Plan_Head ({ (⟨1048576, 16, 1024, 64, 256, 1073741823⟩ : Plan) with domains := (IntKind.i64.wrap (((⟨1048576, 16, 1024, 64, 256, 1073741823⟩ : Plan).domains) + 1)) })) == (-1)))) rfl ?_
                        rw [hd]
                        exact ⟨rfl, hB⟩
                      · skip
                        refine seq_skip r rfl rfl rfl (v := .bool false) (congrArg Value.bool h155) (by simp [boolOf]) fun fr r => ?_
                        refine seq_skip r rfl rfl rfl (v := .bool false) (congrArg Value.bool h155) (by simp [boolOf]) fun fr r => ?_
                        refine seq_skip r rfl rfl rfl (v := .bool false) (congrArg Value.bool h155) (by simp [boolOf]) fun fr r => ?_
                        refine seq_val (.bool false) r (fun R => y_pick r (b := false) (congrArg Value.bool h155) rfl) rfl fun fr r => ?_
                        refine seq_val (.bool false) r (fun R => y_assign r rfl) rfl fun fr r => ?_
                        refine wpList_nil ?_
                        refine wp_ret ?_
                        have hd : D.cubiclelaw06_PlanGreat a0 = false := (cond_f h2).trans ((cond_f h8).trans ((cond_f h63).trans ((cond_f h119).trans ((cond_f h125).trans ((cond_f h133).trans ((cond_f h141).trans ((cond_t h149).trans ((cond_t h153).trans ((cond_f h155).trans (rfl))))))))))
                        refine ret_tmp r rfl (v := (.bool false)) rfl ?_
                        rw [hd]
                        exact ⟨rfl, hB⟩
                    · skip
                      refine seq_skip r rfl rfl rfl (v := .bool false) (congrArg Value.bool h153) (by simp [boolOf]) fun fr r => ?_
                      refine seq_skip r rfl rfl rfl (v := .bool false) (congrArg Value.bool h153) (by simp [boolOf]) fun fr r => ?_
                      refine seq_skip r rfl rfl rfl (v := .bool false) (congrArg Value.bool h153) (by simp [boolOf]) fun fr r => ?_
                      refine seq_val (.bool false) r (fun R => y_pick r (b := false) (congrArg Value.bool h153) rfl) rfl fun fr r => ?_
                      refine seq_val (.bool false) r (fun R => y_move r rfl) rfl fun fr r => ?_
                      refine seq_skip r rfl rfl rfl (v := .bool false) (congrArg Value.bool (rfl : false = _)) (by simp [boolOf]) fun fr r => ?_
                      refine seq_skip r rfl rfl rfl (v := .bool false) (congrArg Value.bool (rfl : false = _)) (by simp [boolOf]) fun fr r => ?_
                      refine seq_skip r rfl rfl rfl (v := .bool false) (congrArg Value.bool (rfl : false = _)) (by simp [boolOf]) fun fr r => ?_
                      refine seq_val (.bool false) r (fun R => y_pick r (b := false) (congrArg Value.bool (rfl : false = _)) rfl) rfl fun fr r => ?_
                      refine seq_val (.bool false) r (fun R => y_assign r rfl) rfl fun fr r => ?_
                      refine wpList_nil ?_
                      refine wp_ret ?_
                      have hd : D.cubiclelaw06_PlanGreat a0 = false := (cond_f h2).trans ((cond_f h8).trans ((cond_f h63).trans ((cond_f h119).trans ((cond_f h125).trans ((cond_f h133).trans ((cond_f h141).trans ((cond_t h149).trans ((cond_f h153).trans (rfl)))))))))
                      refine ret_tmp r rfl (v := (.bool false)) rfl ?_
                      rw [hd]
                      exact ⟨rfl, hB⟩
                  · skip
                    refine wp_seq ?_
                    refine wp_region_lit ?_
                    refine seq_val (.bool ((a0.tmod 6) == 4)) r (fun R => y_bin r (u := (.int .u8 (a0.tmod 6))) (u' := (.int .u8 4)) rfl rfl rfl rfl) rfl fun fr r => ?_
                    refine seq_val (.bool ((a0.tmod 6) == 4)) r (fun R => y_assign r rfl) rfl fun fr r => ?_
                    refine wpList_nil ?_
                    refine wp_cond_split (t := ((a0.tmod 6) == 4)) (r.ev rfl) (fun h157 => ?_) (fun h157 => ?_)
                    · skip
                      refine wp_region_lit ?_
                      refine seq_val (.pointer (some ⟨b120, 4, none⟩)) r (fun R => y_fieldAddr r (o := 0) rfl fo24_4) rfl fun fr r => ?_
                      refine seq_val (.int .i64 (⟨1048576, 16, 1024, 64, 256, 1073741823⟩ : Plan).buckets) r (fun R => y_load_one r (v := (.int .i64 (⟨1048576, 16, 1024, 64, 256, 1073741823⟩ : Plan).buckets)) rfl h_b120 to3 rfl) rfl fun fr r => ?_
                      refine seq_val (.int .i64 (IntKind.i64.wrap (((⟨1048576, 16, 1024, 64, 256, 1073741823⟩ : Plan).buckets) + 1))) r (fun R => y_bin r (u := (.int .i64 (⟨1048576, 16, 1024, 64, 256, 1073741823⟩ : Plan).buckets)) (u' := (.int .i64 1)) rfl rfl rfl rfl) rfl fun fr r => ?_
                      refine seq_val (.pointer (some ⟨b120, 4, none⟩)) r (fun R => y_fieldAddr r (o := 0) rfl fo24_4) rfl fun fr r => ?_
                      refine seq_upd (.cells ((planC ({ (⟨1048576, 16, 1024, 64, 256, 1073741823⟩ : Plan) with buckets := (IntKind.i64.wrap (((⟨1048576, 16, 1024, 64, 256, 1073741823⟩ : Plan).buckets) + 1)) }))).toArray 24 (0, 0)) r (fun R => y_store r (o := 4) (v := (.int .i64 (IntKind.i64.wrap (((⟨1048576, 16, 1024, 64, 256, 1073741823⟩ : Plan).buckets) + 1)))) rfl rfl h_b120 ts3 (Nat.le_of_ble_eq_true rfl) rfl rfl) rfl fun fr w158 u159 r => ?_
                      have z_w158 := u159.size
                      have h_b3 := u159.keep h_b3 (by omega)
                      have h_b120 := u159.at_
                      have hB := u159.below hB (by omega)
                      have zB := hB.size
                      refine wpList_nil ?_
                      refine wp_seq ?_
                      refine wp_region_lit ?_
                      refine seq_val (.agg (planC ({ (⟨1048576, 16, 1024, 64, 256, 1073741823⟩ : Plan) with buckets := (IntKind.i64.wrap (((⟨1048576, 16, 1024, 64, 256, 1073741823⟩ : Plan).buckets) + 1)) })).toArray) r (fun R => y_load_agg r (cs := (planC ({ (⟨1048576, 16, 1024, 64, 256, 1073741823⟩ : Plan) with buckets := (IntKind.i64.wrap (((⟨1048576, 16, 1024, 64, 256, 1073741823⟩ : Plan).buckets) + 1)) }))) (n := 6) rfl h_b120 ta24 rfl) rfl fun fr r => ?_
                      refine seq_call r (c_plan_Plan_Formed w158 ({ (⟨1048576, 16, 1024, 64, 256, 1073741823⟩ : Plan) with buckets := (IntKind.i64.wrap (((⟨1048576, 16, 1024, 64, 256, 1073741823⟩ : Plan).buckets) + 1)) })) (fun R hc => y_call r rfl cl19 hc) rfl ?_
                      rintro _ w160 ⟨rfl, hb⟩
                      refine ⟨_, rfl, fun fr r => ?_⟩
                      have z_w160 := hb.size
                      have h_b3 := keep hb h_b3
                      have h_b120 := keep hb h_b120
                      have hB := hB.trans (hb.mono hB.size)
                      have zB := hB.size
                      refine seq_val (.bool (!(D.plan_Plan_Formed ({ (⟨1048576, 16, 1024, 64, 256, 1073741823⟩ : Plan) with buckets := (IntKind.i64.wrap (((⟨1048576, 16, 1024, 64, 256, 1073741823⟩ : Plan).buckets) + 1)) })))) r (fun R => y_un r (u := (.bool (D.plan_Plan_Formed ({ (⟨1048576, 16, 1024, 64, 256, 1073741823⟩ : Plan) with buckets := (IntKind.i64.wrap (((⟨1048576, 16, 1024, 64, 256, 1073741823⟩ : Plan).buckets) + 1)) })))) rfl rfl) rfl fun fr r => ?_
                      refine seq_val (.bool (!(D.plan_Plan_Formed ({ (⟨1048576, 16, 1024, 64, 256, 1073741823⟩ : Plan) with buckets := (IntKind.i64.wrap (((⟨1048576, 16, 1024, 64, 256, 1073741823⟩ : Plan).buckets) + 1)) })))) r (fun R => y_move r rfl) rfl fun fr r => ?_
                      refine seq_split (!(D.plan_Plan_Formed ({ (⟨1048576, 16, 1024, 64, 256, 1073741823⟩ : Plan) with buckets := (IntKind.i64.wrap (((⟨1048576, 16, 1024, 64, 256, 1073741823⟩ : Plan).buckets) + 1)) }))) (fun h161 => ?_) (fun h161 => ?_)
                      · skip
                        refine seq_want r rfl rfl rfl (congrArg Value.bool h161) ?_
                        refine seq_val (.agg (planC ({ (⟨1048576, 16, 1024, 64, 256, 1073741823⟩ : Plan) with buckets := (IntKind.i64.wrap (((⟨1048576, 16, 1024, 64, 256, 1073741823⟩ : Plan).buckets) + 1)) })).toArray) r (fun R => y_load_agg r (cs := (planC ({ (⟨1048576, 16, 1024, 64, 256, 1073741823⟩ : Plan) with buckets := (IntKind.i64.wrap (((⟨1048576, 16, 1024, 64, 256, 1073741823⟩ : Plan).buckets) + 1)) }))) (n := 6) rfl h_b120 ta24 rfl) rfl fun fr r => ?_
                        refine seq_want r rfl rfl rfl (congrArg Value.bool h161) ?_
                        refine seq_call r (c_plan_Plan_Size w160 ({ (⟨1048576, 16, 1024, 64, 256, 1073741823⟩ : Plan) with buckets := (IntKind.i64.wrap (((⟨1048576, 16, 1024, 64, 256, 1073741823⟩ : Plan).buckets) + 1)) })) (fun R hc => y_call r rfl cl21 hc) rfl ?_
                        rintro _ w162 ⟨rfl, hb⟩
                        refine ⟨_, rfl, fun fr r => ?_⟩
                        have z_w162 := hb.size
                        have h_b3 := keep hb h_b3
                        have h_b120 := keep hb h_b120
                        have hB := hB.trans (hb.mono hB.size)
                        have zB := hB.size
                        refine seq_want r rfl rfl rfl (congrArg Value.bool h161) ?_
                        refine seq_val (.bool ((D.plan_Plan_Size ({ (⟨1048576, 16, 1024, 64, 256, 1073741823⟩ : Plan) with buckets := (IntKind.i64.wrap (((⟨1048576, 16, 1024, 64, 256, 1073741823⟩ : Plan).buckets) + 1)) })) == 0)) r (fun R => y_bin r (u := (.int .i64 (D.plan_Plan_Size ({ (⟨1048576, 16, 1024, 64, 256, 1073741823⟩ : Plan) with buckets := (IntKind.i64.wrap (((⟨1048576, 16, 1024, 64, 256, 1073741823⟩ : Plan).buckets) + 1)) })))) (u' := (.int .i64 0)) rfl rfl rfl rfl) rfl fun fr r => ?_
                        refine seq_val (.bool ((D.plan_Plan_Size ({ (⟨1048576, 16, 1024, 64, 256, 1073741823⟩ : Plan) with buckets := (IntKind.i64.wrap (((⟨1048576, 16, 1024, 64, 256, 1073741823⟩ : Plan).buckets) + 1)) })) == 0)) r (fun R => y_pick r (b := true) (congrArg Value.bool h161) rfl) rfl fun fr r => ?_
                        refine seq_val (.bool ((D.plan_Plan_Size ({ (⟨1048576, 16, 1024, 64, 256, 1073741823⟩ : Plan) with buckets := (IntKind.i64.wrap (((⟨1048576, 16, 1024, 64, 256, 1073741823⟩ : Plan).buckets) + 1)) })) == 0)) r (fun R => y_move r rfl) rfl fun fr r => ?_
                        refine seq_split ((D.plan_Plan_Size ({ (⟨1048576, 16, 1024, 64, 256, 1073741823⟩ : Plan) with buckets := (IntKind.i64.wrap (((⟨1048576, 16, 1024, 64, 256, 1073741823⟩ : Plan).buckets) + 1)) })) == 0) (fun h163 => ?_) (fun h163 => ?_)
                        · skip
                          refine seq_want r rfl rfl rfl (congrArg Value.bool h163) ?_
                          refine seq_val (.agg (planC ({ (⟨1048576, 16, 1024, 64, 256, 1073741823⟩ : Plan) with buckets := (IntKind.i64.wrap (((⟨1048576, 16, 1024, 64, 256, 1073741823⟩ : Plan).buckets) + 1)) })).toArray) r (fun R => y_load_agg r (cs := (planC ({ (⟨1048576, 16, 1024, 64, 256, 1073741823⟩ : Plan) with buckets := (IntKind.i64.wrap (((⟨1048576, 16, 1024, 64, 256, 1073741823⟩ : Plan).buckets) + 1)) }))) (n := 6) rfl h_b120 ta24 rfl) rfl fun fr r => ?_
                          refine seq_want r rfl rfl rfl (congrArg Value.bool h163) ?_
                          refine seq_call r (c_plan_Plan_Head w162 ({ (⟨1048576, 16, 1024, 64, 256, 1073741823⟩ : Plan) with buckets := (IntKind.i64.wrap (((⟨1048576, 16, 1024, 64, 256, 1073741823⟩ : Plan).buckets) + 1)) })) (fun R hc => y_call r rfl cl22 hc) rfl ?_
                          rintro _ w164 ⟨rfl, hb⟩
                          refine ⟨_, rfl, fun fr r => ?_⟩
                          have z_w164 := hb.size
                          have h_b3 := keep hb h_b3
                          have h_b120 := keep hb h_b120
                          have hB := hB.trans (hb.mono hB.size)
                          have zB := hB.size
                          refine seq_want r rfl rfl rfl (congrArg Value.bool h163) ?_
                          refine seq_val (.bool ((D.plan_Plan_Head ({ (⟨1048576, 16, 1024, 64, 256, 1073741823⟩ : Plan) with buckets := (IntKind.i64.wrap (((⟨1048576, 16, 1024, 64, 256, 1073741823⟩ : Plan).buckets) + 1)) })) == (-1))) r (fun R => y_bin r (u := (.int .i64 (D.plan_Plan_Head ({ (⟨1048576, 16, 1024, 64, 256, 1073741823⟩ : Plan) with buckets := (IntKind.i64.wrap (((⟨1048576, 16, 1024, 64, 256, 1073741823⟩ : Plan).buckets) + 1)) })))) (u' := (.int .i64 (-1))) rfl rfl rfl rfl) rfl fun fr r => ?_
                          refine seq_val (.bool ((D.plan_Plan_Head ({ (⟨1048576, 16, 1024, 64, 256, 1073741823⟩ : Plan) with buckets := (IntKind.i64.wrap (((⟨1048576, 16, 1024, 64, 256, 1073741823⟩ : Plan).buckets) + 1)) })) == (-1))) r (fun R => y_pick r (b := true) (congrArg Value.bool h163) rfl) rfl fun fr r => ?_
                          refine seq_val (.bool ((D.plan_Plan_Head ({ (⟨1048576, 16, 1024, 64, 256, 1073741823⟩ : Plan) with buckets := (IntKind.i64.wrap (((⟨1048576, 16, 1024, 64, 256, 1073741823⟩ : Plan).buckets) + 1)) })) == (-1))) r (fun R => y_assign r rfl) rfl fun fr r => ?_
                          refine wpList_nil ?_
                          refine wp_ret ?_
                          have hd : D.cubiclelaw06_PlanGreat a0 = ((D.plan_Plan_Head ({ (⟨1048576, 16, 1024, 64, 256, 1073741823⟩ : Plan) with buckets := (IntKind.i64.wrap (((⟨1048576, 16, 1024, 64, 256, 1073741823⟩ : Plan).buckets) + 1)) })) == (-1)) := (cond_f h2).trans ((cond_f h8).trans ((cond_f h63).trans ((cond_f h119).trans ((cond_f h125).trans ((cond_f h133).trans ((cond_f h141).trans ((cond_f h149).trans ((cond_t h157).trans ((cond_t h161).trans ((cond_t h163).trans (rfl)))))))))))
                          refine ret_tmp r rfl (v := (.bool ((D.plan_Plan_Head ({ (⟨1048576, 16, 1024, 64, 256, 1073741823⟩ : Plan) with buckets := (IntKind.i64.wrap (((⟨1048576, 16, 1024, 64, 256, 1073741823⟩ : Plan).buckets) + 1)) })) == (-1)))) rfl ?_
                          rw [hd]
                          exact ⟨rfl, hB⟩
                        · skip
                          refine seq_skip r rfl rfl rfl (v := .bool false) (congrArg Value.bool h163) (by simp [boolOf]) fun fr r => ?_
                          refine seq_skip r rfl rfl rfl (v := .bool false) (congrArg Value.bool h163) (by simp [boolOf]) fun fr r => ?_
                          refine seq_skip r rfl rfl rfl (v := .bool false) (congrArg Value.bool h163) (by simp [boolOf]) fun fr r => ?_
                          refine seq_val (.bool false) r (fun R => y_pick r (b := false) (congrArg Value.bool h163) rfl) rfl fun fr r => ?_
                          refine seq_val (.bool false) r (fun R => y_assign r rfl) rfl fun fr r => ?_
                          refine wpList_nil ?_
                          refine wp_ret ?_
                          have hd : D.cubiclelaw06_PlanGreat a0 = false := (cond_f h2).trans ((cond_f h8).trans ((cond_f h63).trans ((cond_f h119).trans ((cond_f h125).trans ((cond_f h133).trans ((cond_f h141).trans ((cond_f h149).trans ((cond_t h157).trans ((cond_t h161).trans ((cond_f h163).trans (rfl)))))))))))
                          refine ret_tmp r rfl (v := (.bool false)) rfl ?_
                          rw [hd]
                          exact ⟨rfl, hB⟩
                      · skip
                        refine seq_skip r rfl rfl rfl (v := .bool false) (congrArg Value.bool h161) (by simp [boolOf]) fun fr r => ?_
                        refine seq_skip r rfl rfl rfl (v := .bool false) (congrArg Value.bool h161) (by simp [boolOf]) fun fr r => ?_
                        refine seq_skip r rfl rfl rfl (v := .bool false) (congrArg Value.bool h161) (by simp [boolOf]) fun fr r => ?_
                        refine seq_val (.bool false) r (fun R => y_pick r (b := false) (congrArg Value.bool h161) rfl) rfl fun fr r => ?_
                        refine seq_val (.bool false) r (fun R => y_move r rfl) rfl fun fr r => ?_
                        refine seq_skip r rfl rfl rfl (v := .bool false) (congrArg Value.bool (rfl : false = _)) (by simp [boolOf]) fun fr r => ?_
                        refine seq_skip r rfl rfl rfl (v := .bool false) (congrArg Value.bool (rfl : false = _)) (by simp [boolOf]) fun fr r => ?_
                        refine seq_skip r rfl rfl rfl (v := .bool false) (congrArg Value.bool (rfl : false = _)) (by simp [boolOf]) fun fr r => ?_
                        refine seq_val (.bool false) r (fun R => y_pick r (b := false) (congrArg Value.bool (rfl : false = _)) rfl) rfl fun fr r => ?_
                        refine seq_val (.bool false) r (fun R => y_assign r rfl) rfl fun fr r => ?_
                        refine wpList_nil ?_
                        refine wp_ret ?_
                        have hd : D.cubiclelaw06_PlanGreat a0 = false := (cond_f h2).trans ((cond_f h8).trans ((cond_f h63).trans ((cond_f h119).trans ((cond_f h125).trans ((cond_f h133).trans ((cond_f h141).trans ((cond_f h149).trans ((cond_t h157).trans ((cond_f h161).trans (rfl))))))))))
                        refine ret_tmp r rfl (v := (.bool false)) rfl ?_
                        rw [hd]
                        exact ⟨rfl, hB⟩
                    · skip
                      refine wp_region_lit ?_
                      refine seq_val (.pointer (some ⟨b120, 5, none⟩)) r (fun R => y_fieldAddr r (o := 0) rfl fo24_5) rfl fun fr r => ?_
                      refine seq_val (.int .i64 (⟨1048576, 16, 1024, 64, 256, 1073741823⟩ : Plan).gen) r (fun R => y_load_one r (v := (.int .i64 (⟨1048576, 16, 1024, 64, 256, 1073741823⟩ : Plan).gen)) rfl h_b120 to3 rfl) rfl fun fr r => ?_
                      refine seq_val (.int .i64 (IntKind.i64.wrap (((⟨1048576, 16, 1024, 64, 256, 1073741823⟩ : Plan).gen) + 1))) r (fun R => y_bin r (u := (.int .i64 (⟨1048576, 16, 1024, 64, 256, 1073741823⟩ : Plan).gen)) (u' := (.int .i64 1)) rfl rfl rfl rfl) rfl fun fr r => ?_
                      refine seq_val (.pointer (some ⟨b120, 5, none⟩)) r (fun R => y_fieldAddr r (o := 0) rfl fo24_5) rfl fun fr r => ?_
                      refine seq_upd (.cells ((planC ({ (⟨1048576, 16, 1024, 64, 256, 1073741823⟩ : Plan) with gen := (IntKind.i64.wrap (((⟨1048576, 16, 1024, 64, 256, 1073741823⟩ : Plan).gen) + 1)) }))).toArray 24 (0, 0)) r (fun R => y_store r (o := 5) (v := (.int .i64 (IntKind.i64.wrap (((⟨1048576, 16, 1024, 64, 256, 1073741823⟩ : Plan).gen) + 1)))) rfl rfl h_b120 ts3 (Nat.le_of_ble_eq_true rfl) rfl rfl) rfl fun fr w165 u166 r => ?_
                      have z_w165 := u166.size
                      have h_b3 := u166.keep h_b3 (by omega)
                      have h_b120 := u166.at_
                      have hB := u166.below hB (by omega)
                      have zB := hB.size
                      refine wpList_nil ?_
                      refine wp_seq ?_
                      refine wp_region_lit ?_
                      refine seq_val (.agg (planC ({ (⟨1048576, 16, 1024, 64, 256, 1073741823⟩ : Plan) with gen := (IntKind.i64.wrap (((⟨1048576, 16, 1024, 64, 256, 1073741823⟩ : Plan).gen) + 1)) })).toArray) r (fun R => y_load_agg r (cs := (planC ({ (⟨1048576, 16, 1024, 64, 256, 1073741823⟩ : Plan) with gen := (IntKind.i64.wrap (((⟨1048576, 16, 1024, 64, 256, 1073741823⟩ : Plan).gen) + 1)) }))) (n := 6) rfl h_b120 ta24 rfl) rfl fun fr r => ?_
                      refine seq_call r (c_plan_Plan_Formed w165 ({ (⟨1048576, 16, 1024, 64, 256, 1073741823⟩ : Plan) with gen := (IntKind.i64.wrap (((⟨1048576, 16, 1024, 64, 256, 1073741823⟩ : Plan).gen) + 1)) })) (fun R hc => y_call r rfl cl19 hc) rfl ?_
                      rintro _ w167 ⟨rfl, hb⟩
                      refine ⟨_, rfl, fun fr r => ?_⟩
                      have z_w167 := hb.size
                      have h_b3 := keep hb h_b3
                      have h_b120 := keep hb h_b120
                      have hB := hB.trans (hb.mono hB.size)
                      have zB := hB.size
                      refine seq_val (.bool (!(D.plan_Plan_Formed ({ (⟨1048576, 16, 1024, 64, 256, 1073741823⟩ : Plan) with gen := (IntKind.i64.wrap (((⟨1048576, 16, 1024, 64, 256, 1073741823⟩ : Plan).gen) + 1)) })))) r (fun R => y_un r (u := (.bool (D.plan_Plan_Formed ({ (⟨1048576, 16, 1024, 64, 256, 1073741823⟩ : Plan) with gen := (IntKind.i64.wrap (((⟨1048576, 16, 1024, 64, 256, 1073741823⟩ : Plan).gen) + 1)) })))) rfl rfl) rfl fun fr r => ?_
                      refine seq_val (.bool (!(D.plan_Plan_Formed ({ (⟨1048576, 16, 1024, 64, 256, 1073741823⟩ : Plan) with gen := (IntKind.i64.wrap (((⟨1048576, 16, 1024, 64, 256, 1073741823⟩ : Plan).gen) + 1)) })))) r (fun R => y_move r rfl) rfl fun fr r => ?_
                      refine seq_split (!(D.plan_Plan_Formed ({ (⟨1048576, 16, 1024, 64, 256, 1073741823⟩ : Plan) with gen := (IntKind.i64.wrap (((⟨1048576, 16, 1024, 64, 256, 1073741823⟩ : Plan).gen) + 1)) }))) (fun h168 => ?_) (fun h168 => ?_)
                      · skip
                        refine seq_want r rfl rfl rfl (congrArg Value.bool h168) ?_
                        refine seq_val (.agg (planC ({ (⟨1048576, 16, 1024, 64, 256, 1073741823⟩ : Plan) with gen := (IntKind.i64.wrap (((⟨1048576, 16, 1024, 64, 256, 1073741823⟩ : Plan).gen) + 1)) })).toArray) r (fun R => y_load_agg r (cs := (planC ({ (⟨1048576, 16, 1024, 64, 256, 1073741823⟩ : Plan) with gen := (IntKind.i64.wrap (((⟨1048576, 16, 1024, 64, 256, 1073741823⟩ : Plan).gen) + 1)) }))) (n := 6) rfl h_b120 ta24 rfl) rfl fun fr r => ?_
                        refine seq_want r rfl rfl rfl (congrArg Value.bool h168) ?_
                        refine seq_call r (c_plan_Plan_Size w167 ({ (⟨1048576, 16, 1024, 64, 256, 1073741823⟩ : Plan) with gen := (IntKind.i64.wrap (((⟨1048576, 16, 1024, 64, 256, 1073741823⟩ : Plan).gen) + 1)) })) (fun R hc => y_call r rfl cl21 hc) rfl ?_
                        rintro _ w169 ⟨rfl, hb⟩
                        refine ⟨_, rfl, fun fr r => ?_⟩
                        have z_w169 := hb.size
                        have h_b3 := keep hb h_b3
                        have h_b120 := keep hb h_b120
                        have hB := hB.trans (hb.mono hB.size)
                        have zB := hB.size
                        refine seq_want r rfl rfl rfl (congrArg Value.bool h168) ?_
                        refine seq_val (.bool ((D.plan_Plan_Size ({ (⟨1048576, 16, 1024, 64, 256, 1073741823⟩ : Plan) with gen := (IntKind.i64.wrap (((⟨1048576, 16, 1024, 64, 256, 1073741823⟩ : Plan).gen) + 1)) })) == 0)) r (fun R => y_bin r (u := (.int .i64 (D.plan_Plan_Size ({ (⟨1048576, 16, 1024, 64, 256, 1073741823⟩ : Plan) with gen := (IntKind.i64.wrap (((⟨1048576, 16, 1024, 64, 256, 1073741823⟩ : Plan).gen) + 1)) })))) (u' := (.int .i64 0)) rfl rfl rfl rfl) rfl fun fr r => ?_
                        refine seq_val (.bool ((D.plan_Plan_Size ({ (⟨1048576, 16, 1024, 64, 256, 1073741823⟩ : Plan) with gen := (IntKind.i64.wrap (((⟨1048576, 16, 1024, 64, 256, 1073741823⟩ : Plan).gen) + 1)) })) == 0)) r (fun R => y_pick r (b := true) (congrArg Value.bool h168) rfl) rfl fun fr r => ?_
                        refine seq_val (.bool ((D.plan_Plan_Size ({ (⟨1048576, 16, 1024, 64, 256, 1073741823⟩ : Plan) with gen := (IntKind.i64.wrap (((⟨1048576, 16, 1024, 64, 256, 1073741823⟩ : Plan).gen) + 1)) })) == 0)) r (fun R => y_move r rfl) rfl fun fr r => ?_
                        refine seq_split ((D.plan_Plan_Size ({ (⟨1048576, 16, 1024, 64, 256, 1073741823⟩ : Plan) with gen := (IntKind.i64.wrap (((⟨1048576, 16, 1024, 64, 256, 1073741823⟩ : Plan).gen) + 1)) })) == 0) (fun h170 => ?_) (fun h170 => ?_)
                        · skip
                          refine seq_want r rfl rfl rfl (congrArg Value.bool h170) ?_
                          refine seq_val (.agg (planC ({ (⟨1048576, 16, 1024, 64, 256, 1073741823⟩ : Plan) with gen := (IntKind.i64.wrap (((⟨1048576, 16, 1024, 64, 256, 1073741823⟩ : Plan).gen) + 1)) })).toArray) r (fun R => y_load_agg r (cs := (planC ({ (⟨1048576, 16, 1024, 64, 256, 1073741823⟩ : Plan) with gen := (IntKind.i64.wrap (((⟨1048576, 16, 1024, 64, 256, 1073741823⟩ : Plan).gen) + 1)) }))) (n := 6) rfl h_b120 ta24 rfl) rfl fun fr r => ?_
                          refine seq_want r rfl rfl rfl (congrArg Value.bool h170) ?_
                          refine seq_call r (c_plan_Plan_Head w169 ({ (⟨1048576, 16, 1024, 64, 256, 1073741823⟩ : Plan) with gen := (IntKind.i64.wrap (((⟨1048576, 16, 1024, 64, 256, 1073741823⟩ : Plan).gen) + 1)) })) (fun R hc => y_call r rfl cl22 hc) rfl ?_
                          rintro _ w171 ⟨rfl, hb⟩
                          refine ⟨_, rfl, fun fr r => ?_⟩
                          have z_w171 := hb.size
                          have h_b3 := keep hb h_b3
                          have h_b120 := keep hb h_b120
                          have hB := hB.trans (hb.mono hB.size)
                          have zB := hB.size
                          refine seq_want r rfl rfl rfl (congrArg Value.bool h170) ?_
                          refine seq_val (.bool ((D.plan_Plan_Head ({ (⟨1048576, 16, 1024, 64, 256, 1073741823⟩ : Plan) with gen := (IntKind.i64.wrap (((⟨1048576, 16, 1024, 64, 256, 1073741823⟩ : Plan).gen) + 1)) })) == (-1))) r (fun R => y_bin r (u := (.int .i64 (D.plan_Plan_Head ({ (⟨1048576, 16, 1024, 64, 256, 1073741823⟩ : Plan) with gen := (IntKind.i64.wrap (((⟨1048576, 16, 1024, 64, 256, 1073741823⟩ : Plan).gen) + 1)) })))) (u' := (.int .i64 (-1))) rfl rfl rfl rfl) rfl fun fr r => ?_
                          refine seq_val (.bool ((D.plan_Plan_Head ({ (⟨1048576, 16, 1024, 64, 256, 1073741823⟩ : Plan) with gen := (IntKind.i64.wrap (((⟨1048576, 16, 1024, 64, 256, 1073741823⟩ : Plan).gen) + 1)) })) == (-1))) r (fun R => y_pick r (b := true) (congrArg Value.bool h170) rfl) rfl fun fr r => ?_
                          refine seq_val (.bool ((D.plan_Plan_Head ({ (⟨1048576, 16, 1024, 64, 256, 1073741823⟩ : Plan) with gen := (IntKind.i64.wrap (((⟨1048576, 16, 1024, 64, 256, 1073741823⟩ : Plan).gen) + 1)) })) == (-1))) r (fun R => y_assign r rfl) rfl fun fr r => ?_
                          refine wpList_nil ?_
                          refine wp_ret ?_
                          have hd : D.cubiclelaw06_PlanGreat a0 = ((D.plan_Plan_Head ({ (⟨1048576, 16, 1024, 64, 256, 1073741823⟩ : Plan) with gen := (IntKind.i64.wrap (((⟨1048576, 16, 1024, 64, 256, 1073741823⟩ : Plan).gen) + 1)) })) == (-1)) := (cond_f h2).trans ((cond_f h8).trans ((cond_f h63).trans ((cond_f h119).trans ((cond_f h125).trans ((cond_f h133).trans ((cond_f h141).trans ((cond_f h149).trans ((cond_f h157).trans ((cond_t h168).trans ((cond_t h170).trans (rfl)))))))))))
                          refine ret_tmp r rfl (v := (.bool ((D.plan_Plan_Head ({ (⟨1048576, 16, 1024, 64, 256, 1073741823⟩ : Plan) with gen := (IntKind.i64.wrap (((⟨1048576, 16, 1024, 64, 256, 1073741823⟩ : Plan).gen) + 1)) })) == (-1)))) rfl ?_
                          rw [hd]
                          exact ⟨rfl, hB⟩
                        · skip
                          refine seq_skip r rfl rfl rfl (v := .bool false) (congrArg Value.bool h170) (by simp [boolOf]) fun fr r => ?_
                          refine seq_skip r rfl rfl rfl (v := .bool false) (congrArg Value.bool h170) (by simp [boolOf]) fun fr r => ?_
                          refine seq_skip r rfl rfl rfl (v := .bool false) (congrArg Value.bool h170) (by simp [boolOf]) fun fr r => ?_
                          refine seq_val (.bool false) r (fun R => y_pick r (b := false) (congrArg Value.bool h170) rfl) rfl fun fr r => ?_
                          refine seq_val (.bool false) r (fun R => y_assign r rfl) rfl fun fr r => ?_
                          refine wpList_nil ?_
                          refine wp_ret ?_
                          have hd : D.cubiclelaw06_PlanGreat a0 = false := (cond_f h2).trans ((cond_f h8).trans ((cond_f h63).trans ((cond_f h119).trans ((cond_f h125).trans ((cond_f h133).trans ((cond_f h141).trans ((cond_f h149).trans ((cond_f h157).trans ((cond_t h168).trans ((cond_f h170).trans (rfl)))))))))))
                          refine ret_tmp r rfl (v := (.bool false)) rfl ?_
                          rw [hd]
                          exact ⟨rfl, hB⟩
                      · skip
                        refine seq_skip r rfl rfl rfl (v := .bool false) (congrArg Value.bool h168) (by simp [boolOf]) fun fr r => ?_
                        refine seq_skip r rfl rfl rfl (v := .bool false) (congrArg Value.bool h168) (by simp [boolOf]) fun fr r => ?_
                        refine seq_skip r rfl rfl rfl (v := .bool false) (congrArg Value.bool h168) (by simp [boolOf]) fun fr r => ?_
                        refine seq_val (.bool false) r (fun R => y_pick r (b := false) (congrArg Value.bool h168) rfl) rfl fun fr r => ?_
                        refine seq_val (.bool false) r (fun R => y_move r rfl) rfl fun fr r => ?_
                        refine seq_skip r rfl rfl rfl (v := .bool false) (congrArg Value.bool (rfl : false = _)) (by simp [boolOf]) fun fr r => ?_
                        refine seq_skip r rfl rfl rfl (v := .bool false) (congrArg Value.bool (rfl : false = _)) (by simp [boolOf]) fun fr r => ?_
                        refine seq_skip r rfl rfl rfl (v := .bool false) (congrArg Value.bool (rfl : false = _)) (by simp [boolOf]) fun fr r => ?_
                        refine seq_val (.bool false) r (fun R => y_pick r (b := false) (congrArg Value.bool (rfl : false = _)) rfl) rfl fun fr r => ?_
                        refine seq_val (.bool false) r (fun R => y_assign r rfl) rfl fun fr r => ?_
                        refine wpList_nil ?_
                        refine wp_ret ?_
                        have hd : D.cubiclelaw06_PlanGreat a0 = false := (cond_f h2).trans ((cond_f h8).trans ((cond_f h63).trans ((cond_f h119).trans ((cond_f h125).trans ((cond_f h133).trans ((cond_f h141).trans ((cond_f h149).trans ((cond_f h157).trans ((cond_f h168).trans (rfl))))))))))
                        refine ret_tmp r rfl (v := (.bool false)) rfl ?_
                        rw [hd]
                        exact ⟨rfl, hB⟩

end Go.Proofs.Ytphnnjiaiemkcaa.Wk

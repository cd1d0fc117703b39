/- Written by a program of ours (wip/gen.py): a law -/
import Derived.Test.YtphnnjiaiemkcaaRefP
set_option linter.unusedVariables false
namespace Go.Proofs.Ytphnnjiaiemkcaa.Wk
open Go.RowKit
theorem cl18 : callable Try.prog 18 = true := by kernel_rfl
theorem cl20 : callable Try.prog 20 = true := by kernel_rfl
theorem cl22 : callable Try.prog 22 = true := by kernel_rfl
theorem cl23 : callable Try.prog 23 = true := by kernel_rfl
theorem cl27 : callable Try.prog 27 = true := by kernel_rfl
theorem cl29 : callable Try.prog 29 = true := by kernel_rfl
theorem cl30 : callable Try.prog 30 = true := by kernel_rfl
theorem cl31 : callable Try.prog 31 = true := by kernel_rfl
theorem ts3 : sized Try.prog 3 1 = true := by kernel_rfl

def D.cubiclelaw06_PlanMore (a0 : Plan) (a1 : Int) : Bool := (bif (!D.cubiclelaw06_awake) then D.cubiclelaw06_awake else (bif (!(D.cubicleref06_Few a0)) then D.cubiclelaw06_awake else (bif (!(D.cubicleref06_Formed a0)) then D.cubiclelaw06_awake else (let x20 : Int := (bif (decide ((a1.tmod a0.nodes) < 0)) then 0 else (a1.tmod a0.nodes)); (bif ((D.plan_Plan_Size ({ a0 with nodes := (IntKind.i64.wrap (a0.nodes + 1)) })) != (IntKind.i64.wrap ((D.plan_Plan_Size a0) + 5))) then false else (bif ((D.plan_Plan_State ({ a0 with nodes := (IntKind.i64.wrap (a0.nodes + 1)) }) a0.nodes) != (D.plan_Plan_Size a0)) then false else (bif ((D.plan_Plan_Field ({ a0 with nodes := (IntKind.i64.wrap (a0.nodes + 1)) }) x20 1) != (D.plan_Plan_Field a0 x20 1)) then false else (bif ((D.plan_Plan_Hazard ({ a0 with nodes := (IntKind.i64.wrap (a0.nodes + 1)) }) 0 2) != (D.plan_Plan_Hazard a0 0 2)) then false else (bif ((D.plan_Plan_Head ({ a0 with nodes := (IntKind.i64.wrap (a0.nodes + 1)) })) != 0) then false else (bif ((D.plan_Plan_Size ({ a0 with domains := (IntKind.i64.wrap (a0.domains + 1)) })) == (IntKind.i64.wrap ((D.plan_Plan_Size a0) + (IntKind.i64.wrap (1 + (D.plan_Plan_Cells a0)))))) then (bif ((D.plan_Plan_State ({ a0 with domains := (IntKind.i64.wrap (a0.domains + 1)) }) x20) == (IntKind.i64.wrap ((D.plan_Plan_State a0 x20) + (IntKind.i64.wrap (1 + (D.plan_Plan_Cells a0)))))) then (bif ((D.plan_Plan_Count ({ a0 with domains := (IntKind.i64.wrap (a0.domains + 1)) }) 0) == (IntKind.i64.wrap ((D.plan_Plan_Count a0 0) + (IntKind.i64.wrap (1 + (D.plan_Plan_Cells a0)))))) then ((D.plan_Plan_Kind ({ a0 with domains := (IntKind.i64.wrap (a0.domains + 1)) }) a0.domains) == (IntKind.i64.wrap (1 + (IntKind.i64.wrap (a0.domains * (IntKind.i64.wrap (1 + (D.plan_Plan_Cells a0)))))))) else false) else false) else false))))))))))

set_option maxRecDepth 20000 in
set_option maxHeartbeats 1000000 in
theorem c_cubiclelaw06_PlanMore (w0 : World) 
    (a0 : Plan) (a1 : Int) :
    Calls Try.prog 5 #[.agg (planC a0).toArray, .int .i64 a1] w0 (PureRes (.bool (D.cubiclelaw06_PlanMore a0 a1)) w0) := by
  refine enter (l := [.agg (planC a0).toArray, .int .i64 a1]) Try.func5 rfl 116 rfl rfl fun fr r => ?_
  have hB := Below.refl w0.heap.size w0
  refine wp_seq ?_
  refine wp_region_lit ?_
  refine seq_new (.cells ((planC a0)).toArray 24 (0, 0)) r (fun R => y_box r (v := (.agg (planC a0).toArray)) rfl) rfl fun fr b1 w2 n3 r => ?_
  have e_b1 := n3.eq
  have z_w2 := n3.size
  have h_b1 := n3.at_
  have hB := hB.trans (n3.below.mono hB.size)
  have zB := hB.size
  refine seq_val (.bool false) r (fun R => y_assign r rfl) rfl fun fr r => ?_
  refine wpList_nil ?_
  refine wp_seq ?_
  refine wp_seq ?_
  refine wp_region_lit ?_
  refine seq_call r (c_cubiclelaw06_awake w2 ) (fun R hc => y_call r rfl cl18 hc) rfl ?_
  rintro _ w4 ⟨rfl, hb⟩
  refine ⟨_, rfl, fun fr r => ?_⟩
  have z_w4 := hb.size
  have h_b1 := keep hb h_b1
  have hB := hB.trans (hb.mono hB.size)
  have zB := hB.size
  refine seq_val (.bool (!D.cubiclelaw06_awake)) r (fun R => y_un r (u := (.bool D.cubiclelaw06_awake)) rfl rfl) rfl fun fr r => ?_
  refine seq_val (.bool (!D.cubiclelaw06_awake)) r (fun R => y_move r rfl) rfl fun fr r => ?_
  refine seq_split (!D.cubiclelaw06_awake) (fun h5 => ?_) (fun h5 => ?_)
  · skip
    refine seq_skip r rfl rfl rfl (v := .bool true) (congrArg Value.bool h5) (by simp [boolOf]) fun fr r => ?_
    refine seq_skip r rfl rfl rfl (v := .bool true) (congrArg Value.bool h5) (by simp [boolOf]) fun fr r => ?_
    refine seq_skip r rfl rfl rfl (v := .bool true) (congrArg Value.bool h5) (by simp [boolOf]) fun fr r => ?_
    refine seq_val (.bool true) r (fun R => y_pick r (b := true) (congrArg Value.bool h5) rfl) rfl fun fr r => ?_
    refine seq_val (.bool true) r (fun R => y_move r rfl) rfl fun fr r => ?_
    refine seq_skip r rfl rfl rfl (v := .bool true) (congrArg Value.bool (rfl : true = _)) (by simp [boolOf]) fun fr r => ?_
    refine seq_skip r rfl rfl rfl (v := .bool true) (congrArg Value.bool (rfl : true = _)) (by simp [boolOf]) fun fr r => ?_
    refine seq_skip r rfl rfl rfl (v := .bool true) (congrArg Value.bool (rfl : true = _)) (by simp [boolOf]) fun fr r => ?_
    refine seq_val (.bool true) r (fun R => y_pick r (b := true) (congrArg Value.bool (rfl : true = _)) rfl) rfl fun fr r => ?_
    refine wpList_nil ?_
    refine wp_cond_split (t := true) (r.ev rfl) (fun _ => ?_) (fun h => absurd ((rfl : true = _).symm.trans h) (by decide))
    refine wp_seq ?_
    refine wp_region_lit ?_
    refine seq_call r (c_cubiclelaw06_awake w4 ) (fun R hc => y_call r rfl cl18 hc) rfl ?_
    rintro _ w6 ⟨rfl, hb⟩
    refine ⟨_, rfl, fun fr r => ?_⟩
    have z_w6 := hb.size
    have h_b1 := keep hb h_b1
    have hB := hB.trans (hb.mono hB.size)
    have zB := hB.size
    refine seq_val (.bool D.cubiclelaw06_awake) r (fun R => y_assign r rfl) rfl fun fr r => ?_
    refine wpList_nil ?_
    refine wp_ret ?_
    have hd : D.cubiclelaw06_PlanMore a0 a1 = D.cubiclelaw06_awake := (cond_t h5).trans (rfl)
    refine ret_tmp r rfl (v := (.bool D.cubiclelaw06_awake)) rfl ?_
    rw [hd]
    exact ⟨rfl, hB⟩
  · skip
    refine seq_want r rfl rfl rfl (congrArg Value.bool h5) ?_
    refine seq_val (.agg (planC a0).toArray) r (fun R => y_load_agg r (cs := (planC a0)) (n := 6) rfl h_b1 ta24 rfl) rfl fun fr r => ?_
    refine seq_want r rfl rfl rfl (congrArg Value.bool h5) ?_
    refine seq_call r (c_cubicleref06_Few w4 a0) (fun R hc => y_call r rfl cl23 hc) rfl ?_
    rintro _ w7 ⟨rfl, hb⟩
    refine ⟨_, rfl, fun fr r => ?_⟩
    have z_w7 := hb.size
    have h_b1 := keep hb h_b1
    have hB := hB.trans (hb.mono hB.size)
    have zB := hB.size
    refine seq_want r rfl rfl rfl (congrArg Value.bool h5) ?_
    refine seq_val (.bool (!(D.cubicleref06_Few a0))) r (fun R => y_un r (u := (.bool (D.cubicleref06_Few a0))) rfl rfl) rfl fun fr r => ?_
    refine seq_val (.bool (!(D.cubicleref06_Few a0))) r (fun R => y_pick r (b := false) (congrArg Value.bool h5) rfl) rfl fun fr r => ?_
    refine seq_val (.bool (!(D.cubicleref06_Few a0))) r (fun R => y_move r rfl) rfl fun fr r => ?_
    refine seq_split (!(D.cubicleref06_Few a0)) (fun h8 => ?_) (fun h8 => ?_)
    · skip
      refine seq_skip r rfl rfl rfl (v := .bool true) (congrArg Value.bool h8) (by simp [boolOf]) fun fr r => ?_
      refine seq_skip r rfl rfl rfl (v := .bool true) (congrArg Value.bool h8) (by simp [boolOf]) fun fr r => ?_
      refine seq_skip r rfl rfl rfl (v := .bool true) (congrArg Value.bool h8) (by simp [boolOf]) fun fr r => ?_
      refine seq_val (.bool true) r (fun R => y_pick r (b := true) (congrArg Value.bool h8) rfl) rfl fun fr r => ?_
      refine wpList_nil ?_
      refine wp_cond_split (t := true) (r.ev rfl) (fun _ => ?_) (fun h => absurd ((rfl : true = _).symm.trans h) (by decide))
      refine wp_seq ?_
      refine wp_region_lit ?_
      refine seq_call r (c_cubiclelaw06_awake w7 ) (fun R hc => y_call r rfl cl18 hc) rfl ?_
      rintro _ w9 ⟨rfl, hb⟩
      refine ⟨_, rfl, fun fr r => ?_⟩
      have z_w9 := hb.size
      have h_b1 := keep hb h_b1
      have hB := hB.trans (hb.mono hB.size)
      have zB := hB.size
      refine seq_val (.bool D.cubiclelaw06_awake) r (fun R => y_assign r rfl) rfl fun fr r => ?_
      refine wpList_nil ?_
      refine wp_ret ?_
      have hd : D.cubiclelaw06_PlanMore a0 a1 = D.cubiclelaw06_awake := (cond_f h5).trans ((cond_t h8).trans (rfl))
      refine ret_tmp r rfl (v := (.bool D.cubiclelaw06_awake)) rfl ?_
      rw [hd]
      exact ⟨rfl, hB⟩
    · skip
      refine seq_want r rfl rfl rfl (congrArg Value.bool h8) ?_
      refine seq_val (.agg (planC a0).toArray) r (fun R => y_load_agg r (cs := (planC a0)) (n := 6) rfl h_b1 ta24 rfl) rfl fun fr r => ?_
      refine seq_want r rfl rfl rfl (congrArg Value.bool h8) ?_
      refine seq_call r (c_cubicleref06_Formed w7 a0) (fun R hc => y_call r rfl cl24 hc) rfl ?_
      rintro _ w10 ⟨rfl, hb⟩
      refine ⟨_, rfl, fun fr r => ?_⟩
      have z_w10 := hb.size
      have h_b1 := keep hb h_b1
      have hB := hB.trans (hb.mono hB.size)
      have zB := hB.size
      refine seq_want r rfl rfl rfl (congrArg Value.bool h8) ?_
      refine seq_val (.bool (!(D.cubicleref06_Formed a0))) r (fun R => y_un r (u := (.bool (D.cubicleref06_Formed a0))) rfl rfl) rfl fun fr r => ?_
      refine seq_val (.bool (!(D.cubicleref06_Formed a0))) r (fun R => y_pick r (b := false) (congrArg Value.bool h8) rfl) rfl fun fr r => ?_
      refine wpList_nil ?_
      refine wp_cond_split (t := (!(D.cubicleref06_Formed a0))) (r.ev rfl) (fun h11 => ?_) (fun h11 => ?_)
      · skip
        refine wp_seq ?_
        refine wp_region_lit ?_
        refine seq_call r (c_cubiclelaw06_awake w10 ) (fun R hc => y_call r rfl cl18 hc) rfl ?_
        rintro _ w12 ⟨rfl, hb⟩
        refine ⟨_, rfl, fun fr r => ?_⟩
        have z_w12 := hb.size
        have h_b1 := keep hb h_b1
        have hB := hB.trans (hb.mono hB.size)
        have zB := hB.size
        refine seq_val (.bool D.cubiclelaw06_awake) r (fun R => y_assign r rfl) rfl fun fr r => ?_
        refine wpList_nil ?_
        refine wp_ret ?_
        have hd : D.cubiclelaw06_PlanMore a0 a1 = D.cubiclelaw06_awake := (cond_f h5).trans ((cond_f h8).trans ((cond_t h11).trans (rfl)))
        refine ret_tmp r rfl (v := (.bool D.cubiclelaw06_awake)) rfl ?_
        rw [hd]
        exact ⟨rfl, hB⟩
      · skip
        refine wp_skip ?_
        refine wp_seq ?_
        refine wp_freeF [.val (.agg (planC a0).toArray), .val (.agg (planC a0).toArray), .cell 24 6, .cell 24 6, .stored 2 ((planC a0)).toArray 24 6 rfl, .stored 3 ((planC a0)).toArray 24 6 rfl] mixed r (by kernel_rfl) ?_ ?_
        · skip
          refine eachF_cons r rfl (fun fr1 g w' hb' hd r' => ?_) ?_
          · exact y_load_agg r' (cs := (planC a0)) (n := 6) rfl (keep hb' h_b1) ta24 rfl ⟨Below.refl _ _, rfl⟩
          refine eachF_cons r rfl (fun fr1 g w' hb' hd r' => ?_) ?_
          · exact y_load_agg r' (cs := (planC a0)) (n := 6) rfl (keep hb' h_b1) ta24 rfl ⟨Below.refl _ _, rfl⟩
          refine eachF_cons r rfl (fun fr1 g w' hb' hd r' => ?_) ?_
          · exact y_alloc tz24 (fun b w2 n2 => ⟨n2.below, b, rfl, n2.eq, _, n2.at_, rfl⟩)
          refine eachF_cons r rfl (fun fr1 g w' hb' hd r' => ?_) ?_
          · exact y_alloc tz24 (fun b w2 n2 => ⟨n2.below, b, rfl, n2.eq, _, n2.at_, rfl⟩)
          refine eachF_cons r rfl (fun fr1 g w' hb' hd r' => ?_) ?_
          · obtain ⟨hp, _, c, hc, hn⟩ := (hd 2 rfl).1; exact y_store r' (o := 0) (c := c) (v := (.agg (planC a0).toArray)) hp (hd 0 rfl).1 hc ts24 (by rw [hn]; exact Nat.le_of_ble_eq_true rfl) rfl (over2_full (hn.trans rfl)) (fun w2 u2 => ⟨u2, rfl⟩)
          refine eachF_cons r rfl (fun fr1 g w' hb' hd r' => ?_) ?_
          · obtain ⟨hp, _, c, hc, hn⟩ := (hd 3 rfl).1; exact y_store r' (o := 0) (c := c) (v := (.agg (planC a0).toArray)) hp (hd 1 rfl).1 hc ts24 (by rw [hn]; exact Nat.le_of_ble_eq_true rfl) rfl (over2_full (hn.trans rfl)) (fun w2 u2 => ⟨u2, rfl⟩)
          exact eachF_nil
        · skip
          intro fr gg w13 hb hΦ hap r
          have g0 : (gg 0).v = (.agg (planC a0).toArray) := (hΦ 0 rfl).1
          have g1 : (gg 1).v = (.agg (planC a0).toArray) := (hΦ 1 rfl).1
          obtain ⟨b14, ee_b14⟩ : ∃ b, b = (gg 2).lo := ⟨_, rfl⟩
          have g2 : (gg 2).v = .pointer (some ⟨b14, 0, none⟩) := by rw [ee_b14]; exact (hΦ 2 rfl).1.1
          have e_b14 : w10.heap.size ≤ b14 := by rw [ee_b14]; exact (hΦ 2 rfl).2.1
          have h_b14 : w13.heap[b14]? = some (.cells ((planC a0)).toArray 24 (0, 0)) := by rw [ee_b14]; exact (hΦ 4 rfl).1.2
          have l_b14 := lt_of_block h_b14
          have q_b14 : (gg 2).lo < (gg 2).hi := (hΦ 2 rfl).1.2.1
          obtain ⟨b15, ee_b15⟩ : ∃ b, b = (gg 3).lo := ⟨_, rfl⟩
          have g3 : (gg 3).v = .pointer (some ⟨b15, 0, none⟩) := by rw [ee_b15]; exact (hΦ 3 rfl).1.1
          have e_b15 : w10.heap.size ≤ b15 := by rw [ee_b15]; exact (hΦ 3 rfl).2.1
          have h_b15 : w13.heap[b15]? = some (.cells ((planC a0)).toArray 24 (0, 0)) := by rw [ee_b15]; exact (hΦ 5 rfl).1.2
          have l_b15 := lt_of_block h_b15
          have q_b15 : (gg 3).lo < (gg 3).hi := (hΦ 3 rfl).1.2.1
          have ne_b14_b15 : b14 ≠ b15 := by have := hap 2 3 rfl; omega
          have r := r.congr (sc g3 (sc g2 (sc g1 (sc g0 rfl))))
          have z_w13 := hb.size
          have h_b1 := keep hb h_b1
          have hB := hB.trans (hb.mono hB.size)
          have zB := hB.size
          refine wp_seq ?_
          refine wp_region_lit ?_
          refine seq_val (.pointer (some ⟨b14, 0, none⟩)) r (fun R => y_fieldAddr r (o := 0) rfl fo24_0) rfl fun fr r => ?_
          refine seq_val (.int .i64 a0.nodes) r (fun R => y_load_one r (v := (.int .i64 a0.nodes)) rfl h_b14 to3 rfl) rfl fun fr r => ?_
          refine seq_val (.int .i64 (IntKind.i64.wrap (a0.nodes + 1))) r (fun R => y_bin r (u := (.int .i64 a0.nodes)) (u' := (.int .i64 1)) rfl rfl rfl rfl) rfl fun fr r => ?_
          refine seq_val (.pointer (some ⟨b14, 0, none⟩)) r (fun R => y_fieldAddr r (o := 0) rfl fo24_0) rfl fun fr r => ?_
          refine seq_upd (.cells ((planC ({ a0 with nodes := (IntKind.i64.wrap (a0.nodes + 1)) }))).toArray 24 (0, 0)) r (fun R => y_store r (o := 0) (v := (.int .i64 (IntKind.i64.wrap (a0.nodes + 1)))) rfl rfl h_b14 ts3 (Nat.le_of_ble_eq_true rfl) rfl rfl) rfl fun fr w16 u17 r => ?_
          have z_w16 := u17.size
          have h_b1 := u17.keep h_b1 (by omega)
          have h_b15 := u17.keep h_b15 (by omega)
          have h_b14 := u17.at_
          have hB := u17.below hB (by omega)
          have zB := hB.size
          refine wpList_nil ?_
          refine wp_seq ?_
          refine wp_region_lit ?_
          refine seq_val (.pointer (some ⟨b15, 3, none⟩)) r (fun R => y_fieldAddr r (o := 0) rfl fo24_3) rfl fun fr r => ?_
          refine seq_val (.int .i64 a0.domains) r (fun R => y_load_one r (v := (.int .i64 a0.domains)) rfl h_b15 to3 rfl) rfl fun fr r => ?_
          refine seq_val (.int .i64 (IntKind.i64.wrap (a0.domains + 1))) r (fun R => y_bin r (u := (.int .i64 a0.domains)) (u' := (.int .i64 1)) rfl rfl rfl rfl) rfl fun fr r => ?_
          refine seq_val (.pointer (some ⟨b15, 3, none⟩)) r (fun R => y_fieldAddr r (o := 0) rfl fo24_3) rfl fun fr r => ?_
          refine seq_upd (.cells ((planC ({ a0 with domains := (IntKind.i64.wrap (a0.domains + 1)) }))).toArray 24 (0, 0)) r (fun R => y_store r (o := 3) (v := (.int .i64 (IntKind.i64.wrap (a0.domains + 1)))) rfl rfl h_b15 ts3 (Nat.le_of_ble_eq_true rfl) rfl rfl) rfl fun fr w18 u19 r => ?_
          have z_w18 := u19.size
          have h_b1 := u19.keep h_b1 (by omega)
          have h_b14 := u19.keep h_b14 (by omega)
          have h_b15 := u19.at_
          have hB := u19.below hB (by omega)
          have zB := hB.size
          refine wpList_nil ?_
          refine wp_seq ?_
          refine wp_region_lit ?_
          refine seq_val (.int .i64 a1) r (fun R => y_move r rfl) rfl fun fr r => ?_
          refine seq_val (.pointer (some ⟨b1, 0, none⟩)) r (fun R => y_fieldAddr r (o := 0) rfl fo24_0) rfl fun fr r => ?_
          refine seq_val (.int .i64 a0.nodes) r (fun R => y_load_one r (v := (.int .i64 a0.nodes)) rfl h_b1 to3 rfl) rfl fun fr r => ?_
          refine seq_val (.int .i64 (a1.tmod a0.nodes)) r (fun R => y_bin r (u := (.int .i64 a1)) (u' := (.int .i64 a0.nodes)) rfl rfl rfl (bin_rem (by first | assumption | decide | (have hq := ref_formed (by simpa using ‹(!D.cubicleref06_Formed _) = false›); have := hq.n1; omega)))) rfl fun fr r => ?_
          refine seq_val (.int .i64 (a1.tmod a0.nodes)) r (fun R => y_assign r rfl) rfl fun fr r => ?_
          refine wpList_nil ?_
          refine wp_seq ?_
          refine wp_seq ?_
          refine wp_region_lit ?_
          refine seq_val (.int .i64 (a1.tmod a0.nodes)) r (fun R => y_move r rfl) rfl fun fr r => ?_
          refine seq_val (.bool (decide ((a1.tmod a0.nodes) < 0))) r (fun R => y_bin r (u := (.int .i64 (a1.tmod a0.nodes))) (u' := (.int .i64 0)) rfl rfl rfl rfl) rfl fun fr r => ?_
          refine wpList_nil ?_
          obtain ⟨x20, hx20⟩ : ∃ x : Int, x = (bif (decide ((a1.tmod a0.nodes) < 0)) then 0 else (a1.tmod a0.nodes)) := ⟨_, rfl⟩
          refine wp_join (N := 116) [(0, (.agg (planC a0).toArray)), (1, (.int .i64 a1)), (2, (.pointer (some ⟨b1, 0, none⟩))), (4, (.bool false)), (5, (.pointer (some ⟨b14, 0, none⟩))), (6, (.pointer (some ⟨b15, 0, none⟩))), (7, (.int .i64 x20))] (fun w => Below w0.heap.size w0 w ∧ w18.heap.size ≤ w.heap.size ∧ w.heap[b1]? = some (.cells ((planC a0)).toArray 24 (0, 0)) ∧ w.heap[b14]? = some (.cells ((planC ({ a0 with nodes := (IntKind.i64.wrap (a0.nodes + 1)) }))).toArray 24 (0, 0)) ∧ w.heap[b15]? = some (.cells ((planC ({ a0 with domains := (IntKind.i64.wrap (a0.domains + 1)) }))).toArray 24 (0, 0))) ?_ ?_
          · skip
            refine wp_cond_split (t := (decide ((a1.tmod a0.nodes) < 0))) (r.ev rfl) (fun h21 => ?_) (fun h21 => ?_)
            · skip
              refine wp_region_lit ?_
              refine seq_val (.int .i64 0) r (fun R => y_assign r rfl) rfl fun fr r => ?_
              refine wpList_nil ?_
              exact ⟨rfl, _, r, (hs_cons rfl (hs_cons rfl (hs_cons rfl (hs_cons rfl (hs_cons rfl (hs_cons rfl (hs_cons (by rw [hx20, cond_t h21]; rfl) hs_nil))))))), hB, (by omega), h_b1, h_b14, h_b15⟩
            · skip
              refine wp_skip ?_
              exact ⟨rfl, _, r, (hs_cons rfl (hs_cons rfl (hs_cons rfl (hs_cons rfl (hs_cons rfl (hs_cons rfl (hs_cons (by rw [hx20, cond_f h21]; rfl) hs_nil))))))), hB, (by omega), h_b1, h_b14, h_b15⟩
          · skip
            rintro fr w22 g r ⟨hB, z_w22, h_b1, h_b14, h_b15⟩
            have zB := hB.size
            refine wp_seq ?_
            refine wp_seq ?_
            refine seq_split ((D.plan_Plan_Size ({ a0 with nodes := (IntKind.i64.wrap (a0.nodes + 1)) })) != (IntKind.i64.wrap ((D.plan_Plan_Size a0) + 5))) (fun h23 => ?_) (fun h23 => ?_)
            · skip
              refine wp_drawnF 35 [.val (.agg (planC ({ a0 with nodes := (IntKind.i64.wrap (a0.nodes + 1)) })).toArray), .val (.int .i64 (D.plan_Plan_Size ({ a0 with nodes := (IntKind.i64.wrap (a0.nodes + 1)) }))), .val (.agg (planC a0).toArray), .val (.int .i64 (D.plan_Plan_Size a0)), .val (.int .i64 (IntKind.i64.wrap ((D.plan_Plan_Size a0) + 5))), .val (.bool ((D.plan_Plan_Size ({ a0 with nodes := (IntKind.i64.wrap (a0.nodes + 1)) })) != (IntKind.i64.wrap ((D.plan_Plan_Size a0) + 5)))), .val (.bool ((D.plan_Plan_Size ({ a0 with nodes := (IntKind.i64.wrap (a0.nodes + 1)) })) != (IntKind.i64.wrap ((D.plan_Plan_Size a0) + 5)))), .val undef, .val undef, .val undef, .val undef, .val undef, .val undef, .val undef, .val (.bool true), .val (.bool true), .val undef, .val undef, .val undef, .val undef, .val undef, .val undef, .val undef, .val (.bool true), .val (.bool true), .val undef, .val undef, .val undef, .val undef, .val undef, .val (.bool true), .val (.bool true), .val undef, .val undef, .val undef] mixed r (by kernel_rfl) (within_cons (by exact trivial) (within_cons (by exact trivial) (within_cons (by exact trivial) (within_cons (by exact trivial) (within_cons (by exact trivial) (within_cons (by exact trivial) (within_cons (by exact trivial) (within_cons (by exact trivial) (within_cons (by exact trivial) (within_cons (by exact trivial) (within_cons (by exact trivial) (within_cons (by exact trivial) (within_cons (by exact trivial) (within_cons (by exact trivial) (within_cons (by exact trivial) (within_cons (by exact trivial) (within_cons (by exact trivial) (within_cons (by exact trivial) (within_cons (by exact trivial) (within_cons (by exact trivial) (within_cons (by exact trivial) (within_cons (by exact trivial) (within_cons (by exact trivial) (within_cons (by exact trivial) (within_cons (by exact trivial) (within_cons (by exact trivial) (within_cons (by exact trivial) (within_cons (by exact trivial) (within_cons (by exact trivial) (within_cons (by exact trivial) (within_cons (by exact trivial) (within_cons (by exact trivial) (within_cons (by exact trivial) (within_cons (by exact trivial) (within_cons (by exact trivial) within_nil))))))))))))))))))))))))))))))))))) ?_ ?_
              · skip
                refine each_consF r rfl (fun fr1 u w' hb' hd r' => ?_) ?_
                · exact y_load_agg r' (cs := (planC ({ a0 with nodes := (IntKind.i64.wrap (a0.nodes + 1)) }))) (n := 6) rfl (keep hb' h_b14) ta24 rfl ⟨Below.refl _ _, rfl⟩
                refine each_consF r rfl (fun fr1 u w' hb' hd r' => ?_) ?_
                · obtain ⟨d0, _⟩ := hd; exact y_call r' (args := [(.agg (planC ({ a0 with nodes := (IntKind.i64.wrap (a0.nodes + 1)) })).toArray)]) (lc d0 l0) cl21 ((c_plan_Plan_Size _ ({ a0 with nodes := (IntKind.i64.wrap (a0.nodes + 1)) })).mono (by rintro _ w2 ⟨rfl, hb2⟩; exact ⟨_, rfl, hb2, rfl⟩))
                refine each_consF r rfl (fun fr1 u w' hb' hd r' => ?_) ?_
                · exact y_load_agg r' (cs := (planC a0)) (n := 6) rfl (keep hb' h_b1) ta24 rfl ⟨Below.refl _ _, rfl⟩
                refine each_consF r rfl (fun fr1 u w' hb' hd r' => ?_) ?_
                · obtain ⟨d0, d1, _⟩ := hd; exact y_call r' (args := [(.agg (planC a0).toArray)]) (lc d0 l0) cl21 ((c_plan_Plan_Size _ a0).mono (by rintro _ w2 ⟨rfl, hb2⟩; exact ⟨_, rfl, hb2, rfl⟩))
                refine each_consF r rfl (fun fr1 u w' hb' hd r' => ?_) ?_
                · obtain ⟨d0, _⟩ := hd; exact y_bin r' (u := (.int .i64 (D.plan_Plan_Size a0))) (u' := (.int .i64 5)) (v := (.int .i64 (IntKind.i64.wrap ((D.plan_Plan_Size a0) + 5)))) d0 rfl rfl rfl ⟨Below.refl _ _, rfl⟩
                refine each_consF r rfl (fun fr1 u w' hb' hd r' => ?_) ?_
                · obtain ⟨d0, d1, _⟩ := hd; exact y_bin r' (u := (.int .i64 (D.plan_Plan_Size ({ a0 with nodes := (IntKind.i64.wrap (a0.nodes + 1)) })))) (u' := (.int .i64 (IntKind.i64.wrap ((D.plan_Plan_Size a0) + 5)))) (v := (.bool ((D.plan_Plan_Size ({ a0 with nodes := (IntKind.i64.wrap (a0.nodes + 1)) })) != (IntKind.i64.wrap ((D.plan_Plan_Size a0) + 5))))) d0 d1 rfl rfl ⟨Below.refl _ _, rfl⟩
                refine each_consF r rfl (fun fr1 u w' hb' hd r' => ?_) ?_
                · obtain ⟨d0, d1, _⟩ := hd; exact y_move r' (v := (.bool ((D.plan_Plan_Size ({ a0 with nodes := (IntKind.i64.wrap (a0.nodes + 1)) })) != (IntKind.i64.wrap ((D.plan_Plan_Size a0) + 5))))) d0 ⟨Below.refl _ _, rfl⟩
                refine each_consS false (.bool true) r rfl rfl rfl (fun u w' hd => by obtain ⟨d0, _⟩ := hd; exact Eq.trans (show u 6 = .bool ((D.plan_Plan_Size ({ a0 with nodes := (IntKind.i64.wrap (a0.nodes + 1)) })) != (IntKind.i64.wrap ((D.plan_Plan_Size a0) + 5))) from d0) (congrArg Value.bool h23)) (by simp [boolOf]) (fun _ => rfl) ?_
                refine each_consS false (.bool true) r rfl rfl rfl (fun u w' hd => by obtain ⟨d0, _⟩ := hd; exact Eq.trans (show u 6 = .bool ((D.plan_Plan_Size ({ a0 with nodes := (IntKind.i64.wrap (a0.nodes + 1)) })) != (IntKind.i64.wrap ((D.plan_Plan_Size a0) + 5))) from d0) (congrArg Value.bool h23)) (by simp [boolOf]) (fun _ => rfl) ?_
                refine each_consS false (.bool true) r rfl rfl rfl (fun u w' hd => by obtain ⟨d0, d1, _⟩ := hd; exact Eq.trans (show u 6 = .bool ((D.plan_Plan_Size ({ a0 with nodes := (IntKind.i64.wrap (a0.nodes + 1)) })) != (IntKind.i64.wrap ((D.plan_Plan_Size a0) + 5))) from d1) (congrArg Value.bool h23)) (by simp [boolOf]) (fun _ => rfl) ?_
                refine each_consS false (.bool true) r rfl rfl rfl (fun u w' hd => by obtain ⟨d0, d1, d2, d3, _⟩ := hd; exact Eq.trans (show u 6 = .bool ((D.plan_Plan_Size ({ a0 with nodes := (IntKind.i64.wrap (a0.nodes + 1)) })) != (IntKind.i64.wrap ((D.plan_Plan_Size a0) + 5))) from d2) (congrArg Value.bool h23)) (by simp [boolOf]) (fun _ => rfl) ?_
                refine each_consS false (.bool true) r rfl rfl rfl (fun u w' hd => by obtain ⟨d0, _⟩ := hd; exact Eq.trans (show u 6 = .bool ((D.plan_Plan_Size ({ a0 with nodes := (IntKind.i64.wrap (a0.nodes + 1)) })) != (IntKind.i64.wrap ((D.plan_Plan_Size a0) + 5))) from d0) (congrArg Value.bool h23)) (by simp [boolOf]) (fun _ => rfl) ?_
                refine each_consS false (.bool true) r rfl rfl rfl (fun u w' hd => by obtain ⟨d0, d1, d2, _⟩ := hd; exact Eq.trans (show u 6 = .bool ((D.plan_Plan_Size ({ a0 with nodes := (IntKind.i64.wrap (a0.nodes + 1)) })) != (IntKind.i64.wrap ((D.plan_Plan_Size a0) + 5))) from d2) (congrArg Value.bool h23)) (by simp [boolOf]) (fun _ => rfl) ?_
                refine each_consS false (.bool true) r rfl rfl rfl (fun u w' hd => by obtain ⟨d0, d1, d2, _⟩ := hd; exact Eq.trans (show u 6 = .bool ((D.plan_Plan_Size ({ a0 with nodes := (IntKind.i64.wrap (a0.nodes + 1)) })) != (IntKind.i64.wrap ((D.plan_Plan_Size a0) + 5))) from d2) (congrArg Value.bool h23)) (by simp [boolOf]) (fun _ => rfl) ?_
                refine each_consF r rfl (fun fr1 u w' hb' hd r' => ?_) ?_
                · obtain ⟨d0, d1, _⟩ := hd; exact y_pick r' (b := true) (v := (.bool true)) (Eq.trans (show u 6 = .bool ((D.plan_Plan_Size ({ a0 with nodes := (IntKind.i64.wrap (a0.nodes + 1)) })) != (IntKind.i64.wrap ((D.plan_Plan_Size a0) + 5))) from d0) (congrArg Value.bool h23)) rfl ⟨Below.refl _ _, rfl⟩
                refine each_consF r rfl (fun fr1 u w' hb' hd r' => ?_) ?_
                · obtain ⟨d0, d1, _⟩ := hd; exact y_move r' (v := (.bool true)) d0 ⟨Below.refl _ _, rfl⟩
                refine each_consS false (.bool true) r rfl rfl rfl (fun u w' hd => by obtain ⟨d0, _⟩ := hd; exact Eq.trans (show u 15 = .bool true from d0) (congrArg Value.bool (rfl : true = _))) (by simp [boolOf]) (fun _ => rfl) ?_
                refine each_consS false (.bool true) r rfl rfl rfl (fun u w' hd => by obtain ⟨d0, _⟩ := hd; exact Eq.trans (show u 15 = .bool true from d0) (congrArg Value.bool (rfl : true = _))) (by simp [boolOf]) (fun _ => rfl) ?_
                refine each_consS false (.bool true) r rfl rfl rfl (fun u w' hd => by obtain ⟨d0, d1, d2, d3, _⟩ := hd; exact Eq.trans (show u 15 = .bool true from d2) (congrArg Value.bool (rfl : true = _))) (by simp [boolOf]) (fun _ => rfl) ?_
                refine each_consS false (.bool true) r rfl rfl rfl (fun u w' hd => by obtain ⟨d0, _⟩ := hd; exact Eq.trans (show u 15 = .bool true from d0) (congrArg Value.bool (rfl : true = _))) (by simp [boolOf]) (fun _ => rfl) ?_
                refine each_consS false (.bool true) r rfl rfl rfl (fun u w' hd => by obtain ⟨d0, _⟩ := hd; exact Eq.trans (show u 15 = .bool true from d0) (congrArg Value.bool (rfl : true = _))) (by simp [boolOf]) (fun _ => rfl) ?_
                refine each_consS false (.bool true) r rfl rfl rfl (fun u w' hd => by obtain ⟨d0, d1, d2, d3, _⟩ := hd; exact Eq.trans (show u 15 = .bool true from d3) (congrArg Value.bool (rfl : true = _))) (by simp [boolOf]) (fun _ => rfl) ?_
                refine each_consS false (.bool true) r rfl rfl rfl (fun u w' hd => by obtain ⟨d0, d1, d2, _⟩ := hd; exact Eq.trans (show u 15 = .bool true from d2) (congrArg Value.bool (rfl : true = _))) (by simp [boolOf]) (fun _ => rfl) ?_
                refine each_consF r rfl (fun fr1 u w' hb' hd r' => ?_) ?_
                · obtain ⟨d0, d1, _⟩ := hd; exact y_pick r' (b := true) (v := (.bool true)) (Eq.trans (show u 15 = .bool true from d0) (congrArg Value.bool (rfl : true = _))) rfl ⟨Below.refl _ _, rfl⟩
                refine each_consF r rfl (fun fr1 u w' hb' hd r' => ?_) ?_
                · obtain ⟨d0, d1, _⟩ := hd; exact y_move r' (v := (.bool true)) d0 ⟨Below.refl _ _, rfl⟩
                refine each_consS false (.bool true) r rfl rfl rfl (fun u w' hd => by obtain ⟨d0, _⟩ := hd; exact Eq.trans (show u 24 = .bool true from d0) (congrArg Value.bool (rfl : true = _))) (by simp [boolOf]) (fun _ => rfl) ?_
                refine each_consS false (.bool true) r rfl rfl rfl (fun u w' hd => by obtain ⟨d0, d1, d2, _⟩ := hd; exact Eq.trans (show u 24 = .bool true from d1) (congrArg Value.bool (rfl : true = _))) (by simp [boolOf]) (fun _ => rfl) ?_
                refine each_consS false (.bool true) r rfl rfl rfl (fun u w' hd => by obtain ⟨d0, _⟩ := hd; exact Eq.trans (show u 24 = .bool true from d0) (congrArg Value.bool (rfl : true = _))) (by simp [boolOf]) (fun _ => rfl) ?_
                refine each_consS false (.bool true) r rfl rfl rfl (fun u w' hd => by obtain ⟨d0, d1, d2, _⟩ := hd; exact Eq.trans (show u 24 = .bool true from d2) (congrArg Value.bool (rfl : true = _))) (by simp [boolOf]) (fun _ => rfl) ?_
                refine each_consS false (.bool true) r rfl rfl rfl (fun u w' hd => by obtain ⟨d0, d1, d2, _⟩ := hd; exact Eq.trans (show u 24 = .bool true from d2) (congrArg Value.bool (rfl : true = _))) (by simp [boolOf]) (fun _ => rfl) ?_
                refine each_consF r rfl (fun fr1 u w' hb' hd r' => ?_) ?_
                · obtain ⟨d0, d1, _⟩ := hd; exact y_pick r' (b := true) (v := (.bool true)) (Eq.trans (show u 24 = .bool true from d0) (congrArg Value.bool (rfl : true = _))) rfl ⟨Below.refl _ _, rfl⟩
                refine each_consF r rfl (fun fr1 u w' hb' hd r' => ?_) ?_
                · obtain ⟨d0, d1, _⟩ := hd; exact y_move r' (v := (.bool true)) d0 ⟨Below.refl _ _, rfl⟩
                refine each_consS false (.bool true) r rfl rfl rfl (fun u w' hd => by obtain ⟨d0, _⟩ := hd; exact Eq.trans (show u 31 = .bool true from d0) (congrArg Value.bool (rfl : true = _))) (by simp [boolOf]) (fun _ => rfl) ?_
                refine each_consS false (.bool true) r rfl rfl rfl (fun u w' hd => by obtain ⟨d0, d1, d2, _⟩ := hd; exact Eq.trans (show u 31 = .bool true from d1) (congrArg Value.bool (rfl : true = _))) (by simp [boolOf]) (fun _ => rfl) ?_
                refine each_consS false (.bool true) r rfl rfl rfl (fun u w' hd => by obtain ⟨d0, d1, _⟩ := hd; exact Eq.trans (show u 31 = .bool true from d1) (congrArg Value.bool (rfl : true = _))) (by simp [boolOf]) (fun _ => rfl) ?_
                exact each_nil
              · skip
                intro fr u w24 hb hΦ hne r
                have g0 : u 0 = (.agg (planC ({ a0 with nodes := (IntKind.i64.wrap (a0.nodes + 1)) })).toArray) := hΦ 0 (by decide)
                have g1 : u 1 = (.int .i64 (D.plan_Plan_Size ({ a0 with nodes := (IntKind.i64.wrap (a0.nodes + 1)) }))) := hΦ 1 (by decide)
                have g2 : u 2 = (.agg (planC a0).toArray) := hΦ 2 (by decide)
                have g3 : u 3 = (.int .i64 (D.plan_Plan_Size a0)) := hΦ 3 (by decide)
                have g4 : u 4 = (.int .i64 (IntKind.i64.wrap ((D.plan_Plan_Size a0) + 5))) := hΦ 4 (by decide)
                have g5 : u 5 = (.bool ((D.plan_Plan_Size ({ a0 with nodes := (IntKind.i64.wrap (a0.nodes + 1)) })) != (IntKind.i64.wrap ((D.plan_Plan_Size a0) + 5)))) := hΦ 5 (by decide)
                have g6 : u 6 = (.bool ((D.plan_Plan_Size ({ a0 with nodes := (IntKind.i64.wrap (a0.nodes + 1)) })) != (IntKind.i64.wrap ((D.plan_Plan_Size a0) + 5)))) := hΦ 6 (by decide)
                have g7 : u 7 = undef := hΦ 7 (by decide)
                have g8 : u 8 = undef := hΦ 8 (by decide)
                have g9 : u 9 = undef := hΦ 9 (by decide)
                have g10 : u 10 = undef := hΦ 10 (by decide)
                have g11 : u 11 = undef := hΦ 11 (by decide)
                have g12 : u 12 = undef := hΦ 12 (by decide)
                have g13 : u 13 = undef := hΦ 13 (by decide)
                have g14 : u 14 = (.bool true) := hΦ 14 (by decide)
                have g15 : u 15 = (.bool true) := hΦ 15 (by decide)
                have g16 : u 16 = undef := hΦ 16 (by decide)
                have g17 : u 17 = undef := hΦ 17 (by decide)
                have g18 : u 18 = undef := hΦ 18 (by decide)
                have g19 : u 19 = undef := hΦ 19 (by decide)
                have g20 : u 20 = undef := hΦ 20 (by decide)
                have g21 : u 21 = undef := hΦ 21 (by decide)
                have g22 : u 22 = undef := hΦ 22 (by decide)
                have g23 : u 23 = (.bool true) := hΦ 23 (by decide)
                have g24 : u 24 = (.bool true) := hΦ 24 (by decide)
                have g25 : u 25 = undef := hΦ 25 (by decide)
                have g26 : u 26 = undef := hΦ 26 (by decide)
                have g27 : u 27 = undef := hΦ 27 (by decide)
                have g28 : u 28 = undef := hΦ 28 (by decide)
                have g29 : u 29 = undef := hΦ 29 (by decide)
                have g30 : u 30 = (.bool true) := hΦ 30 (by decide)
                have g31 : u 31 = (.bool true) := hΦ 31 (by decide)
                have g32 : u 32 = undef := hΦ 32 (by decide)
                have g33 : u 33 = undef := hΦ 33 (by decide)
                have g34 : u 34 = undef := hΦ 34 (by decide)
                have r := r.congr (sc g34 (sc g33 (sc g32 (sc g31 (sc g30 (sc g29 (sc g28 (sc g27 (sc g26 (sc g25 (sc g24 (sc g23 (sc g22 (sc g21 (sc g20 (sc g19 (sc g18 (sc g17 (sc g16 (sc g15 (sc g14 (sc g13 (sc g12 (sc g11 (sc g10 (sc g9 (sc g8 (sc g7 (sc g6 (sc g5 (sc g4 (sc g3 (sc g2 (sc g1 (sc g0 rfl)))))))))))))))))))))))))))))))))))
                have z_w24 := hb.size
                have h_b1 := keep hb h_b1
                have h_b14 := keep hb h_b14
                have h_b15 := keep hb h_b15
                have hB := hB.trans (hb.mono hB.size)
                have zB := hB.size
                refine seq_val (.bool true) r (fun R => y_pick r (b := true) (congrArg Value.bool (rfl : true = _)) rfl) rfl fun fr r => ?_
                refine wpList_nil ?_
                refine wp_cond_split (t := true) (r.ev rfl) (fun _ => ?_) (fun h => absurd ((rfl : true = _).symm.trans h) (by decide))
                refine wp_seq ?_
                refine wp_region_lit ?_
                refine seq_val (.bool false) r (fun R => y_assign r rfl) rfl fun fr r => ?_
                refine wpList_nil ?_
                refine wp_ret ?_
                have hd : D.cubiclelaw06_PlanMore a0 a1 = false := by subst hx20; exact (cond_f h5).trans ((cond_f h8).trans ((cond_f h11).trans ((cond_t h23).trans (rfl))))
                refine ret_tmp r rfl (v := (.bool false)) rfl ?_
                rw [hd]
                exact ⟨rfl, hB⟩
            · skip
              refine seq_split ((D.plan_Plan_State ({ a0 with nodes := (IntKind.i64.wrap (a0.nodes + 1)) }) a0.nodes) != (D.plan_Plan_Size a0)) (fun h25 => ?_) (fun h25 => ?_)
              · skip
                refine wp_drawnF 35 [.val (.agg (planC ({ a0 with nodes := (IntKind.i64.wrap (a0.nodes + 1)) })).toArray), .val (.int .i64 (D.plan_Plan_Size ({ a0 with nodes := (IntKind.i64.wrap (a0.nodes + 1)) }))), .val (.agg (planC a0).toArray), .val (.int .i64 (D.plan_Plan_Size a0)), .val (.int .i64 (IntKind.i64.wrap ((D.plan_Plan_Size a0) + 5))), .val (.bool ((D.plan_Plan_Size ({ a0 with nodes := (IntKind.i64.wrap (a0.nodes + 1)) })) != (IntKind.i64.wrap ((D.plan_Plan_Size a0) + 5)))), .val (.bool ((D.plan_Plan_Size ({ a0 with nodes := (IntKind.i64.wrap (a0.nodes + 1)) })) != (IntKind.i64.wrap ((D.plan_Plan_Size a0) + 5)))), .val (.agg (planC ({ a0 with nodes := (IntKind.i64.wrap (a0.nodes + 1)) })).toArray), .val (.pointer (some ⟨b1, 0, none⟩)), .val (.int .i64 a0.nodes), .val (.int .i64 (D.plan_Plan_State ({ a0 with nodes := (IntKind.i64.wrap (a0.nodes + 1)) }) a0.nodes)), .val (.agg (planC a0).toArray), .val (.int .i64 (D.plan_Plan_Size a0)), .val (.bool ((D.plan_Plan_State ({ a0 with nodes := (IntKind.i64.wrap (a0.nodes + 1)) }) a0.nodes) != (D.plan_Plan_Size a0))), .val (.bool ((D.plan_Plan_State ({ a0 with nodes := (IntKind.i64.wrap (a0.nodes + 1)) }) a0.nodes) != (D.plan_Plan_Size a0))), .val (.bool ((D.plan_Plan_State ({ a0 with nodes := (IntKind.i64.wrap (a0.nodes + 1)) }) a0.nodes) != (D.plan_Plan_Size a0))), .val undef, .val undef, .val undef, .val undef, .val undef, .val undef, .val undef, .val (.bool true), .val (.bool true), .val undef, .val undef, .val undef, .val undef, .val undef, .val (.bool true), .val (.bool true), .val undef, .val undef, .val undef] mixed r (by kernel_rfl) (within_cons (by exact trivial) (within_cons (by exact trivial) (within_cons (by exact trivial) (within_cons (by exact trivial) (within_cons (by exact trivial) (within_cons (by exact trivial) (within_cons (by exact trivial) (within_cons (by exact trivial) (within_cons (by exact trivial) (within_cons (by exact trivial) (within_cons (by exact trivial) (within_cons (by exact trivial) (within_cons (by exact trivial) (within_cons (by exact trivial) (within_cons (by exact trivial) (within_cons (by exact trivial) (within_cons (by exact trivial) (within_cons (by exact trivial) (within_cons (by exact trivial) (within_cons (by exact trivial) (within_cons (by exact trivial) (within_cons (by exact trivial) (within_cons (by exact trivial) (within_cons (by exact trivial) (within_cons (by exact trivial) (within_cons (by exact trivial) (within_cons (by exact trivial) (within_cons (by exact trivial) (within_cons (by exact trivial) (within_cons (by exact trivial) (within_cons (by exact trivial) (within_cons (by exact trivial) (within_cons (by exact trivial) (within_cons (by exact trivial) (within_cons (by exact trivial) within_nil))))))))))))))))))))))))))))))))))) ?_ ?_
                · skip
                  refine each_consF r rfl (fun fr1 u w' hb' hd r' => ?_) ?_
                  · exact y_load_agg r' (cs := (planC ({ a0 with nodes := (IntKind.i64.wrap (a0.nodes + 1)) }))) (n := 6) rfl (keep hb' h_b14) ta24 rfl ⟨Below.refl _ _, rfl⟩
                  refine each_consF r rfl (fun fr1 u w' hb' hd r' => ?_) ?_
                  · obtain ⟨d0, _⟩ := hd; exact y_call r' (args := [(.agg (planC ({ a0 with nodes := (IntKind.i64.wrap (a0.nodes + 1)) })).toArray)]) (lc d0 l0) cl21 ((c_plan_Plan_Size _ ({ a0 with nodes := (IntKind.i64.wrap (a0.nodes + 1)) })).mono (by rintro _ w2 ⟨rfl, hb2⟩; exact ⟨_, rfl, hb2, rfl⟩))
                  refine each_consF r rfl (fun fr1 u w' hb' hd r' => ?_) ?_
                  · exact y_load_agg r' (cs := (planC a0)) (n := 6) rfl (keep hb' h_b1) ta24 rfl ⟨Below.refl _ _, rfl⟩
                  refine each_consF r rfl (fun fr1 u w' hb' hd r' => ?_) ?_
                  · obtain ⟨d0, d1, _⟩ := hd; exact y_call r' (args := [(.agg (planC a0).toArray)]) (lc d0 l0) cl21 ((c_plan_Plan_Size _ a0).mono (by rintro _ w2 ⟨rfl, hb2⟩; exact ⟨_, rfl, hb2, rfl⟩))
                  refine each_consF r rfl (fun fr1 u w' hb' hd r' => ?_) ?_
                  · obtain ⟨d0, _⟩ := hd; exact y_bin r' (u := (.int .i64 (D.plan_Plan_Size a0))) (u' := (.int .i64 5)) (v := (.int .i64 (IntKind.i64.wrap ((D.plan_Plan_Size a0) + 5)))) d0 rfl rfl rfl ⟨Below.refl _ _, rfl⟩
                  refine each_consF r rfl (fun fr1 u w' hb' hd r' => ?_) ?_
                  · obtain ⟨d0, d1, _⟩ := hd; exact y_bin r' (u := (.int .i64 (D.plan_Plan_Size ({ a0 with nodes := (IntKind.i64.wrap (a0.nodes + 1)) })))) (u' := (.int .i64 (IntKind.i64.wrap ((D.plan_Plan_Size a0) + 5)))) (v := (.bool ((D.plan_Plan_Size ({ a0 with nodes := (IntKind.i64.wrap (a0.nodes + 1)) })) != (IntKind.i64.wrap ((D.plan_Plan_Size a0) + 5))))) d0 d1 rfl rfl ⟨Below.refl _ _, rfl⟩
                  refine each_consF r rfl (fun fr1 u w' hb' hd r' => ?_) ?_
                  · obtain ⟨d0, d1, _⟩ := hd; exact y_move r' (v := (.bool ((D.plan_Plan_Size ({ a0 with nodes := (IntKind.i64.wrap (a0.nodes + 1)) })) != (IntKind.i64.wrap ((D.plan_Plan_Size a0) + 5))))) d0 ⟨Below.refl _ _, rfl⟩
                  refine each_consW false r rfl rfl rfl (fun u w' hd => by obtain ⟨d0, _⟩ := hd; exact Eq.trans (show u 6 = .bool ((D.plan_Plan_Size ({ a0 with nodes := (IntKind.i64.wrap (a0.nodes + 1)) })) != (IntKind.i64.wrap ((D.plan_Plan_Size a0) + 5))) from d0) (congrArg Value.bool h23)) (fun fr1 u w' hb' hd r' => ?_) ?_
                  · obtain ⟨d0, _⟩ := hd; exact y_load_agg r' (cs := (planC ({ a0 with nodes := (IntKind.i64.wrap (a0.nodes + 1)) }))) (n := 6) rfl (keep hb' h_b14) ta24 rfl ⟨Below.refl _ _, rfl⟩
                  refine each_consW false r rfl rfl rfl (fun u w' hd => by obtain ⟨d0, _⟩ := hd; exact Eq.trans (show u 6 = .bool ((D.plan_Plan_Size ({ a0 with nodes := (IntKind.i64.wrap (a0.nodes + 1)) })) != (IntKind.i64.wrap ((D.plan_Plan_Size a0) + 5))) from d0) (congrArg Value.bool h23)) (fun fr1 u w' hb' hd r' => ?_) ?_
                  · obtain ⟨d0, _⟩ := hd; exact y_fieldAddr r' (b := b1) (o := 0) (k := 0) rfl fo24_0 ⟨Below.refl _ _, rfl⟩
                  refine each_consW false r rfl rfl rfl (fun u w' hd => by obtain ⟨d0, d1, _⟩ := hd; exact Eq.trans (show u 6 = .bool ((D.plan_Plan_Size ({ a0 with nodes := (IntKind.i64.wrap (a0.nodes + 1)) })) != (IntKind.i64.wrap ((D.plan_Plan_Size a0) + 5))) from d1) (congrArg Value.bool h23)) (fun fr1 u w' hb' hd r' => ?_) ?_
                  · obtain ⟨d0, d1, _⟩ := hd; exact y_load_one r' (v := (.int .i64 a0.nodes)) d0 (keep hb' h_b1) to3 rfl ⟨Below.refl _ _, rfl⟩
                  refine each_consW false r rfl rfl rfl (fun u w' hd => by obtain ⟨d0, d1, d2, d3, _⟩ := hd; exact Eq.trans (show u 6 = .bool ((D.plan_Plan_Size ({ a0 with nodes := (IntKind.i64.wrap (a0.nodes + 1)) })) != (IntKind.i64.wrap ((D.plan_Plan_Size a0) + 5))) from d2) (congrArg Value.bool h23)) (fun fr1 u w' hb' hd r' => ?_) ?_
                  · obtain ⟨d0, d1, d2, d3, _⟩ := hd; exact y_call r' (args := [(.agg (planC ({ a0 with nodes := (IntKind.i64.wrap (a0.nodes + 1)) })).toArray), (.int .i64 a0.nodes)]) (lc d0 (lc d1 l0)) cl25 ((c_plan_Plan_State _ ({ a0 with nodes := (IntKind.i64.wrap (a0.nodes + 1)) }) a0.nodes).mono (by rintro _ w2 ⟨rfl, hb2⟩; exact ⟨_, rfl, hb2, rfl⟩))
                  refine each_consW false r rfl rfl rfl (fun u w' hd => by obtain ⟨d0, _⟩ := hd; exact Eq.trans (show u 6 = .bool ((D.plan_Plan_Size ({ a0 with nodes := (IntKind.i64.wrap (a0.nodes + 1)) })) != (IntKind.i64.wrap ((D.plan_Plan_Size a0) + 5))) from d0) (congrArg Value.bool h23)) (fun fr1 u w' hb' hd r' => ?_) ?_
                  · obtain ⟨d0, _⟩ := hd; exact y_load_agg r' (cs := (planC a0)) (n := 6) rfl (keep hb' h_b1) ta24 rfl ⟨Below.refl _ _, rfl⟩
                  refine each_consW false r rfl rfl rfl (fun u w' hd => by obtain ⟨d0, d1, d2, _⟩ := hd; exact Eq.trans (show u 6 = .bool ((D.plan_Plan_Size ({ a0 with nodes := (IntKind.i64.wrap (a0.nodes + 1)) })) != (IntKind.i64.wrap ((D.plan_Plan_Size a0) + 5))) from d2) (congrArg Value.bool h23)) (fun fr1 u w' hb' hd r' => ?_) ?_
                  · obtain ⟨d0, d1, d2, _⟩ := hd; exact y_call r' (args := [(.agg (planC a0).toArray)]) (lc d0 l0) cl21 ((c_plan_Plan_Size _ a0).mono (by rintro _ w2 ⟨rfl, hb2⟩; exact ⟨_, rfl, hb2, rfl⟩))
                  refine each_consW false r rfl rfl rfl (fun u w' hd => by obtain ⟨d0, d1, d2, _⟩ := hd; exact Eq.trans (show u 6 = .bool ((D.plan_Plan_Size ({ a0 with nodes := (IntKind.i64.wrap (a0.nodes + 1)) })) != (IntKind.i64.wrap ((D.plan_Plan_Size a0) + 5))) from d2) (congrArg Value.bool h23)) (fun fr1 u w' hb' hd r' => ?_) ?_
                  · obtain ⟨d0, d1, d2, _⟩ := hd; exact y_bin r' (u := (.int .i64 (D.plan_Plan_State ({ a0 with nodes := (IntKind.i64.wrap (a0.nodes + 1)) }) a0.nodes))) (u' := (.int .i64 (D.plan_Plan_Size a0))) (v := (.bool ((D.plan_Plan_State ({ a0 with nodes := (IntKind.i64.wrap (a0.nodes + 1)) }) a0.nodes) != (D.plan_Plan_Size a0)))) d0 d1 rfl rfl ⟨Below.refl _ _, rfl⟩
                  refine each_consF r rfl (fun fr1 u w' hb' hd r' => ?_) ?_
                  · obtain ⟨d0, d1, _⟩ := hd; exact y_pick r' (b := false) (v := (.bool ((D.plan_Plan_State ({ a0 with nodes := (IntKind.i64.wrap (a0.nodes + 1)) }) a0.nodes) != (D.plan_Plan_Size a0)))) (Eq.trans (show u 6 = .bool ((D.plan_Plan_Size ({ a0 with nodes := (IntKind.i64.wrap (a0.nodes + 1)) })) != (IntKind.i64.wrap ((D.plan_Plan_Size a0) + 5))) from d0) (congrArg Value.bool h23)) d1 ⟨Below.refl _ _, rfl⟩
                  refine each_consF r rfl (fun fr1 u w' hb' hd r' => ?_) ?_
                  · obtain ⟨d0, d1, _⟩ := hd; exact y_move r' (v := (.bool ((D.plan_Plan_State ({ a0 with nodes := (IntKind.i64.wrap (a0.nodes + 1)) }) a0.nodes) != (D.plan_Plan_Size a0)))) d0 ⟨Below.refl _ _, rfl⟩
                  refine each_consS false (.bool true) r rfl rfl rfl (fun u w' hd => by obtain ⟨d0, _⟩ := hd; exact Eq.trans (show u 15 = .bool ((D.plan_Plan_State ({ a0 with nodes := (IntKind.i64.wrap (a0.nodes + 1)) }) a0.nodes) != (D.plan_Plan_Size a0)) from d0) (congrArg Value.bool h25)) (by simp [boolOf]) (fun _ => rfl) ?_
                  refine each_consS false (.bool true) r rfl rfl rfl (fun u w' hd => by obtain ⟨d0, _⟩ := hd; exact Eq.trans (show u 15 = .bool ((D.plan_Plan_State ({ a0 with nodes := (IntKind.i64.wrap (a0.nodes + 1)) }) a0.nodes) != (D.plan_Plan_Size a0)) from d0) (congrArg Value.bool h25)) (by simp [boolOf]) (fun _ => rfl) ?_
                  refine each_consS false (.bool true) r rfl rfl rfl (fun u w' hd => by obtain ⟨d0, d1, d2, d3, _⟩ := hd; exact Eq.trans (show u 15 = .bool ((D.plan_Plan_State ({ a0 with nodes := (IntKind.i64.wrap (a0.nodes + 1)) }) a0.nodes) != (D.plan_Plan_Size a0)) from d2) (congrArg Value.bool h25)) (by simp [boolOf]) (fun _ => rfl) ?_
                  refine each_consS false (.bool true) r rfl rfl rfl (fun u w' hd => by obtain ⟨d0, _⟩ := hd; exact Eq.trans (show u 15 = .bool ((D.plan_Plan_State ({ a0 with nodes := (IntKind.i64.wrap (a0.nodes + 1)) }) a0.nodes) != (D.plan_Plan_Size a0)) from d0) (congrArg Value.bool h25)) (by simp [boolOf]) (fun _ => rfl) ?_
                  refine each_consS false (.bool true) r rfl rfl rfl (fun u w' hd => by obtain ⟨d0, _⟩ := hd; exact Eq.trans (show u 15 = .bool ((D.plan_Plan_State ({ a0 with nodes := (IntKind.i64.wrap (a0.nodes + 1)) }) a0.nodes) != (D.plan_Plan_Size a0)) from d0) (congrArg Value.bool h25)) (by simp [boolOf]) (fun _ => rfl) ?_
                  refine each_consS false (.bool true) r rfl rfl rfl (fun u w' hd => by obtain ⟨d0, d1, d2, d3, _⟩ := hd; exact Eq.trans (show u 15 = .bool ((D.plan_Plan_State ({ a0 with nodes := (IntKind.i64.wrap (a0.nodes + 1)) }) a0.nodes) != (D.plan_Plan_Size a0)) from d3) (congrArg Value.bool h25)) (by simp [boolOf]) (fun _ => rfl) ?_
                  refine each_consS false (.bool true) r rfl rfl rfl (fun u w' hd => by obtain ⟨d0, d1, d2, _⟩ := hd; exact Eq.trans (show u 15 = .bool ((D.plan_Plan_State ({ a0 with nodes := (IntKind.i64.wrap (a0.nodes + 1)) }) a0.nodes) != (D.plan_Plan_Size a0)) from d2) (congrArg Value.bool h25)) (by simp [boolOf]) (fun _ => rfl) ?_
                  refine each_consF r rfl (fun fr1 u w' hb' hd r' => ?_) ?_
                  · obtain ⟨d0, d1, _⟩ := hd; exact y_pick r' (b := true) (v := (.bool true)) (Eq.trans (show u 15 = .bool ((D.plan_Plan_State ({ a0 with nodes := (IntKind.i64.wrap (a0.nodes + 1)) }) a0.nodes) != (D.plan_Plan_Size a0)) from d0) (congrArg Value.bool h25)) rfl ⟨Below.refl _ _, rfl⟩
                  refine each_consF r rfl (fun fr1 u w' hb' hd r' => ?_) ?_
                  · obtain ⟨d0, d1, _⟩ := hd; exact y_move r' (v := (.bool true)) d0 ⟨Below.refl _ _, rfl⟩
                  refine each_consS false (.bool true) r rfl rfl rfl (fun u w' hd => by obtain ⟨d0, _⟩ := hd; exact Eq.trans (show u 24 = .bool true from d0) (congrArg Value.bool (rfl : true = _))) (by simp [boolOf]) (fun _ => rfl) ?_
                  refine each_consS false (.bool true) r rfl rfl rfl (fun u w' hd => by obtain ⟨d0, d1, d2, _⟩ := hd; exact Eq.trans (show u 24 = .bool true from d1) (congrArg Value.bool (rfl : true = _))) (by simp [boolOf]) (fun _ => rfl) ?_
                  refine each_consS false (.bool true) r rfl rfl rfl (fun u w' hd => by obtain ⟨d0, _⟩ := hd; exact Eq.trans (show u 24 = .bool true from d0) (congrArg Value.bool (rfl : true = _))) (by simp [boolOf]) (fun _ => rfl) ?_
                  refine each_consS false (.bool true) r rfl rfl rfl (fun u w' hd => by obtain ⟨d0, d1, d2, _⟩ := hd; exact Eq.trans (show u 24 = .bool true from d2) (congrArg Value.bool (rfl : true = _))) (by simp [boolOf]) (fun _ => rfl) ?_
                  refine each_consS false (.bool true) r rfl rfl rfl (fun u w' hd => by obtain ⟨d0, d1, d2, _⟩ := hd; exact Eq.trans (show u 24 = .bool true from d2) (congrArg Value.bool (rfl : true = _))) (by simp [boolOf]) (fun _ => rfl) ?_
                  refine each_consF r rfl (fun fr1 u w' hb' hd r' => ?_) ?_
                  · obtain ⟨d0, d1, _⟩ := hd; exact y_pick r' (b := true) (v := (.bool true)) (Eq.trans (show u 24 = .bool true from d0) (congrArg Value.bool (rfl : true = _))) rfl ⟨Below.refl _ _, rfl⟩
                  refine each_consF r rfl (fun fr1 u w' hb' hd r' => ?_) ?_
                  · obtain ⟨d0, d1, _⟩ := hd; exact y_move r' (v := (.bool true)) d0 ⟨Below.refl _ _, rfl⟩
                  refine each_consS false (.bool true) r rfl rfl rfl (fun u w' hd => by obtain ⟨d0, _⟩ := hd; exact Eq.trans (show u 31 = .bool true from d0) (congrArg Value.bool (rfl : true = _))) (by simp [boolOf]) (fun _ => rfl) ?_
                  refine each_consS false (.bool true) r rfl rfl rfl (fun u w' hd => by obtain ⟨d0, d1, d2, _⟩ := hd; exact Eq.trans (show u 31 = .bool true from d1) (congrArg Value.bool (rfl : true = _))) (by simp [boolOf]) (fun _ => rfl) ?_
                  refine each_consS false (.bool true) r rfl rfl rfl (fun u w' hd => by obtain ⟨d0, d1, _⟩ := hd; exact Eq.trans (show u 31 = .bool true from d1) (congrArg Value.bool (rfl : true = _))) (by simp [boolOf]) (fun _ => rfl) ?_
                  exact each_nil
                · skip
                  intro fr u w26 hb hΦ hne r
                  have g0 : u 0 = (.agg (planC ({ a0 with nodes := (IntKind.i64.wrap (a0.nodes + 1)) })).toArray) := hΦ 0 (by decide)
                  have g1 : u 1 = (.int .i64 (D.plan_Plan_Size ({ a0 with nodes := (IntKind.i64.wrap (a0.nodes + 1)) }))) := hΦ 1 (by decide)
                  have g2 : u 2 = (.agg (planC a0).toArray) := hΦ 2 (by decide)
                  have g3 : u 3 = (.int .i64 (D.plan_Plan_Size a0)) := hΦ 3 (by decide)
                  have g4 : u 4 = (.int .i64 (IntKind.i64.wrap ((D.plan_Plan_Size a0) + 5))) := hΦ 4 (by decide)
                  have g5 : u 5 = (.bool ((D.plan_Plan_Size ({ a0 with nodes := (IntKind.i64.wrap (a0.nodes + 1)) })) != (IntKind.i64.wrap ((D.plan_Plan_Size a0) + 5)))) := hΦ 5 (by decide)
                  have g6 : u 6 = (.bool ((D.plan_Plan_Size ({ a0 with nodes := (IntKind.i64.wrap (a0.nodes + 1)) })) != (IntKind.i64.wrap ((D.plan_Plan_Size a0) + 5)))) := hΦ 6 (by decide)
                  have g7 : u 7 = (.agg (planC ({ a0 with nodes := (IntKind.i64.wrap (a0.nodes + 1)) })).toArray) := hΦ 7 (by decide)
                  have g8 : u 8 = (.pointer (some ⟨b1, 0, none⟩)) := hΦ 8 (by decide)
                  have g9 : u 9 = (.int .i64 a0.nodes) := hΦ 9 (by decide)
                  have g10 : u 10 = (.int .i64 (D.plan_Plan_State ({ a0 with nodes := (IntKind.i64.wrap (a0.nodes + 1)) }) a0.nodes)) := hΦ 10 (by decide)
                  have g11 : u 11 = (.agg (planC a0).toArray) := hΦ 11 (by decide)
                  have g12 : u 12 = (.int .i64 (D.plan_Plan_Size a0)) := hΦ 12 (by decide)
                  have g13 : u 13 = (.bool ((D.plan_Plan_State ({ a0 with nodes := (IntKind.i64.wrap (a0.nodes + 1)) }) a0.nodes) != (D.plan_Plan_Size a0))) := hΦ 13 (by decide)
                  have g14 : u 14 = (.bool ((D.plan_Plan_State ({ a0 with nodes := (IntKind.i64.wrap (a0.nodes + 1)) }) a0.nodes) != (D.plan_Plan_Size a0))) := hΦ 14 (by decide)
                  have g15 : u 15 = (.bool ((D.plan_Plan_State ({ a0 with nodes := (IntKind.i64.wrap (a0.nodes + 1)) }) a0.nodes) != (D.plan_Plan_Size a0))) := hΦ 15 (by decide)
                  have g16 : u 16 = undef := hΦ 16 (by decide)
                  have g17 : u 17 = undef := hΦ 17 (by decide)
                  have g18 : u 18 = undef := hΦ 18 (by decide)
                  have g19 : u 19 = undef := hΦ 19 (by decide)
                  have g20 : u 20 = undef := hΦ 20 (by decide)
                  have g21 : u 21 = undef := hΦ 21 (by decide)
                  have g22 : u 22 = undef := hΦ 22 (by decide)
                  have g23 : u 23 = (.bool true) := hΦ 23 (by decide)
                  have g24 : u 24 = (.bool true) := hΦ 24 (by decide)
                  have g25 : u 25 = undef := hΦ 25 (by decide)
                  have g26 : u 26 = undef := hΦ 26 (by decide)
                  have g27 : u 27 = undef := hΦ 27 (by decide)
                  have g28 : u 28 = undef := hΦ 28 (by decide)
                  have g29 : u 29 = undef := hΦ 29 (by decide)
                  have g30 : u 30 = (.bool true) := hΦ 30 (by decide)
                  have g31 : u 31 = (.bool true) := hΦ 31 (by decide)
                  have g32 : u 32 = undef := hΦ 32 (by decide)
                  have g33 : u 33 = undef := hΦ 33 (by decide)
                  have g34 : u 34 = undef := hΦ 34 (by decide)
                  have r := r.congr (sc g34 (sc g33 (sc g32 (sc g31 (sc g30 (sc g29 (sc g28 (sc g27 (sc g26 (sc g25 (sc g24 (sc g23 (sc g22 (sc g21 (sc g20 (sc g19 (sc g18 (sc g17 (sc g16 (sc g15 (sc g14 (sc g13 (sc g12 (sc g11 (sc g10 (sc g9 (sc g8 (sc g7 (sc g6 (sc g5 (sc g4 (sc g3 (sc g2 (sc g1 (sc g0 rfl)))))))))))))))))))))))))))))))))))
                  have z_w26 := hb.size
                  have h_b1 := keep hb h_b1
                  have h_b14 := keep hb h_b14
                  have h_b15 := keep hb h_b15
                  have hB := hB.trans (hb.mono hB.size)
                  have zB := hB.size
                  refine seq_val (.bool true) r (fun R => y_pick r (b := true) (congrArg Value.bool (rfl : true = _)) rfl) rfl fun fr r => ?_
                  refine wpList_nil ?_
                  refine wp_cond_split (t := true) (r.ev rfl) (fun _ => ?_) (fun h => absurd ((rfl : true = _).symm.trans h) (by decide))
                  refine wp_seq ?_
                  refine wp_region_lit ?_
                  refine seq_val (.bool false) r (fun R => y_assign r rfl) rfl fun fr r => ?_
                  refine wpList_nil ?_
                  refine wp_ret ?_
                  have hd : D.cubiclelaw06_PlanMore a0 a1 = false := by subst hx20; exact (cond_f h5).trans ((cond_f h8).trans ((cond_f h11).trans ((cond_f h23).trans ((cond_t h25).trans (rfl)))))
                  refine ret_tmp r rfl (v := (.bool false)) rfl ?_
                  rw [hd]
                  exact ⟨rfl, hB⟩
              · skip
                refine seq_split ((D.plan_Plan_Field ({ a0 with nodes := (IntKind.i64.wrap (a0.nodes + 1)) }) x20 1) != (D.plan_Plan_Field a0 x20 1)) (fun h27 => ?_) (fun h27 => ?_)
                · skip
                  refine wp_drawnF 35 [.val (.agg (planC ({ a0 with nodes := (IntKind.i64.wrap (a0.nodes + 1)) })).toArray), .val (.int .i64 (D.plan_Plan_Size ({ a0 with nodes := (IntKind.i64.wrap (a0.nodes + 1)) }))), .val (.agg (planC a0).toArray), .val (.int .i64 (D.plan_Plan_Size a0)), .val (.int .i64 (IntKind.i64.wrap ((D.plan_Plan_Size a0) + 5))), .val (.bool ((D.plan_Plan_Size ({ a0 with nodes := (IntKind.i64.wrap (a0.nodes + 1)) })) != (IntKind.i64.wrap ((D.plan_Plan_Size a0) + 5)))), .val (.bool ((D.plan_Plan_Size ({ a0 with nodes := (IntKind.i64.wrap (a0.nodes + 1)) })) != (IntKind.i64.wrap ((D.plan_Plan_Size a0) + 5)))), .val (.agg (planC ({ a0 with nodes := (IntKind.i64.wrap (a0.nodes + 1)) })).toArray), .val (.pointer (some ⟨b1, 0, none⟩)), .val (.int .i64 a0.nodes), .val (.int .i64 (D.plan_Plan_State ({ a0 with nodes := (IntKind.i64.wrap (a0.nodes + 1)) }) a0.nodes)), .val (.agg (planC a0).toArray), .val (.int .i64 (D.plan_Plan_Size a0)), .val (.bool ((D.plan_Plan_State ({ a0 with nodes := (IntKind.i64.wrap (a0.nodes + 1)) }) a0.nodes) != (D.plan_Plan_Size a0))), .val (.bool ((D.plan_Plan_State ({ a0 with nodes := (IntKind.i64.wrap (a0.nodes + 1)) }) a0.nodes) != (D.plan_Plan_Size a0))), .val (.bool ((D.plan_Plan_State ({ a0 with nodes := (IntKind.i64.wrap (a0.nodes + 1)) }) a0.nodes) != (D.plan_Plan_Size a0))), .val (.agg (planC ({ a0 with nodes := (IntKind.i64.wrap (a0.nodes + 1)) })).toArray), .val (.int .i64 x20), .val (.int .i64 (D.plan_Plan_Field ({ a0 with nodes := (IntKind.i64.wrap (a0.nodes + 1)) }) x20 1)), .val (.agg (planC a0).toArray), .val (.int .i64 x20), .val (.int .i64 (D.plan_Plan_Field a0 x20 1)), .val (.bool ((D.plan_Plan_Field ({ a0 with nodes := (IntKind.i64.wrap (a0.nodes + 1)) }) x20 1) != (D.plan_Plan_Field a0 x20 1))), .val (.bool ((D.plan_Plan_Field ({ a0 with nodes := (IntKind.i64.wrap (a0.nodes + 1)) }) x20 1) != (D.plan_Plan_Field a0 x20 1))), .val (.bool ((D.plan_Plan_Field ({ a0 with nodes := (IntKind.i64.wrap (a0.nodes + 1)) }) x20 1) != (D.plan_Plan_Field a0 x20 1))), .val undef, .val undef, .val undef, .val undef, .val undef, .val (.bool true), .val (.bool true), .val undef, .val undef, .val undef] mixed r (by kernel_rfl) (within_cons (by exact trivial) (within_cons (by exact trivial) (within_cons (by exact trivial) (within_cons (by exact trivial) (within_cons (by exact trivial) (within_cons (by exact trivial) (within_cons (by exact trivial) (within_cons (by exact trivial) (within_cons (by exact trivial) (within_cons (by exact trivial) (within_cons (by exact trivial) (within_cons (by exact trivial) (within_cons (by exact trivial) (within_cons (by exact trivial) (within_cons (by exact trivial) (within_cons (by exact trivial) (within_cons (by exact trivial) (within_cons (by exact trivial) (within_cons (by exact trivial) (within_cons (by exact trivial) (within_cons (by exact trivial) (within_cons (by exact trivial) (within_cons (by exact trivial) (within_cons (by exact trivial) (within_cons (by exact trivial) (within_cons (by exact trivial) (within_cons (by exact trivial) (within_cons (by exact trivial) (within_cons (by exact trivial) (within_cons (by exact trivial) (within_cons (by exact trivial) (within_cons (by exact trivial) (within_cons (by exact trivial) (within_cons (by exact trivial) (within_cons (by exact trivial) within_nil))))))))))))))))))))))))))))))))))) ?_ ?_
                  · skip
                    refine each_consF r rfl (fun fr1 u w' hb' hd r' => ?_) ?_
                    · exact y_load_agg r' (cs := (planC ({ a0 with nodes := (IntKind.i64.wrap (a0.nodes + 1)) }))) (n := 6) rfl (keep hb' h_b14) ta24 rfl ⟨Below.refl _ _, rfl⟩
                    refine each_consF r rfl (fun fr1 u w' hb' hd r' => ?_) ?_
                    · obtain ⟨d0, _⟩ := hd; exact y_call r' (args := [(.agg (planC ({ a0 with nodes := (IntKind.i64.wrap (a0.nodes + 1)) })).toArray)]) (lc d0 l0) cl21 ((c_plan_Plan_Size _ ({ a0 with nodes := (IntKind.i64.wrap (a0.nodes + 1)) })).mono (by rintro _ w2 ⟨rfl, hb2⟩; exact ⟨_, rfl, hb2, rfl⟩))
                    refine each_consF r rfl (fun fr1 u w' hb' hd r' => ?_) ?_
                    · exact y_load_agg r' (cs := (planC a0)) (n := 6) rfl (keep hb' h_b1) ta24 rfl ⟨Below.refl _ _, rfl⟩
                    refine each_consF r rfl (fun fr1 u w' hb' hd r' => ?_) ?_
                    · obtain ⟨d0, d1, _⟩ := hd; exact y_call r' (args := [(.agg (planC a0).toArray)]) (lc d0 l0) cl21 ((c_plan_Plan_Size _ a0).mono (by rintro _ w2 ⟨rfl, hb2⟩; exact ⟨_, rfl, hb2, rfl⟩))
                    refine each_consF r rfl (fun fr1 u w' hb' hd r' => ?_) ?_
                    · obtain ⟨d0, _⟩ := hd; exact y_bin r' (u := (.int .i64 (D.plan_Plan_Size a0))) (u' := (.int .i64 5)) (v := (.int .i64 (IntKind.i64.wrap ((D.plan_Plan_Size a0) + 5)))) d0 rfl rfl rfl ⟨Below.refl _ _, rfl⟩
                    refine each_consF r rfl (fun fr1 u w' hb' hd r' => ?_) ?_
                    · obtain ⟨d0, d1, _⟩ := hd; exact y_bin r' (u := (.int .i64 (D.plan_Plan_Size ({ a0 with nodes := (IntKind.i64.wrap (a0.nodes + 1)) })))) (u' := (.int .i64 (IntKind.i64.wrap ((D.plan_Plan_Size a0) + 5)))) (v := (.bool ((D.plan_Plan_Size ({ a0 with nodes := (IntKind.i64.wrap (a0.nodes + 1)) })) != (IntKind.i64.wrap ((D.plan_Plan_Size a0) + 5))))) d0 d1 rfl rfl ⟨Below.refl _ _, rfl⟩
                    refine each_consF r rfl (fun fr1 u w' hb' hd r' => ?_) ?_
                    · obtain ⟨d0, d1, _⟩ := hd; exact y_move r' (v := (.bool ((D.plan_Plan_Size ({ a0 with nodes := (IntKind.i64.wrap (a0.nodes + 1)) })) != (IntKind.i64.wrap ((D.plan_Plan_Size a0) + 5))))) d0 ⟨Below.refl _ _, rfl⟩
                    refine each_consW false r rfl rfl rfl (fun u w' hd => by obtain ⟨d0, _⟩ := hd; exact Eq.trans (show u 6 = .bool ((D.plan_Plan_Size ({ a0 with nodes := (IntKind.i64.wrap (a0.nodes + 1)) })) != (IntKind.i64.wrap ((D.plan_Plan_Size a0) + 5))) from d0) (congrArg Value.bool h23)) (fun fr1 u w' hb' hd r' => ?_) ?_
                    · obtain ⟨d0, _⟩ := hd; exact y_load_agg r' (cs := (planC ({ a0 with nodes := (IntKind.i64.wrap (a0.nodes + 1)) }))) (n := 6) rfl (keep hb' h_b14) ta24 rfl ⟨Below.refl _ _, rfl⟩
                    refine each_consW false r rfl rfl rfl (fun u w' hd => by obtain ⟨d0, _⟩ := hd; exact Eq.trans (show u 6 = .bool ((D.plan_Plan_Size ({ a0 with nodes := (IntKind.i64.wrap (a0.nodes + 1)) })) != (IntKind.i64.wrap ((D.plan_Plan_Size a0) + 5))) from d0) (congrArg Value.bool h23)) (fun fr1 u w' hb' hd r' => ?_) ?_
                    · obtain ⟨d0, _⟩ := hd; exact y_fieldAddr r' (b := b1) (o := 0) (k := 0) rfl fo24_0 ⟨Below.refl _ _, rfl⟩
                    refine each_consW false r rfl rfl rfl (fun u w' hd => by obtain ⟨d0, d1, _⟩ := hd; exact Eq.trans (show u 6 = .bool ((D.plan_Plan_Size ({ a0 with nodes := (IntKind.i64.wrap (a0.nodes + 1)) })) != (IntKind.i64.wrap ((D.plan_Plan_Size a0) + 5))) from d1) (congrArg Value.bool h23)) (fun fr1 u w' hb' hd r' => ?_) ?_
                    · obtain ⟨d0, d1, _⟩ := hd; exact y_load_one r' (v := (.int .i64 a0.nodes)) d0 (keep hb' h_b1) to3 rfl ⟨Below.refl _ _, rfl⟩
                    refine each_consW false r rfl rfl rfl (fun u w' hd => by obtain ⟨d0, d1, d2, d3, _⟩ := hd; exact Eq.trans (show u 6 = .bool ((D.plan_Plan_Size ({ a0 with nodes := (IntKind.i64.wrap (a0.nodes + 1)) })) != (IntKind.i64.wrap ((D.plan_Plan_Size a0) + 5))) from d2) (congrArg Value.bool h23)) (fun fr1 u w' hb' hd r' => ?_) ?_
                    · obtain ⟨d0, d1, d2, d3, _⟩ := hd; exact y_call r' (args := [(.agg (planC ({ a0 with nodes := (IntKind.i64.wrap (a0.nodes + 1)) })).toArray), (.int .i64 a0.nodes)]) (lc d0 (lc d1 l0)) cl25 ((c_plan_Plan_State _ ({ a0 with nodes := (IntKind.i64.wrap (a0.nodes + 1)) }) a0.nodes).mono (by rintro _ w2 ⟨rfl, hb2⟩; exact ⟨_, rfl, hb2, rfl⟩))
                    refine each_consW false r rfl rfl rfl (fun u w' hd => by obtain ⟨d0, _⟩ := hd; exact Eq.trans (show u 6 = .bool ((D.plan_Plan_Size ({ a0 with nodes := (IntKind.i64.wrap (a0.nodes + 1)) })) != (IntKind.i64.wrap ((D.plan_Plan_Size a0) + 5))) from d0) (congrArg Value.bool h23)) (fun fr1 u w' hb' hd r' => ?_) ?_
                    · obtain ⟨d0, _⟩ := hd; exact y_load_agg r' (cs := (planC a0)) (n := 6) rfl (keep hb' h_b1) ta24 rfl ⟨Below.refl _ _, rfl⟩
                    refine each_consW false r rfl rfl rfl (fun u w' hd => by obtain ⟨d0, d1, d2, _⟩ := hd; exact Eq.trans (show u 6 = .bool ((D.plan_Plan_Size ({ a0 with nodes := (IntKind.i64.wrap (a0.nodes + 1)) })) != (IntKind.i64.wrap ((D.plan_Plan_Size a0) + 5))) from d2) (congrArg Value.bool h23)) (fun fr1 u w' hb' hd r' => ?_) ?_
                    · obtain ⟨d0, d1, d2, _⟩ := hd; exact y_call r' (args := [(.agg (planC a0).toArray)]) (lc d0 l0) cl21 ((c_plan_Plan_Size _ a0).mono (by rintro _ w2 ⟨rfl, hb2⟩; exact ⟨_, rfl, hb2, rfl⟩))
                    refine each_consW false r rfl rfl rfl (fun u w' hd => by obtain ⟨d0, d1, d2, _⟩ := hd; exact Eq.trans (show u 6 = .bool ((D.plan_Plan_Size ({ a0 with nodes := (IntKind.i64.wrap (a0.nodes + 1)) })) != (IntKind.i64.wrap ((D.plan_Plan_Size a0) + 5))) from d2) (congrArg Value.bool h23)) (fun fr1 u w' hb' hd r' => ?_) ?_
                    · obtain ⟨d0, d1, d2, _⟩ := hd; exact y_bin r' (u := (.int .i64 (D.plan_Plan_State ({ a0 with nodes := (IntKind.i64.wrap (a0.nodes + 1)) }) a0.nodes))) (u' := (.int .i64 (D.plan_Plan_Size a0))) (v := (.bool ((D.plan_Plan_State ({ a0 with nodes := (IntKind.i64.wrap (a0.nodes + 1)) }) a0.nodes) != (D.plan_Plan_Size a0)))) d0 d1 rfl rfl ⟨Below.refl _ _, rfl⟩
                    refine each_consF r rfl (fun fr1 u w' hb' hd r' => ?_) ?_
                    · obtain ⟨d0, d1, _⟩ := hd; exact y_pick r' (b := false) (v := (.bool ((D.plan_Plan_State ({ a0 with nodes := (IntKind.i64.wrap (a0.nodes + 1)) }) a0.nodes) != (D.plan_Plan_Size a0)))) (Eq.trans (show u 6 = .bool ((D.plan_Plan_Size ({ a0 with nodes := (IntKind.i64.wrap (a0.nodes + 1)) })) != (IntKind.i64.wrap ((D.plan_Plan_Size a0) + 5))) from d0) (congrArg Value.bool h23)) d1 ⟨Below.refl _ _, rfl⟩
                    refine each_consF r rfl (fun fr1 u w' hb' hd r' => ?_) ?_
                    · obtain ⟨d0, d1, _⟩ := hd; exact y_move r' (v := (.bool ((D.plan_Plan_State ({ a0 with nodes := (IntKind.i64.wrap (a0.nodes + 1)) }) a0.nodes) != (D.plan_Plan_Size a0)))) d0 ⟨Below.refl _ _, rfl⟩
                    refine each_consW false r rfl rfl rfl (fun u w' hd => by obtain ⟨d0, _⟩ := hd; exact Eq.trans (show u 15 = .bool ((D.plan_Plan_State ({ a0 with nodes := (IntKind.i64.wrap (a0.nodes + 1)) }) a0.nodes) != (D.plan_Plan_Size a0)) from d0) (congrArg Value.bool h25)) (fun fr1 u w' hb' hd r' => ?_) ?_
                    · obtain ⟨d0, _⟩ := hd; exact y_load_agg r' (cs := (planC ({ a0 with nodes := (IntKind.i64.wrap (a0.nodes + 1)) }))) (n := 6) rfl (keep hb' h_b14) ta24 rfl ⟨Below.refl _ _, rfl⟩
                    refine each_consW false r rfl rfl rfl (fun u w' hd => by obtain ⟨d0, _⟩ := hd; exact Eq.trans (show u 15 = .bool ((D.plan_Plan_State ({ a0 with nodes := (IntKind.i64.wrap (a0.nodes + 1)) }) a0.nodes) != (D.plan_Plan_Size a0)) from d0) (congrArg Value.bool h25)) (fun fr1 u w' hb' hd r' => ?_) ?_
                    · obtain ⟨d0, _⟩ := hd; exact y_move r' (v := (.int .i64 x20)) rfl ⟨Below.refl _ _, rfl⟩
                    refine each_consW false r rfl rfl rfl (fun u w' hd => by obtain ⟨d0, d1, d2, d3, _⟩ := hd; exact Eq.trans (show u 15 = .bool ((D.plan_Plan_State ({ a0 with nodes := (IntKind.i64.wrap (a0.nodes + 1)) }) a0.nodes) != (D.plan_Plan_Size a0)) from d2) (congrArg Value.bool h25)) (fun fr1 u w' hb' hd r' => ?_) ?_
                    · obtain ⟨d0, d1, d2, d3, _⟩ := hd; exact y_call r' (args := [(.agg (planC ({ a0 with nodes := (IntKind.i64.wrap (a0.nodes + 1)) })).toArray), (.int .i64 x20), (.int .i64 1)]) (lc d0 (lc d1 (lc rfl l0))) cl20 ((c_plan_Plan_Field _ ({ a0 with nodes := (IntKind.i64.wrap (a0.nodes + 1)) }) x20 1).mono (by rintro _ w2 ⟨rfl, hb2⟩; exact ⟨_, rfl, hb2, rfl⟩))
                    refine each_consW false r rfl rfl rfl (fun u w' hd => by obtain ⟨d0, _⟩ := hd; exact Eq.trans (show u 15 = .bool ((D.plan_Plan_State ({ a0 with nodes := (IntKind.i64.wrap (a0.nodes + 1)) }) a0.nodes) != (D.plan_Plan_Size a0)) from d0) (congrArg Value.bool h25)) (fun fr1 u w' hb' hd r' => ?_) ?_
                    · obtain ⟨d0, _⟩ := hd; exact y_load_agg r' (cs := (planC a0)) (n := 6) rfl (keep hb' h_b1) ta24 rfl ⟨Below.refl _ _, rfl⟩
                    refine each_consW false r rfl rfl rfl (fun u w' hd => by obtain ⟨d0, _⟩ := hd; exact Eq.trans (show u 15 = .bool ((D.plan_Plan_State ({ a0 with nodes := (IntKind.i64.wrap (a0.nodes + 1)) }) a0.nodes) != (D.plan_Plan_Size a0)) from d0) (congrArg Value.bool h25)) (fun fr1 u w' hb' hd r' => ?_) ?_
                    · obtain ⟨d0, _⟩ := hd; exact y_move r' (v := (.int .i64 x20)) rfl ⟨Below.refl _ _, rfl⟩
                    refine each_consW false r rfl rfl rfl (fun u w' hd => by obtain ⟨d0, d1, d2, d3, _⟩ := hd; exact Eq.trans (show u 15 = .bool ((D.plan_Plan_State ({ a0 with nodes := (IntKind.i64.wrap (a0.nodes + 1)) }) a0.nodes) != (D.plan_Plan_Size a0)) from d3) (congrArg Value.bool h25)) (fun fr1 u w' hb' hd r' => ?_) ?_
                    · obtain ⟨d0, d1, d2, d3, _⟩ := hd; exact y_call r' (args := [(.agg (planC a0).toArray), (.int .i64 x20), (.int .i64 1)]) (lc d0 (lc d1 (lc rfl l0))) cl20 ((c_plan_Plan_Field _ a0 x20 1).mono (by rintro _ w2 ⟨rfl, hb2⟩; exact ⟨_, rfl, hb2, rfl⟩))
                    refine each_consW false r rfl rfl rfl (fun u w' hd => by obtain ⟨d0, d1, d2, _⟩ := hd; exact Eq.trans (show u 15 = .bool ((D.plan_Plan_State ({ a0 with nodes := (IntKind.i64.wrap (a0.nodes + 1)) }) a0.nodes) != (D.plan_Plan_Size a0)) from d2) (congrArg Value.bool h25)) (fun fr1 u w' hb' hd r' => ?_) ?_
                    · obtain ⟨d0, d1, d2, _⟩ := hd; exact y_bin r' (u := (.int .i64 (D.plan_Plan_Field ({ a0 with nodes := (IntKind.i64.wrap (a0.nodes + 1)) }) x20 1))) (u' := (.int .i64 (D.plan_Plan_Field a0 x20 1))) (v := (.bool ((D.plan_Plan_Field ({ a0 with nodes := (IntKind.i64.wrap (a0.nodes + 1)) }) x20 1) != (D.plan_Plan_Field a0 x20 1)))) d0 d1 rfl rfl ⟨Below.refl _ _, rfl⟩
                    refine each_consF r rfl (fun fr1 u w' hb' hd r' => ?_) ?_
                    · obtain ⟨d0, d1, _⟩ := hd; exact y_pick r' (b := false) (v := (.bool ((D.plan_Plan_Field ({ a0 with nodes := (IntKind.i64.wrap (a0.nodes + 1)) }) x20 1) != (D.plan_Plan_Field a0 x20 1)))) (Eq.trans (show u 15 = .bool ((D.plan_Plan_State ({ a0 with nodes := (IntKind.i64.wrap (a0.nodes + 1)) }) a0.nodes) != (D.plan_Plan_Size a0)) from d0) (congrArg Value.bool h25)) d1 ⟨Below.refl _ _, rfl⟩
                    refine each_consF r rfl (fun fr1 u w' hb' hd r' => ?_) ?_
                    · obtain ⟨d0, d1, _⟩ := hd; exact y_move r' (v := (.bool ((D.plan_Plan_Field ({ a0 with nodes := (IntKind.i64.wrap (a0.nodes + 1)) }) x20 1) != (D.plan_Plan_Field a0 x20 1)))) d0 ⟨Below.refl _ _, rfl⟩
                    refine each_consS false (.bool true) r rfl rfl rfl (fun u w' hd => by obtain ⟨d0, _⟩ := hd; exact Eq.trans (show u 24 = .bool ((D.plan_Plan_Field ({ a0 with nodes := (IntKind.i64.wrap (a0.nodes + 1)) }) x20 1) != (D.plan_Plan_Field a0 x20 1)) from d0) (congrArg Value.bool h27)) (by simp [boolOf]) (fun _ => rfl) ?_
                    refine each_consS false (.bool true) r rfl rfl rfl (fun u w' hd => by obtain ⟨d0, d1, d2, _⟩ := hd; exact Eq.trans (show u 24 = .bool ((D.plan_Plan_Field ({ a0 with nodes := (IntKind.i64.wrap (a0.nodes + 1)) }) x20 1) != (D.plan_Plan_Field a0 x20 1)) from d1) (congrArg Value.bool h27)) (by simp [boolOf]) (fun _ => rfl) ?_
                    refine each_consS false (.bool true) r rfl rfl rfl (fun u w' hd => by obtain ⟨d0, _⟩ := hd; exact Eq.trans (show u 24 = .bool ((D.plan_Plan_Field ({ a0 with nodes := (IntKind.i64.wrap (a0.nodes + 1)) }) x20 1) != (D.plan_Plan_Field a0 x20 1)) from d0) (congrArg Value.bool h27)) (by simp [boolOf]) (fun _ => rfl) ?_
                    refine each_consS false (.bool true) r rfl rfl rfl (fun u w' hd => by obtain ⟨d0, d1, d2, _⟩ := hd; exact Eq.trans (show u 24 = .bool ((D.plan_Plan_Field ({ a0 with nodes := (IntKind.i64.wrap (a0.nodes + 1)) }) x20 1) != (D.plan_Plan_Field a0 x20 1)) from d2) (congrArg Value.bool h27)) (by simp [boolOf]) (fun _ => rfl) ?_
                    refine each_consS false (.bool true) r rfl rfl rfl (fun u w' hd => by obtain ⟨d0, d1, d2, _⟩ := hd; exact Eq.trans (show u 24 = .bool ((D.plan_Plan_Field ({ a0 with nodes := (IntKind.i64.wrap (a0.nodes + 1)) }) x20 1) != (D.plan_Plan_Field a0 x20 1)) from d2) (congrArg Value.bool h27)) (by simp [boolOf]) (fun _ => rfl) ?_
                    refine each_consF r rfl (fun fr1 u w' hb' hd r' => ?_) ?_
                    · obtain ⟨d0, d1, _⟩ := hd; exact y_pick r' (b := true) (v := (.bool true)) (Eq.trans (show u 24 = .bool ((D.plan_Plan_Field ({ a0 with nodes := (IntKind.i64.wrap (a0.nodes + 1)) }) x20 1) != (D.plan_Plan_Field a0 x20 1)) from d0) (congrArg Value.bool h27)) rfl ⟨Below.refl _ _, rfl⟩
                    refine each_consF r rfl (fun fr1 u w' hb' hd r' => ?_) ?_
                    · obtain ⟨d0, d1, _⟩ := hd; exact y_move r' (v := (.bool true)) d0 ⟨Below.refl _ _, rfl⟩
                    refine each_consS false (.bool true) r rfl rfl rfl (fun u w' hd => by obtain ⟨d0, _⟩ := hd; exact Eq.trans (show u 31 = .bool true from d0) (congrArg Value.bool (rfl : true = _))) (by simp [boolOf]) (fun _ => rfl) ?_
                    refine each_consS false (.bool true) r rfl rfl rfl (fun u w' hd => by obtain ⟨d0, d1, d2, _⟩ := hd; exact Eq.trans (show u 31 = .bool true from d1) (congrArg Value.bool (rfl : true = _))) (by simp [boolOf]) (fun _ => rfl) ?_
                    refine each_consS false (.bool true) r rfl rfl rfl (fun u w' hd => by obtain ⟨d0, d1, _⟩ := hd; exact Eq.trans (show u 31 = .bool true from d1) (congrArg Value.bool (rfl : true = _))) (by simp [boolOf]) (fun _ => rfl) ?_
                    exact each_nil
                  · skip
                    intro fr u w28 hb hΦ hne r
                    have g0 : u 0 = (.agg (planC ({ a0 with nodes := (IntKind.i64.wrap (a0.nodes + 1)) })).toArray) := hΦ 0 (by decide)
                    have g1 : u 1 = (.int .i64 (D.plan_Plan_Size ({ a0 with nodes := (IntKind.i64.wrap (a0.nodes + 1)) }))) := hΦ 1 (by decide)
                    have g2 : u 2 = (.agg (planC a0).toArray) := hΦ 2 (by decide)
                    have g3 : u 3 = (.int .i64 (D.plan_Plan_Size a0)) := hΦ 3 (by decide)
                    have g4 : u 4 = (.int .i64 (IntKind.i64.wrap ((D.plan_Plan_Size a0) + 5))) := hΦ 4 (by decide)
                    have g5 : u 5 = (.bool ((D.plan_Plan_Size ({ a0 with nodes := (IntKind.i64.wrap (a0.nodes + 1)) })) != (IntKind.i64.wrap ((D.plan_Plan_Size a0) + 5)))) := hΦ 5 (by decide)
                    have g6 : u 6 = (.bool ((D.plan_Plan_Size ({ a0 with nodes := (IntKind.i64.wrap (a0.nodes + 1)) })) != (IntKind.i64.wrap ((D.plan_Plan_Size a0) + 5)))) := hΦ 6 (by decide)
                    have g7 : u 7 = (.agg (planC ({ a0 with nodes := (IntKind.i64.wrap (a0.nodes + 1)) })).toArray) := hΦ 7 (by decide)
                    have g8 : u 8 = (.pointer (some ⟨b1, 0, none⟩)) := hΦ 8 (by decide)
                    have g9 : u 9 = (.int .i64 a0.nodes) := hΦ 9 (by decide)
                    have g10 : u 10 = (.int .i64 (D.plan_Plan_State ({ a0 with nodes := (IntKind.i64.wrap (a0.nodes + 1)) }) a0.nodes)) := hΦ 10 (by decide)
                    have g11 : u 11 = (.agg (planC a0).toArray) := hΦ 11 (by decide)
                    have g12 : u 12 = (.int .i64 (D.plan_Plan_Size a0)) := hΦ 12 (by decide)
                    have g13 : u 13 = (.bool ((D.plan_Plan_State ({ a0 with nodes := (IntKind.i64.wrap (a0.nodes + 1)) }) a0.nodes) != (D.plan_Plan_Size a0))) := hΦ 13 (by decide)
                    have g14 : u 14 = (.bool ((D.plan_Plan_State ({ a0 with nodes := (IntKind.i64.wrap (a0.nodes + 1)) }) a0.nodes) != (D.plan_Plan_Size a0))) := hΦ 14 (by decide)
                    have g15 : u 15 = (.bool ((D.plan_Plan_State ({ a0 with nodes := (IntKind.i64.wrap (a0.nodes + 1)) }) a0.nodes) != (D.plan_Plan_Size a0))) := hΦ 15 (by decide)
                    have g16 : u 16 = (.agg (planC ({ a0 with nodes := (IntKind.i64.wrap (a0.nodes + 1)) })).toArray) := hΦ 16 (by decide)
                    have g17 : u 17 = (.int .i64 x20) := hΦ 17 (by decide)
                    have g18 : u 18 = (.int .i64 (D.plan_Plan_Field ({ a0 with nodes := (IntKind.i64.wrap (a0.nodes + 1)) }) x20 1)) := hΦ 18 (by decide)
                    have g19 : u 19 = (.agg (planC a0).toArray) := hΦ 19 (by decide)
                    have g20 : u 20 = (.int .i64 x20) := hΦ 20 (by decide)
                    have g21 : u 21 = (.int .i64 (D.plan_Plan_Field a0 x20 1)) := hΦ 21 (by decide)
                    have g22 : u 22 = (.bool ((D.plan_Plan_Field ({ a0 with nodes := (IntKind.i64.wrap (a0.nodes + 1)) }) x20 1) != (D.plan_Plan_Field a0 x20 1))) := hΦ 22 (by decide)
                    have g23 : u 23 = (.bool ((D.plan_Plan_Field ({ a0 with nodes := (IntKind.i64.wrap (a0.nodes + 1)) }) x20 1) != (D.plan_Plan_Field a0 x20 1))) := hΦ 23 (by decide)
                    have g24 : u 24 = (.bool ((D.plan_Plan_Field ({ a0 with nodes := (IntKind.i64.wrap (a0.nodes + 1)) }) x20 1) != (D.plan_Plan_Field a0 x20 1))) := hΦ 24 (by decide)
                    have g25 : u 25 = undef := hΦ 25 (by decide)
                    have g26 : u 26 = undef := hΦ 26 (by decide)
                    have g27 : u 27 = undef := hΦ 27 (by decide)
                    have g28 : u 28 = undef := hΦ 28 (by decide)
                    have g29 : u 29 = undef := hΦ 29 (by decide)
                    have g30 : u 30 = (.bool true) := hΦ 30 (by decide)
                    have g31 : u 31 = (.bool true) := hΦ 31 (by decide)
                    have g32 : u 32 = undef := hΦ 32 (by decide)
                    have g33 : u 33 = undef := hΦ 33 (by decide)
                    have g34 : u 34 = undef := hΦ 34 (by decide)
                    have r := r.congr (sc g34 (sc g33 (sc g32 (sc g31 (sc g30 (sc g29 (sc g28 (sc g27 (sc g26 (sc g25 (sc g24 (sc g23 (sc g22 (sc g21 (sc g20 (sc g19 (sc g18 (sc g17 (sc g16 (sc g15 (sc g14 (sc g13 (sc g12 (sc g11 (sc g10 (sc g9 (sc g8 (sc g7 (sc g6 (sc g5 (sc g4 (sc g3 (sc g2 (sc g1 (sc g0 rfl)))))))))))))))))))))))))))))))))))
                    have z_w28 := hb.size
                    have h_b1 := keep hb h_b1
                    have h_b14 := keep hb h_b14
                    have h_b15 := keep hb h_b15
                    have hB := hB.trans (hb.mono hB.size)
                    have zB := hB.size
                    refine seq_val (.bool true) r (fun R => y_pick r (b := true) (congrArg Value.bool (rfl : true = _)) rfl) rfl fun fr r => ?_
                    refine wpList_nil ?_
                    refine wp_cond_split (t := true) (r.ev rfl) (fun _ => ?_) (fun h => absurd ((rfl : true = _).symm.trans h) (by decide))
                    refine wp_seq ?_
                    refine wp_region_lit ?_
                    refine seq_val (.bool false) r (fun R => y_assign r rfl) rfl fun fr r => ?_
                    refine wpList_nil ?_
                    refine wp_ret ?_
                    have hd : D.cubiclelaw06_PlanMore a0 a1 = false := by subst hx20; exact (cond_f h5).trans ((cond_f h8).trans ((cond_f h11).trans ((cond_f h23).trans ((cond_f h25).trans ((cond_t h27).trans (rfl))))))
                    refine ret_tmp r rfl (v := (.bool false)) rfl ?_
                    rw [hd]
                    exact ⟨rfl, hB⟩
                · skip
                  refine seq_split ((D.plan_Plan_Hazard ({ a0 with nodes := (IntKind.i64.wrap (a0.nodes + 1)) }) 0 2) != (D.plan_Plan_Hazard a0 0 2)) (fun h29 => ?_) (fun h29 => ?_)
                  · skip
                    refine wp_drawnF 35 [.val (.agg (planC ({ a0 with nodes := (IntKind.i64.wrap (a0.nodes + 1)) })).toArray), .val (.int .i64 (D.plan_Plan_Size ({ a0 with nodes := (IntKind.i64.wrap (a0.nodes + 1)) }))), .val (.agg (planC a0).toArray), .val (.int .i64 (D.plan_Plan_Size a0)), .val (.int .i64 (IntKind.i64.wrap ((D.plan_Plan_Size a0) + 5))), .val (.bool ((D.plan_Plan_Size ({ a0 with nodes := (IntKind.i64.wrap (a0.nodes + 1)) })) != (IntKind.i64.wrap ((D.plan_Plan_Size a0) + 5)))), .val (.bool ((D.plan_Plan_Size ({ a0 with nodes := (IntKind.i64.wrap (a0.nodes + 1)) })) != (IntKind.i64.wrap ((D.plan_Plan_Size a0) + 5)))), .val (.agg (planC ({ a0 with nodes := (IntKind.i64.wrap (a0.nodes + 1)) })).toArray), .val (.pointer (some ⟨b1, 0, none⟩)), .val (.int .i64 a0.nodes), .val (.int .i64 (D.plan_Plan_State ({ a0 with nodes := (IntKind.i64.wrap (a0.nodes + 1)) }) a0.nodes)), .val (.agg (planC a0).toArray), .val (.int .i64 (D.plan_Plan_Size a0)), .val (.bool ((D.plan_Plan_State ({ a0 with nodes := (IntKind.i64.wrap (a0.nodes + 1)) }) a0.nodes) != (D.plan_Plan_Size a0))), .val (.bool ((D.plan_Plan_State ({ a0 with nodes := (IntKind.i64.wrap (a0.nodes + 1)) }) a0.nodes) != (D.plan_Plan_Size a0))), .val (.bool ((D.plan_Plan_State ({ a0 with nodes := (IntKind.i64.wrap (a0.nodes + 1)) }) a0.nodes) != (D.plan_Plan_Size a0))), .val (.agg (planC ({ a0 with nodes := (IntKind.i64.wrap (a0.nodes + 1)) })).toArray), .val (.int .i64 x20), .val (.int .i64 (D.plan_Plan_Field ({ a0 with nodes := (IntKind.i64.wrap (a0.nodes + 1)) }) x20 1)), .val (.agg (planC a0).toArray), .val (.int .i64 x20), .val (.int .i64 (D.plan_Plan_Field a0 x20 1)), .val (.bool ((D.plan_Plan_Field ({ a0 with nodes := (IntKind.i64.wrap (a0.nodes + 1)) }) x20 1) != (D.plan_Plan_Field a0 x20 1))), .val (.bool ((D.plan_Plan_Field ({ a0 with nodes := (IntKind.i64.wrap (a0.nodes + 1)) }) x20 1) != (D.plan_Plan_Field a0 x20 1))), .val (.bool ((D.plan_Plan_Field ({ a0 with nodes := (IntKind.i64.wrap (a0.nodes + 1)) }) x20 1) != (D.plan_Plan_Field a0 x20 1))), .val (.agg (planC ({ a0 with nodes := (IntKind.i64.wrap (a0.nodes + 1)) })).toArray), .val (.int .i64 (D.plan_Plan_Hazard ({ a0 with nodes := (IntKind.i64.wrap (a0.nodes + 1)) }) 0 2)), .val (.agg (planC a0).toArray), .val (.int .i64 (D.plan_Plan_Hazard a0 0 2)), .val (.bool ((D.plan_Plan_Hazard ({ a0 with nodes := (IntKind.i64.wrap (a0.nodes + 1)) }) 0 2) != (D.plan_Plan_Hazard a0 0 2))), .val (.bool ((D.plan_Plan_Hazard ({ a0 with nodes := (IntKind.i64.wrap (a0.nodes + 1)) }) 0 2) != (D.plan_Plan_Hazard a0 0 2))), .val (.bool ((D.plan_Plan_Hazard ({ a0 with nodes := (IntKind.i64.wrap (a0.nodes + 1)) }) 0 2) != (D.plan_Plan_Hazard a0 0 2))), .val undef, .val undef, .val undef] mixed r (by kernel_rfl) (within_cons (by exact trivial) (within_cons (by exact trivial) (within_cons (by exact trivial) (within_cons (by exact trivial) (within_cons (by exact trivial) (within_cons (by exact trivial) (within_cons (by exact trivial) (within_cons (by exact trivial) (within_cons (by exact trivial) (within_cons (by exact trivial) (within_cons (by exact trivial) (within_cons (by exact trivial) (within_cons (by exact trivial) (within_cons (by exact trivial) (within_cons (by exact trivial) (within_cons (by exact trivial) (within_cons (by exact trivial) (within_cons (by exact trivial) (within_cons (by exact trivial) (within_cons (by exact trivial) (within_cons (by exact trivial) (within_cons (by exact trivial) (within_cons (by exact trivial) (within_cons (by exact trivial) (within_cons (by exact trivial) (within_cons (by exact trivial) (within_cons (by exact trivial) (within_cons (by exact trivial) (within_cons (by exact trivial) (within_cons (by exact trivial) (within_cons (by exact trivial) (within_cons (by exact trivial) (within_cons (by exact trivial) (within_cons (by exact trivial) (within_cons (by exact trivial) within_nil))))))))))))))))))))))))))))))))))) ?_ ?_
                    · skip
                      refine each_consF r rfl (fun fr1 u w' hb' hd r' => ?_) ?_
                      · exact y_load_agg r' (cs := (planC ({ a0 with nodes := (IntKind.i64.wrap (a0.nodes + 1)) }))) (n := 6) rfl (keep hb' h_b14) ta24 rfl ⟨Below.refl _ _, rfl⟩
                      refine each_consF r rfl (fun fr1 u w' hb' hd r' => ?_) ?_
                      · obtain ⟨d0, _⟩ := hd; exact y_call r' (args := [(.agg (planC ({ a0 with nodes := (IntKind.i64.wrap (a0.nodes + 1)) })).toArray)]) (lc d0 l0) cl21 ((c_plan_Plan_Size _ ({ a0 with nodes := (IntKind.i64.wrap (a0.nodes + 1)) })).mono (by rintro _ w2 ⟨rfl, hb2⟩; exact ⟨_, rfl, hb2, rfl⟩))
                      refine each_consF r rfl (fun fr1 u w' hb' hd r' => ?_) ?_
                      · exact y_load_agg r' (cs := (planC a0)) (n := 6) rfl (keep hb' h_b1) ta24 rfl ⟨Below.refl _ _, rfl⟩
                      refine each_consF r rfl (fun fr1 u w' hb' hd r' => ?_) ?_
                      · obtain ⟨d0, d1, _⟩ := hd; exact y_call r' (args := [(.agg (planC a0).toArray)]) (lc d0 l0) cl21 ((c_plan_Plan_Size _ a0).mono (by rintro _ w2 ⟨rfl, hb2⟩; exact ⟨_, rfl, hb2, rfl⟩))
                      refine each_consF r rfl (fun fr1 u w' hb' hd r' => ?_) ?_
                      · obtain ⟨d0, _⟩ := hd; exact y_bin r' (u := (.int .i64 (D.plan_Plan_Size a0))) (u' := (.int .i64 5)) (v := (.int .i64 (IntKind.i64.wrap ((D.plan_Plan_Size a0) + 5)))) d0 rfl rfl rfl ⟨Below.refl _ _, rfl⟩
                      refine each_consF r rfl (fun fr1 u w' hb' hd r' => ?_) ?_
                      · obtain ⟨d0, d1, _⟩ := hd; exact y_bin r' (u := (.int .i64 (D.plan_Plan_Size ({ a0 with nodes := (IntKind.i64.wrap (a0.nodes + 1)) })))) (u' := (.int .i64 (IntKind.i64.wrap ((D.plan_Plan_Size a0) + 5)))) (v := (.bool ((D.plan_Plan_Size ({ a0 with nodes := (IntKind.i64.wrap (a0.nodes + 1)) })) != (IntKind.i64.wrap ((D.plan_Plan_Size a0) + 5))))) d0 d1 rfl rfl ⟨Below.refl _ _, rfl⟩
                      refine each_consF r rfl (fun fr1 u w' hb' hd r' => ?_) ?_
                      · obtain ⟨d0, d1, _⟩ := hd; exact y_move r' (v := (.bool ((D.plan_Plan_Size ({ a0 with nodes := (IntKind.i64.wrap (a0.nodes + 1)) })) != (IntKind.i64.wrap ((D.plan_Plan_Size a0) + 5))))) d0 ⟨Below.refl _ _, rfl⟩
                      refine each_consW false r rfl rfl rfl (fun u w' hd => by obtain ⟨d0, _⟩ := hd; exact Eq.trans (show u 6 = .bool ((D.plan_Plan_Size ({ a0 with nodes := (IntKind.i64.wrap (a0.nodes + 1)) })) != (IntKind.i64.wrap ((D.plan_Plan_Size a0) + 5))) from d0) (congrArg Value.bool h23)) (fun fr1 u w' hb' hd r' => ?_) ?_
                      · obtain ⟨d0, _⟩ := hd; exact y_load_agg r' (cs := (planC ({ a0 with nodes := (IntKind.i64.wrap (a0.nodes + 1)) }))) (n := 6) rfl (keep hb' h_b14) ta24 rfl ⟨Below.refl _ _, rfl⟩
                      refine each_consW false r rfl rfl rfl (fun u w' hd => by obtain ⟨d0, _⟩ := hd; exact Eq.trans (show u 6 = .bool ((D.plan_Plan_Size ({ a0 with nodes := (IntKind.i64.wrap (a0.nodes + 1)) })) != (IntKind.i64.wrap ((D.plan_Plan_Size a0) + 5))) from d0) (congrArg Value.bool h23)) (fun fr1 u w' hb' hd r' => ?_) ?_
                      · obtain ⟨d0, _⟩ := hd; exact y_fieldAddr r' (b := b1) (o := 0) (k := 0) rfl fo24_0 ⟨Below.refl _ _, rfl⟩
                      refine each_consW false r rfl rfl rfl (fun u w' hd => by obtain ⟨d0, d1, _⟩ := hd; exact Eq.trans (show u 6 = .bool ((D.plan_Plan_Size ({ a0 with nodes := (IntKind.i64.wrap (a0.nodes + 1)) })) != (IntKind.i64.wrap ((D.plan_Plan_Size a0) + 5))) from d1) (congrArg Value.bool h23)) (fun fr1 u w' hb' hd r' => ?_) ?_
                      · obtain ⟨d0, d1, _⟩ := hd; exact y_load_one r' (v := (.int .i64 a0.nodes)) d0 (keep hb' h_b1) to3 rfl ⟨Below.refl _ _, rfl⟩
                      refine each_consW false r rfl rfl rfl (fun u w' hd => by obtain ⟨d0, d1, d2, d3, _⟩ := hd; exact Eq.trans (show u 6 = .bool ((D.plan_Plan_Size ({ a0 with nodes := (IntKind.i64.wrap (a0.nodes + 1)) })) != (IntKind.i64.wrap ((D.plan_Plan_Size a0) + 5))) from d2) (congrArg Value.bool h23)) (fun fr1 u w' hb' hd r' => ?_) ?_
                      · obtain ⟨d0, d1, d2, d3, _⟩ := hd; exact y_call r' (args := [(.agg (planC ({ a0 with nodes := (IntKind.i64.wrap (a0.nodes + 1)) })).toArray), (.int .i64 a0.nodes)]) (lc d0 (lc d1 l0)) cl25 ((c_plan_Plan_State _ ({ a0 with nodes := (IntKind.i64.wrap (a0.nodes + 1)) }) a0.nodes).mono (by rintro _ w2 ⟨rfl, hb2⟩; exact ⟨_, rfl, hb2, rfl⟩))
                      refine each_consW false r rfl rfl rfl (fun u w' hd => by obtain ⟨d0, _⟩ := hd; exact Eq.trans (show u 6 = .bool ((D.plan_Plan_Size ({ a0 with nodes := (IntKind.i64.wrap (a0.nodes + 1)) })) != (IntKind.i64.wrap ((D.plan_Plan_Size a0) + 5))) from d0) (congrArg Value.bool h23)) (fun fr1 u w' hb' hd r' => ?_) ?_
                      · obtain ⟨d0, _⟩ := hd; exact y_load_agg r' (cs := (planC a0)) (n := 6) rfl (keep hb' h_b1) ta24 rfl ⟨Below.refl _ _, rfl⟩
                      refine each_consW false r rfl rfl rfl (fun u w' hd => by obtain ⟨d0, d1, d2, _⟩ := hd; exact Eq.trans (show u 6 = .bool ((D.plan_Plan_Size ({ a0 with nodes := (IntKind.i64.wrap (a0.nodes + 1)) })) != (IntKind.i64.wrap ((D.plan_Plan_Size a0) + 5))) from d2) (congrArg Value.bool h23)) (fun fr1 u w' hb' hd r' => ?_) ?_
                      · obtain ⟨d0, d1, d2, _⟩ := hd; exact y_call r' (args := [(.agg (planC a0).toArray)]) (lc d0 l0) cl21 ((c_plan_Plan_Size _ a0).mono (by rintro _ w2 ⟨rfl, hb2⟩; exact ⟨_, rfl, hb2, rfl⟩))
                      refine each_consW false r rfl rfl rfl (fun u w' hd => by obtain ⟨d0, d1, d2, _⟩ := hd; exact Eq.trans (show u 6 = .bool ((D.plan_Plan_Size ({ a0 with nodes := (IntKind.i64.wrap (a0.nodes + 1)) })) != (IntKind.i64.wrap ((D.plan_Plan_Size a0) + 5))) from d2) (congrArg Value.bool h23)) (fun fr1 u w' hb' hd r' => ?_) ?_
                      · obtain ⟨d0, d1, d2, _⟩ := hd; exact y_bin r' (u := (.int .i64 (D.plan_Plan_State ({ a0 with nodes := (IntKind.i64.wrap (a0.nodes + 1)) }) a0.nodes))) (u' := (.int .i64 (D.plan_Plan_Size a0))) (v := (.bool ((D.plan_Plan_State ({ a0 with nodes := (IntKind.i64.wrap (a0.nodes + 1)) }) a0.nodes) != (D.plan_Plan_Size a0)))) d0 d1 rfl rfl ⟨Below.refl _ _, rfl⟩
                      refine each_consF r rfl (fun fr1 u w' hb' hd r' => ?_) ?_
                      · obtain ⟨d0, d1, _⟩ := hd; exact y_pick r' (b := false) (v := (.bool ((D.plan_Plan_State ({ a0 with nodes := (IntKind.i64.wrap (a0.nodes + 1)) }) a0.nodes) != (D.plan_Plan_Size a0)))) (Eq.trans (show u 6 = .bool ((D.plan_Plan_Size ({ a0 with nodes := (IntKind.i64.wrap (a0.nodes + 1)) })) != (IntKind.i64.wrap ((D.plan_Plan_Size a0) + 5))) from d0) (congrArg Value.bool h23)) d1 ⟨Below.refl _ _, rfl⟩
                      refine each_consF r rfl (fun fr1 u w' hb' hd r' => ?_) ?_
                      · obtain ⟨d0, d1, _⟩ := hd; exact y_move r' (v := (.bool ((D.plan_Plan_State ({ a0 with nodes := (IntKind.i64.wrap (a0.nodes + 1)) }) a0.nodes) != (D.plan_Plan_Size a0)))) d0 ⟨Below.refl _ _, rfl⟩
                      refine each_consW false r rfl rfl rfl (fun u w' hd => by obtain ⟨d0, _⟩ := hd; exact Eq.trans (show u 15 = .bool ((D.plan_Plan_State ({ a0 with nodes := (IntKind.i64.wrap (a0.nodes + 1)) }) a0.nodes) != (D.plan_Plan_Size a0)) from d0) (congrArg Value.bool h25)) (fun fr1 u w' hb' hd r' => ?_) ?_
                      · obtain ⟨d0, _⟩ := hd; exact y_load_agg r' (cs := (planC ({ a0 with nodes := (IntKind.i64.wrap (a0.nodes + 1)) }))) (n := 6) rfl (keep hb' h_b14) ta24 rfl ⟨Below.refl _ _, rfl⟩
                      refine each_consW false r rfl rfl rfl (fun u w' hd => by obtain ⟨d0, _⟩ := hd; exact Eq.trans (show u 15 = .bool ((D.plan_Plan_State ({ a0 with nodes := (IntKind.i64.wrap (a0.nodes + 1)) }) a0.nodes) != (D.plan_Plan_Size a0)) from d0) (congrArg Value.bool h25)) (fun fr1 u w' hb' hd r' => ?_) ?_
                      · obtain ⟨d0, _⟩ := hd; exact y_move r' (v := (.int .i64 x20)) rfl ⟨Below.refl _ _, rfl⟩
                      refine each_consW false r rfl rfl rfl (fun u w' hd => by obtain ⟨d0, d1, d2, d3, _⟩ := hd; exact Eq.trans (show u 15 = .bool ((D.plan_Plan_State ({ a0 with nodes := (IntKind.i64.wrap (a0.nodes + 1)) }) a0.nodes) != (D.plan_Plan_Size a0)) from d2) (congrArg Value.bool h25)) (fun fr1 u w' hb' hd r' => ?_) ?_
                      · obtain ⟨d0, d1, d2, d3, _⟩ := hd; exact y_call r' (args := [(.agg (planC ({ a0 with nodes := (IntKind.i64.wrap (a0.nodes + 1)) })).toArray), (.int .i64 x20), (.int .i64 1)]) (lc d0 (lc d1 (lc rfl l0))) cl20 ((c_plan_Plan_Field _ ({ a0 with nodes := (IntKind.i64.wrap (a0.nodes + 1)) }) x20 1).mono (by rintro _ w2 ⟨rfl, hb2⟩; exact ⟨_, rfl, hb2, rfl⟩))
                      refine each_consW false r rfl rfl rfl (fun u w' hd => by obtain ⟨d0, _⟩ := hd; exact Eq.trans (show u 15 = .bool ((D.plan_Plan_State ({ a0 with nodes := (IntKind.i64.wrap (a0.nodes + 1)) }) a0.nodes) != (D.plan_Plan_Size a0)) from d0) (congrArg Value.bool h25)) (fun fr1 u w' hb' hd r' => ?_) ?_
                      · obtain ⟨d0, _⟩ := hd; exact y_load_agg r' (cs := (planC a0)) (n := 6) rfl (keep hb' h_b1) ta24 rfl ⟨Below.refl _ _, rfl⟩
                      refine each_consW false r rfl rfl rfl (fun u w' hd => by obtain ⟨d0, _⟩ := hd; exact Eq.trans (show u 15 = .bool ((D.plan_Plan_State ({ a0 with nodes := (IntKind.i64.wrap (a0.nodes + 1)) }) a0.nodes) != (D.plan_Plan_Size a0)) from d0) (congrArg Value.bool h25)) (fun fr1 u w' hb' hd r' => ?_) ?_
                      · obtain ⟨d0, _⟩ := hd; exact y_move r' (v := (.int .i64 x20)) rfl ⟨Below.refl _ _, rfl⟩
                      refine each_consW false r rfl rfl rfl (fun u w' hd => by obtain ⟨d0, d1, d2, d3, _⟩ := hd; exact Eq.trans (show u 15 = .bool ((D.plan_Plan_State ({ a0 with nodes := (IntKind.i64.wrap (a0.nodes + 1)) }) a0.nodes) != (D.plan_Plan_Size a0)) from d3) (congrArg Value.bool h25)) (fun fr1 u w' hb' hd r' => ?_) ?_
                      · obtain ⟨d0, d1, d2, d3, _⟩ := hd; exact y_call r' (args := [(.agg (planC a0).toArray), (.int .i64 x20), (.int .i64 1)]) (lc d0 (lc d1 (lc rfl l0))) cl20 ((c_plan_Plan_Field _ a0 x20 1).mono (by rintro _ w2 ⟨rfl, hb2⟩; exact ⟨_, rfl, hb2, rfl⟩))
                      refine each_consW false r rfl rfl rfl (fun u w' hd => by obtain ⟨d0, d1, d2, _⟩ := hd; exact Eq.trans (show u 15 = .bool ((D.plan_Plan_State ({ a0 with nodes := (IntKind.i64.wrap (a0.nodes + 1)) }) a0.nodes) != (D.plan_Plan_Size a0)) from d2) (congrArg Value.bool h25)) (fun fr1 u w' hb' hd r' => ?_) ?_
                      · obtain ⟨d0, d1, d2, _⟩ := hd; exact y_bin r' (u := (.int .i64 (D.plan_Plan_Field ({ a0 with nodes := (IntKind.i64.wrap (a0.nodes + 1)) }) x20 1))) (u' := (.int .i64 (D.plan_Plan_Field a0 x20 1))) (v := (.bool ((D.plan_Plan_Field ({ a0 with nodes := (IntKind.i64.wrap (a0.nodes + 1)) }) x20 1) != (D.plan_Plan_Field a0 x20 1)))) d0 d1 rfl rfl ⟨Below.refl _ _, rfl⟩
                      refine each_consF r rfl (fun fr1 u w' hb' hd r' => ?_) ?_
                      · obtain ⟨d0, d1, _⟩ := hd; exact y_pick r' (b := false) (v := (.bool ((D.plan_Plan_Field ({ a0 with nodes := (IntKind.i64.wrap (a0.nodes + 1)) }) x20 1) != (D.plan_Plan_Field a0 x20 1)))) (Eq.trans (show u 15 = .bool ((D.plan_Plan_State ({ a0 with nodes := (IntKind.i64.wrap (a0.nodes + 1)) }) a0.nodes) != (D.plan_Plan_Size a0)) from d0) (congrArg Value.bool h25)) d1 ⟨Below.refl _ _, rfl⟩
                      refine each_consF r rfl (fun fr1 u w' hb' hd r' => ?_) ?_
                      · obtain ⟨d0, d1, _⟩ := hd; exact y_move r' (v := (.bool ((D.plan_Plan_Field ({ a0 with nodes := (IntKind.i64.wrap (a0.nodes + 1)) }) x20 1) != (D.plan_Plan_Field a0 x20 1)))) d0 ⟨Below.refl _ _, rfl⟩
                      refine each_consW false r rfl rfl rfl (fun u w' hd => by obtain ⟨d0, _⟩ := hd; exact Eq.trans (show u 24 = .bool ((D.plan_Plan_Field ({ a0 with nodes := (IntKind.i64.wrap (a0.nodes + 1)) }) x20 1) != (D.plan_Plan_Field a0 x20 1)) from d0) (congrArg Value.bool h27)) (fun fr1 u w' hb' hd r' => ?_) ?_
                      · obtain ⟨d0, _⟩ := hd; exact y_load_agg r' (cs := (planC ({ a0 with nodes := (IntKind.i64.wrap (a0.nodes + 1)) }))) (n := 6) rfl (keep hb' h_b14) ta24 rfl ⟨Below.refl _ _, rfl⟩
                      refine each_consW false r rfl rfl rfl (fun u w' hd => by obtain ⟨d0, d1, d2, _⟩ := hd; exact Eq.trans (show u 24 = .bool ((D.plan_Plan_Field ({ a0 with nodes := (IntKind.i64.wrap (a0.nodes + 1)) }) x20 1) != (D.plan_Plan_Field a0 x20 1)) from d1) (congrArg Value.bool h27)) (fun fr1 u w' hb' hd r' => ?_) ?_
                      · obtain ⟨d0, d1, d2, _⟩ := hd; exact y_call r' (args := [(.agg (planC ({ a0 with nodes := (IntKind.i64.wrap (a0.nodes + 1)) })).toArray), (.int .i64 0), (.int .i64 2)]) (lc d0 (lc rfl (lc rfl l0))) cl27 ((c_plan_Plan_Hazard _ ({ a0 with nodes := (IntKind.i64.wrap (a0.nodes + 1)) }) 0 2).mono (by rintro _ w2 ⟨rfl, hb2⟩; exact ⟨_, rfl, hb2, rfl⟩))
                      refine each_consW false r rfl rfl rfl (fun u w' hd => by obtain ⟨d0, _⟩ := hd; exact Eq.trans (show u 24 = .bool ((D.plan_Plan_Field ({ a0 with nodes := (IntKind.i64.wrap (a0.nodes + 1)) }) x20 1) != (D.plan_Plan_Field a0 x20 1)) from d0) (congrArg Value.bool h27)) (fun fr1 u w' hb' hd r' => ?_) ?_
                      · obtain ⟨d0, _⟩ := hd; exact y_load_agg r' (cs := (planC a0)) (n := 6) rfl (keep hb' h_b1) ta24 rfl ⟨Below.refl _ _, rfl⟩
                      refine each_consW false r rfl rfl rfl (fun u w' hd => by obtain ⟨d0, d1, d2, _⟩ := hd; exact Eq.trans (show u 24 = .bool ((D.plan_Plan_Field ({ a0 with nodes := (IntKind.i64.wrap (a0.nodes + 1)) }) x20 1) != (D.plan_Plan_Field a0 x20 1)) from d2) (congrArg Value.bool h27)) (fun fr1 u w' hb' hd r' => ?_) ?_
                      · obtain ⟨d0, d1, d2, _⟩ := hd; exact y_call r' (args := [(.agg (planC a0).toArray), (.int .i64 0), (.int .i64 2)]) (lc d0 (lc rfl (lc rfl l0))) cl27 ((c_plan_Plan_Hazard _ a0 0 2).mono (by rintro _ w2 ⟨rfl, hb2⟩; exact ⟨_, rfl, hb2, rfl⟩))
                      refine each_consW false r rfl rfl rfl (fun u w' hd => by obtain ⟨d0, d1, d2, _⟩ := hd; exact Eq.trans (show u 24 = .bool ((D.plan_Plan_Field ({ a0 with nodes := (IntKind.i64.wrap (a0.nodes + 1)) }) x20 1) != (D.plan_Plan_Field a0 x20 1)) from d2) (congrArg Value.bool h27)) (fun fr1 u w' hb' hd r' => ?_) ?_
                      · obtain ⟨d0, d1, d2, _⟩ := hd; exact y_bin r' (u := (.int .i64 (D.plan_Plan_Hazard ({ a0 with nodes := (IntKind.i64.wrap (a0.nodes + 1)) }) 0 2))) (u' := (.int .i64 (D.plan_Plan_Hazard a0 0 2))) (v := (.bool ((D.plan_Plan_Hazard ({ a0 with nodes := (IntKind.i64.wrap (a0.nodes + 1)) }) 0 2) != (D.plan_Plan_Hazard a0 0 2)))) d0 d1 rfl rfl ⟨Below.refl _ _, rfl⟩
                      refine each_consF r rfl (fun fr1 u w' hb' hd r' => ?_) ?_
                      · obtain ⟨d0, d1, _⟩ := hd; exact y_pick r' (b := false) (v := (.bool ((D.plan_Plan_Hazard ({ a0 with nodes := (IntKind.i64.wrap (a0.nodes + 1)) }) 0 2) != (D.plan_Plan_Hazard a0 0 2)))) (Eq.trans (show u 24 = .bool ((D.plan_Plan_Field ({ a0 with nodes := (IntKind.i64.wrap (a0.nodes + 1)) }) x20 1) != (D.plan_Plan_Field a0 x20 1)) from d0) (congrArg Value.bool h27)) d1 ⟨Below.refl _ _, rfl⟩
                      refine each_consF r rfl (fun fr1 u w' hb' hd r' => ?_) ?_
                      · obtain ⟨d0, d1, _⟩ := hd; exact y_move r' (v := (.bool ((D.plan_Plan_Hazard ({ a0 with nodes := (IntKind.i64.wrap (a0.nodes + 1)) }) 0 2) != (D.plan_Plan_Hazard a0 0 2)))) d0 ⟨Below.refl _ _, rfl⟩
                      refine each_consS false (.bool true) r rfl rfl rfl (fun u w' hd => by obtain ⟨d0, _⟩ := hd; exact Eq.trans (show u 31 = .bool ((D.plan_Plan_Hazard ({ a0 with nodes := (IntKind.i64.wrap (a0.nodes + 1)) }) 0 2) != (D.plan_Plan_Hazard a0 0 2)) from d0) (congrArg Value.bool h29)) (by simp [boolOf]) (fun _ => rfl) ?_
                      refine each_consS false (.bool true) r rfl rfl rfl (fun u w' hd => by obtain ⟨d0, d1, d2, _⟩ := hd; exact Eq.trans (show u 31 = .bool ((D.plan_Plan_Hazard ({ a0 with nodes := (IntKind.i64.wrap (a0.nodes + 1)) }) 0 2) != (D.plan_Plan_Hazard a0 0 2)) from d1) (congrArg Value.bool h29)) (by simp [boolOf]) (fun _ => rfl) ?_
                      refine each_consS false (.bool true) r rfl rfl rfl (fun u w' hd => by obtain ⟨d0, d1, _⟩ := hd; exact Eq.trans (show u 31 = .bool ((D.plan_Plan_Hazard ({ a0 with nodes := (IntKind.i64.wrap (a0.nodes + 1)) }) 0 2) != (D.plan_Plan_Hazard a0 0 2)) from d1) (congrArg Value.bool h29)) (by simp [boolOf]) (fun _ => rfl) ?_
                      exact each_nil
                    · skip
                      intro fr u w30 hb hΦ hne r
                      have g0 : u 0 = (.agg (planC ({ a0 with nodes := (IntKind.i64.wrap (a0.nodes + 1)) })).toArray) := hΦ 0 (by decide)
                      have g1 : u 1 = (.int .i64 (D.plan_Plan_Size ({ a0 with nodes := (IntKind.i64.wrap (a0.nodes + 1)) }))) := hΦ 1 (by decide)
                      have g2 : u 2 = (.agg (planC a0).toArray) := hΦ 2 (by decide)
                      have g3 : u 3 = (.int .i64 (D.plan_Plan_Size a0)) := hΦ 3 (by decide)
                      have g4 : u 4 = (.int .i64 (IntKind.i64.wrap ((D.plan_Plan_Size a0) + 5))) := hΦ 4 (by decide)
                      have g5 : u 5 = (.bool ((D.plan_Plan_Size ({ a0 with nodes := (IntKind.i64.wrap (a0.nodes + 1)) })) != (IntKind.i64.wrap ((D.plan_Plan_Size a0) + 5)))) := hΦ 5 (by decide)
                      have g6 : u 6 = (.bool ((D.plan_Plan_Size ({ a0 with nodes := (IntKind.i64.wrap (a0.nodes + 1)) })) != (IntKind.i64.wrap ((D.plan_Plan_Size a0) + 5)))) := hΦ 6 (by decide)
                      have g7 : u 7 = (.agg (planC ({ a0 with nodes := (IntKind.i64.wrap (a0.nodes + 1)) })).toArray) := hΦ 7 (by decide)
                      have g8 : u 8 = (.pointer (some ⟨b1, 0, none⟩)) := hΦ 8 (by decide)
                      have g9 : u 9 = (.int .i64 a0.nodes) := hΦ 9 (by decide)
                      have g10 : u 10 = (.int .i64 (D.plan_Plan_State ({ a0 with nodes := (IntKind.i64.wrap (a0.nodes + 1)) }) a0.nodes)) := hΦ 10 (by decide)
                      have g11 : u 11 = (.agg (planC a0).toArray) := hΦ 11 (by decide)
                      have g12 : u 12 = (.int .i64 (D.plan_Plan_Size a0)) := hΦ 12 (by decide)
                      have g13 : u 13 = (.bool ((D.plan_Plan_State ({ a0 with nodes := (IntKind.i64.wrap (a0.nodes + 1)) }) a0.nodes) != (D.plan_Plan_Size a0))) := hΦ 13 (by decide)
                      have g14 : u 14 = (.bool ((D.plan_Plan_State ({ a0 with nodes := (IntKind.i64.wrap (a0.nodes + 1)) }) a0.nodes) != (D.plan_Plan_Size a0))) := hΦ 14 (by decide)
                      have g15 : u 15 = (.bool ((D.plan_Plan_State ({ a0 with nodes := (IntKind.i64.wrap (a0.nodes + 1)) }) a0.nodes) != (D.plan_Plan_Size a0))) := hΦ 15 (by decide)
                      have g16 : u 16 = (.agg (planC ({ a0 with nodes := (IntKind.i64.wrap (a0.nodes + 1)) })).toArray) := hΦ 16 (by decide)
                      have g17 : u 17 = (.int .i64 x20) := hΦ 17 (by decide)
                      have g18 : u 18 = (.int .i64 (D.plan_Plan_Field ({ a0 with nodes := (IntKind.i64.wrap (a0.nodes + 1)) }) x20 1)) := hΦ 18 (by decide)
                      have g19 : u 19 = (.agg (planC a0).toArray) := hΦ 19 (by decide)
                      have g20 : u 20 = (.int .i64 x20) := hΦ 20 (by decide)
                      have g21 : u 21 = (.int .i64 (D.plan_Plan_Field a0 x20 1)) := hΦ 21 (by decide)
                      have g22 : u 22 = (.bool ((D.plan_Plan_Field ({ a0 with nodes := (IntKind.i64.wrap (a0.nodes + 1)) }) x20 1) != (D.plan_Plan_Field a0 x20 1))) := hΦ 22 (by decide)
                      have g23 : u 23 = (.bool ((D.plan_Plan_Field ({ a0 with nodes := (IntKind.i64.wrap (a0.nodes + 1)) }) x20 1) != (D.plan_Plan_Field a0 x20 1))) := hΦ 23 (by decide)
                      have g24 : u 24 = (.bool ((D.plan_Plan_Field ({ a0 with nodes := (IntKind.i64.wrap (a0.nodes + 1)) }) x20 1) != (D.plan_Plan_Field a0 x20 1))) := hΦ 24 (by decide)
                      have g25 : u 25 = (.agg (planC ({ a0 with nodes := (IntKind.i64.wrap (a0.nodes + 1)) })).toArray) := hΦ 25 (by decide)
                      have g26 : u 26 = (.int .i64 (D.plan_Plan_Hazard ({ a0 with nodes := (IntKind.i64.wrap (a0.nodes + 1)) }) 0 2)) := hΦ 26 (by decide)
                      have g27 : u 27 = (.agg (planC a0).toArray) := hΦ 27 (by decide)
                      have g28 : u 28 = (.int .i64 (D.plan_Plan_Hazard a0 0 2)) := hΦ 28 (by decide)
                      have g29 : u 29 = (.bool ((D.plan_Plan_Hazard ({ a0 with nodes := (IntKind.i64.wrap (a0.nodes + 1)) }) 0 2) != (D.plan_Plan_Hazard a0 0 2))) := hΦ 29 (by decide)
                      have g30 : u 30 = (.bool ((D.plan_Plan_Hazard ({ a0 with nodes := (IntKind.i64.wrap (a0.nodes + 1)) }) 0 2) != (D.plan_Plan_Hazard a0 0 2))) := hΦ 30 (by decide)
                      have g31 : u 31 = (.bool ((D.plan_Plan_Hazard ({ a0 with nodes := (IntKind.i64.wrap (a0.nodes + 1)) }) 0 2) != (D.plan_Plan_Hazard a0 0 2))) := hΦ 31 (by decide)
                      have g32 : u 32 = undef := hΦ 32 (by decide)
                      have g33 : u 33 = undef := hΦ 33 (by decide)
                      have g34 : u 34 = undef := hΦ 34 (by decide)
                      have r := r.congr (sc g34 (sc g33 (sc g32 (sc g31 (sc g30 (sc g29 (sc g28 (sc g27 (sc g26 (sc g25 (sc g24 (sc g23 (sc g22 (sc g21 (sc g20 (sc g19 (sc g18 (sc g17 (sc g16 (sc g15 (sc g14 (sc g13 (sc g12 (sc g11 (sc g10 (sc g9 (sc g8 (sc g7 (sc g6 (sc g5 (sc g4 (sc g3 (sc g2 (sc g1 (sc g0 rfl)))))))))))))))))))))))))))))))))))
                      have z_w30 := hb.size
                      have h_b1 := keep hb h_b1
                      have h_b14 := keep hb h_b14
                      have h_b15 := keep hb h_b15
                      have hB := hB.trans (hb.mono hB.size)
                      have zB := hB.size
                      refine seq_val (.bool true) r (fun R => y_pick r (b := true) (congrArg Value.bool h29) rfl) rfl fun fr r => ?_
                      refine wpList_nil ?_
                      refine wp_cond_split (t := true) (r.ev rfl) (fun _ => ?_) (fun h => absurd ((rfl : true = _).symm.trans h) (by decide))
                      refine wp_seq ?_
                      refine wp_region_lit ?_
                      refine seq_val (.bool false) r (fun R => y_assign r rfl) rfl fun fr r => ?_
                      refine wpList_nil ?_
                      refine wp_ret ?_
                      have hd : D.cubiclelaw06_PlanMore a0 a1 = false := by subst hx20; exact (cond_f h5).trans ((cond_f h8).trans ((cond_f h11).trans ((cond_f h23).trans ((cond_f h25).trans ((cond_f h27).trans ((cond_t h29).trans (rfl)))))))
                      refine ret_tmp r rfl (v := (.bool false)) rfl ?_
                      rw [hd]
                      exact ⟨rfl, hB⟩
                  · skip
                    refine wp_drawnF 35 [.val (.agg (planC ({ a0 with nodes := (IntKind.i64.wrap (a0.nodes + 1)) })).toArray), .val (.int .i64 (D.plan_Plan_Size ({ a0 with nodes := (IntKind.i64.wrap (a0.nodes + 1)) }))), .val (.agg (planC a0).toArray), .val (.int .i64 (D.plan_Plan_Size a0)), .val (.int .i64 (IntKind.i64.wrap ((D.plan_Plan_Size a0) + 5))), .val (.bool ((D.plan_Plan_Size ({ a0 with nodes := (IntKind.i64.wrap (a0.nodes + 1)) })) != (IntKind.i64.wrap ((D.plan_Plan_Size a0) + 5)))), .val (.bool ((D.plan_Plan_Size ({ a0 with nodes := (IntKind.i64.wrap (a0.nodes + 1)) })) != (IntKind.i64.wrap ((D.plan_Plan_Size a0) + 5)))), .val (.agg (planC ({ a0 with nodes := (IntKind.i64.wrap (a0.nodes + 1)) })).toArray), .val (.pointer (some ⟨b1, 0, none⟩)), .val (.int .i64 a0.nodes), .val (.int .i64 (D.plan_Plan_State ({ a0 with nodes := (IntKind.i64.wrap (a0.nodes + 1)) }) a0.nodes)), .val (.agg (planC a0).toArray), .val (.int .i64 (D.plan_Plan_Size a0)), .val (.bool ((D.plan_Plan_State ({ a0 with nodes := (IntKind.i64.wrap (a0.nodes + 1)) }) a0.nodes) != (D.plan_Plan_Size a0))), .val (.bool ((D.plan_Plan_State ({ a0 with nodes := (IntKind.i64.wrap (a0.nodes + 1)) }) a0.nodes) != (D.plan_Plan_Size a0))), .val (.bool ((D.plan_Plan_State ({ a0 with nodes := (IntKind.i64.wrap (a0.nodes + 1)) }) a0.nodes) != (D.plan_Plan_Size a0))), .val (.agg (planC ({ a0 with nodes := (IntKind.i64.wrap (a0.nodes + 1)) })).toArray), .val (.int .i64 x20), .val (.int .i64 (D.plan_Plan_Field ({ a0 with nodes := (IntKind.i64.wrap (a0.nodes + 1)) }) x20 1)), .val (.agg (planC a0).toArray), .val (.int .i64 x20), .val (.int .i64 (D.plan_Plan_Field a0 x20 1)), .val (.bool ((D.plan_Plan_Field ({ a0 with nodes := (IntKind.i64.wrap (a0.nodes + 1)) }) x20 1) != (D.plan_Plan_Field a0 x20 1))), .val (.bool ((D.plan_Plan_Field ({ a0 with nodes := (IntKind.i64.wrap (a0.nodes + 1)) }) x20 1) != (D.plan_Plan_Field a0 x20 1))), .val (.bool ((D.plan_Plan_Field ({ a0 with nodes := (IntKind.i64.wrap (a0.nodes + 1)) }) x20 1) != (D.plan_Plan_Field a0 x20 1))), .val (.agg (planC ({ a0 with nodes := (IntKind.i64.wrap (a0.nodes + 1)) })).toArray), .val (.int .i64 (D.plan_Plan_Hazard ({ a0 with nodes := (IntKind.i64.wrap (a0.nodes + 1)) }) 0 2)), .val (.agg (planC a0).toArray), .val (.int .i64 (D.plan_Plan_Hazard a0 0 2)), .val (.bool ((D.plan_Plan_Hazard ({ a0 with nodes := (IntKind.i64.wrap (a0.nodes + 1)) }) 0 2) != (D.plan_Plan_Hazard a0 0 2))), .val (.bool ((D.plan_Plan_Hazard ({ a0 with nodes := (IntKind.i64.wrap (a0.nodes + 1)) }) 0 2) != (D.plan_Plan_Hazard a0 0 2))), .val (.bool ((D.plan_Plan_Hazard ({ a0 with nodes := (IntKind.i64.wrap (a0.nodes + 1)) }) 0 2) != (D.plan_Plan_Hazard a0 0 2))), .val (.agg (planC ({ a0 with nodes := (IntKind.i64.wrap (a0.nodes + 1)) })).toArray), .val (.int .i64 (D.plan_Plan_Head ({ a0 with nodes := (IntKind.i64.wrap (a0.nodes + 1)) }))), .val (.bool ((D.plan_Plan_Head ({ a0 with nodes := (IntKind.i64.wrap (a0.nodes + 1)) })) != 0))] mixed r (by kernel_rfl) (within_cons (by exact trivial) (within_cons (by exact trivial) (within_cons (by exact trivial) (within_cons (by exact trivial) (within_cons (by exact trivial) (within_cons (by exact trivial) (within_cons (by exact trivial) (within_cons (by exact trivial) (within_cons (by exact trivial) (within_cons (by exact trivial) (within_cons (by exact trivial) (within_cons (by exact trivial) (within_cons (by exact trivial) (within_cons (by exact trivial) (within_cons (by exact trivial) (within_cons (by exact trivial) (within_cons (by exact trivial) (within_cons (by exact trivial) (within_cons (by exact trivial) (within_cons (by exact trivial) (within_cons (by exact trivial) (within_cons (by exact trivial) (within_cons (by exact trivial) (within_cons (by exact trivial) (within_cons (by exact trivial) (within_cons (by exact trivial) (within_cons (by exact trivial) (within_cons (by exact trivial) (within_cons (by exact trivial) (within_cons (by exact trivial) (within_cons (by exact trivial) (within_cons (by exact trivial) (within_cons (by exact trivial) (within_cons (by exact trivial) (within_cons (by exact trivial) within_nil))))))))))))))))))))))))))))))))))) ?_ ?_
                    · skip
                      refine each_consF r rfl (fun fr1 u w' hb' hd r' => ?_) ?_
                      · exact y_load_agg r' (cs := (planC ({ a0 with nodes := (IntKind.i64.wrap (a0.nodes + 1)) }))) (n := 6) rfl (keep hb' h_b14) ta24 rfl ⟨Below.refl _ _, rfl⟩
                      refine each_consF r rfl (fun fr1 u w' hb' hd r' => ?_) ?_
                      · obtain ⟨d0, _⟩ := hd; exact y_call r' (args := [(.agg (planC ({ a0 with nodes := (IntKind.i64.wrap (a0.nodes + 1)) })).toArray)]) (lc d0 l0) cl21 ((c_plan_Plan_Size _ ({ a0 with nodes := (IntKind.i64.wrap (a0.nodes + 1)) })).mono (by rintro _ w2 ⟨rfl, hb2⟩; exact ⟨_, rfl, hb2, rfl⟩))
                      refine each_consF r rfl (fun fr1 u w' hb' hd r' => ?_) ?_
                      · exact y_load_agg r' (cs := (planC a0)) (n := 6) rfl (keep hb' h_b1) ta24 rfl ⟨Below.refl _ _, rfl⟩
                      refine each_consF r rfl (fun fr1 u w' hb' hd r' => ?_) ?_
                      · obtain ⟨d0, d1, _⟩ := hd; exact y_call r' (args := [(.agg (planC a0).toArray)]) (lc d0 l0) cl21 ((c_plan_Plan_Size _ a0).mono (by rintro _ w2 ⟨rfl, hb2⟩; exact ⟨_, rfl, hb2, rfl⟩))
                      refine each_consF r rfl (fun fr1 u w' hb' hd r' => ?_) ?_
                      · obtain ⟨d0, _⟩ := hd; exact y_bin r' (u := (.int .i64 (D.plan_Plan_Size a0))) (u' := (.int .i64 5)) (v := (.int .i64 (IntKind.i64.wrap ((D.plan_Plan_Size a0) + 5)))) d0 rfl rfl rfl ⟨Below.refl _ _, rfl⟩
                      refine each_consF r rfl (fun fr1 u w' hb' hd r' => ?_) ?_
                      · obtain ⟨d0, d1, _⟩ := hd; exact y_bin r' (u := (.int .i64 (D.plan_Plan_Size ({ a0 with nodes := (IntKind.i64.wrap (a0.nodes + 1)) })))) (u' := (.int .i64 (IntKind.i64.wrap ((D.plan_Plan_Size a0) + 5)))) (v := (.bool ((D.plan_Plan_Size ({ a0 with nodes := (IntKind.i64.wrap (a0.nodes + 1)) })) != (IntKind.i64.wrap ((D.plan_Plan_Size a0) + 5))))) d0 d1 rfl rfl ⟨Below.refl _ _, rfl⟩
                      refine each_consF r rfl (fun fr1 u w' hb' hd r' => ?_) ?_
                      · obtain ⟨d0, d1, _⟩ := hd; exact y_move r' (v := (.bool ((D.plan_Plan_Size ({ a0 with nodes := (IntKind.i64.wrap (a0.nodes + 1)) })) != (IntKind.i64.wrap ((D.plan_Plan_Size a0) + 5))))) d0 ⟨Below.refl _ _, rfl⟩
                      refine each_consW false r rfl rfl rfl (fun u w' hd => by obtain ⟨d0, _⟩ := hd; exact Eq.trans (show u 6 = .bool ((D.plan_Plan_Size ({ a0 with nodes := (IntKind.i64.wrap (a0.nodes + 1)) })) != (IntKind.i64.wrap ((D.plan_Plan_Size a0) + 5))) from d0) (congrArg Value.bool h23)) (fun fr1 u w' hb' hd r' => ?_) ?_
                      · obtain ⟨d0, _⟩ := hd; exact y_load_agg r' (cs := (planC ({ a0 with nodes := (IntKind.i64.wrap (a0.nodes + 1)) }))) (n := 6) rfl (keep hb' h_b14) ta24 rfl ⟨Below.refl _ _, rfl⟩
                      refine each_consW false r rfl rfl rfl (fun u w' hd => by obtain ⟨d0, _⟩ := hd; exact Eq.trans (show u 6 = .bool ((D.plan_Plan_Size ({ a0 with nodes := (IntKind.i64.wrap (a0.nodes + 1)) })) != (IntKind.i64.wrap ((D.plan_Plan_Size a0) + 5))) from d0) (congrArg Value.bool h23)) (fun fr1 u w' hb' hd r' => ?_) ?_
                      · obtain ⟨d0, _⟩ := hd; exact y_fieldAddr r' (b := b1) (o := 0) (k := 0) rfl fo24_0 ⟨Below.refl _ _, rfl⟩
                      refine each_consW false r rfl rfl rfl (fun u w' hd => by obtain ⟨d0, d1, _⟩ := hd; exact Eq.trans (show u 6 = .bool ((D.plan_Plan_Size ({ a0 with nodes := (IntKind.i64.wrap (a0.nodes + 1)) })) != (IntKind.i64.wrap ((D.plan_Plan_Size a0) + 5))) from d1) (congrArg Value.bool h23)) (fun fr1 u w' hb' hd r' => ?_) ?_
                      · obtain ⟨d0, d1, _⟩ := hd; exact y_load_one r' (v := (.int .i64 a0.nodes)) d0 (keep hb' h_b1) to3 rfl ⟨Below.refl _ _, rfl⟩
                      refine each_consW false r rfl rfl rfl (fun u w' hd => by obtain ⟨d0, d1, d2, d3, _⟩ := hd; exact Eq.trans (show u 6 = .bool ((D.plan_Plan_Size ({ a0 with nodes := (IntKind.i64.wrap (a0.nodes + 1)) })) != (IntKind.i64.wrap ((D.plan_Plan_Size a0) + 5))) from d2) (congrArg Value.bool h23)) (fun fr1 u w' hb' hd r' => ?_) ?_
                      · obtain ⟨d0, d1, d2, d3, _⟩ := hd; exact y_call r' (args := [(.agg (planC ({ a0 with nodes := (IntKind.i64.wrap (a0.nodes + 1)) })).toArray), (.int .i64 a0.nodes)]) (lc d0 (lc d1 l0)) cl25 ((c_plan_Plan_State _ ({ a0 with nodes := (IntKind.i64.wrap (a0.nodes + 1)) }) a0.nodes).mono (by rintro _ w2 ⟨rfl, hb2⟩; exact ⟨_, rfl, hb2, rfl⟩))
                      refine each_consW false r rfl rfl rfl (fun u w' hd => by obtain ⟨d0, _⟩ := hd; exact Eq.trans (show u 6 = .bool ((D.plan_Plan_Size ({ a0 with nodes := (IntKind.i64.wrap (a0.nodes + 1)) })) != (IntKind.i64.wrap ((D.plan_Plan_Size a0) + 5))) from d0) (congrArg Value.bool h23)) (fun fr1 u w' hb' hd r' => ?_) ?_
                      · obtain ⟨d0, _⟩ := hd; exact y_load_agg r' (cs := (planC a0)) (n := 6) rfl (keep hb' h_b1) ta24 rfl ⟨Below.refl _ _, rfl⟩
                      refine each_consW false r rfl rfl rfl (fun u w' hd => by obtain ⟨d0, d1, d2, _⟩ := hd; exact Eq.trans (show u 6 = .bool ((D.plan_Plan_Size ({ a0 with nodes := (IntKind.i64.wrap (a0.nodes + 1)) })) != (IntKind.i64.wrap ((D.plan_Plan_Size a0) + 5))) from d2) (congrArg Value.bool h23)) (fun fr1 u w' hb' hd r' => ?_) ?_
                      · obtain ⟨d0, d1, d2, _⟩ := hd; exact y_call r' (args := [(.agg (planC a0).toArray)]) (lc d0 l0) cl21 ((c_plan_Plan_Size _ a0).mono (by rintro _ w2 ⟨rfl, hb2⟩; exact ⟨_, rfl, hb2, rfl⟩))
                      refine each_consW false r rfl rfl rfl (fun u w' hd => by obtain ⟨d0, d1, d2, _⟩ := hd; exact Eq.trans (show u 6 = .bool ((D.plan_Plan_Size ({ a0 with nodes := (IntKind.i64.wrap (a0.nodes + 1)) })) != (IntKind.i64.wrap ((D.plan_Plan_Size a0) + 5))) from d2) (congrArg Value.bool h23)) (fun fr1 u w' hb' hd r' => ?_) ?_
                      · obtain ⟨d0, d1, d2, _⟩ := hd; exact y_bin r' (u := (.int .i64 (D.plan_Plan_State ({ a0 with nodes := (IntKind.i64.wrap (a0.nodes + 1)) }) a0.nodes))) (u' := (.int .i64 (D.plan_Plan_Size a0))) (v := (.bool ((D.plan_Plan_State ({ a0 with nodes := (IntKind.i64.wrap (a0.nodes + 1)) }) a0.nodes) != (D.plan_Plan_Size a0)))) d0 d1 rfl rfl ⟨Below.refl _ _, rfl⟩
                      refine each_consF r rfl (fun fr1 u w' hb' hd r' => ?_) ?_
                      · obtain ⟨d0, d1, _⟩ := hd; exact y_pick r' (b := false) (v := (.bool ((D.plan_Plan_State ({ a0 with nodes := (IntKind.i64.wrap (a0.nodes + 1)) }) a0.nodes) != (D.plan_Plan_Size a0)))) (Eq.trans (show u 6 = .bool ((D.plan_Plan_Size ({ a0 with nodes := (IntKind.i64.wrap (a0.nodes + 1)) })) != (IntKind.i64.wrap ((D.plan_Plan_Size a0) + 5))) from d0) (congrArg Value.bool h23)) d1 ⟨Below.refl _ _, rfl⟩
                      refine each_consF r rfl (fun fr1 u w' hb' hd r' => ?_) ?_
                      · obtain ⟨d0, d1, _⟩ := hd; exact y_move r' (v := (.bool ((D.plan_Plan_State ({ a0 with nodes := (IntKind.i64.wrap (a0.nodes + 1)) }) a0.nodes) != (D.plan_Plan_Size a0)))) d0 ⟨Below.refl _ _, rfl⟩
                      refine each_consW false r rfl rfl rfl (fun u w' hd => by obtain ⟨d0, _⟩ := hd; exact Eq.trans (show u 15 = .bool ((D.plan_Plan_State ({ a0 with nodes := (IntKind.i64.wrap (a0.nodes + 1)) }) a0.nodes) != (D.plan_Plan_Size a0)) from d0) (congrArg Value.bool h25)) (fun fr1 u w' hb' hd r' => ?_) ?_
                      · obtain ⟨d0, _⟩ := hd; exact y_load_agg r' (cs := (planC ({ a0 with nodes := (IntKind.i64.wrap (a0.nodes + 1)) }))) (n := 6) rfl (keep hb' h_b14) ta24 rfl ⟨Below.refl _ _, rfl⟩
                      refine each_consW false r rfl rfl rfl (fun u w' hd => by obtain ⟨d0, _⟩ := hd; exact Eq.trans (show u 15 = .bool ((D.plan_Plan_State ({ a0 with nodes := (IntKind.i64.wrap (a0.nodes + 1)) }) a0.nodes) != (D.plan_Plan_Size a0)) from d0) (congrArg Value.bool h25)) (fun fr1 u w' hb' hd r' => ?_) ?_
                      · obtain ⟨d0, _⟩ := hd; exact y_move r' (v := (.int .i64 x20)) rfl ⟨Below.refl _ _, rfl⟩
                      refine each_consW false r rfl rfl rfl (fun u w' hd => by obtain ⟨d0, d1, d2, d3, _⟩ := hd; exact Eq.trans (show u 15 = .bool ((D.plan_Plan_State ({ a0 with nodes := (IntKind.i64.wrap (a0.nodes + 1)) }) a0.nodes) != (D.plan_Plan_Size a0)) from d2) (congrArg Value.bool h25)) (fun fr1 u w' hb' hd r' => ?_) ?_
                      · obtain ⟨d0, d1, d2, d3, _⟩ := hd; exact y_call r' (args := [(.agg (planC ({ a0 with nodes := (IntKind.i64.wrap (a0.nodes + 1)) })).toArray), (.int .i64 x20), (.int .i64 1)]) (lc d0 (lc d1 (lc rfl l0))) cl20 ((c_plan_Plan_Field _ ({ a0 with nodes := (IntKind.i64.wrap (a0.nodes + 1)) }) x20 1).mono (by rintro _ w2 ⟨rfl, hb2⟩; exact ⟨_, rfl, hb2, rfl⟩))
                      refine each_consW false r rfl rfl rfl (fun u w' hd => by obtain ⟨d0, _⟩ := hd; exact Eq.trans (show u 15 = .bool ((D.plan_Plan_State ({ a0 with nodes := (IntKind.i64.wrap (a0.nodes + 1)) }) a0.nodes) != (D.plan_Plan_Size a0)) from d0) (congrArg Value.bool h25)) (fun fr1 u w' hb' hd r' => ?_) ?_
                      · obtain ⟨d0, _⟩ := hd; exact y_load_agg r' (cs := (planC a0)) (n := 6) rfl (keep hb' h_b1) ta24 rfl ⟨Below.refl _ _, rfl⟩
                      refine each_consW false r rfl rfl rfl (fun u w' hd => by obtain ⟨d0, _⟩ := hd; exact Eq.trans (show u 15 = .bool ((D.plan_Plan_State ({ a0 with nodes := (IntKind.i64.wrap (a0.nodes + 1)) }) a0.nodes) != (D.plan_Plan_Size a0)) from d0) (congrArg Value.bool h25)) (fun fr1 u w' hb' hd r' => ?_) ?_
                      · obtain ⟨d0, _⟩ := hd; exact y_move r' (v := (.int .i64 x20)) rfl ⟨Below.refl _ _, rfl⟩
                      refine each_consW false r rfl rfl rfl (fun u w' hd => by obtain ⟨d0, d1, d2, d3, _⟩ := hd; exact Eq.trans (show u 15 = .bool ((D.plan_Plan_State ({ a0 with nodes := (IntKind.i64.wrap (a0.nodes + 1)) }) a0.nodes) != (D.plan_Plan_Size a0)) from d3) (congrArg Value.bool h25)) (fun fr1 u w' hb' hd r' => ?_) ?_
                      · obtain ⟨d0, d1, d2, d3, _⟩ := hd; exact y_call r' (args := [(.agg (planC a0).toArray), (.int .i64 x20), (.int .i64 1)]) (lc d0 (lc d1 (lc rfl l0))) cl20 ((c_plan_Plan_Field _ a0 x20 1).mono (by rintro _ w2 ⟨rfl, hb2⟩; exact ⟨_, rfl, hb2, rfl⟩))
                      refine each_consW false r rfl rfl rfl (fun u w' hd => by obtain ⟨d0, d1, d2, _⟩ := hd; exact Eq.trans (show u 15 = .bool ((D.plan_Plan_State ({ a0 with nodes := (IntKind.i64.wrap (a0.nodes + 1)) }) a0.nodes) != (D.plan_Plan_Size a0)) from d2) (congrArg Value.bool h25)) (fun fr1 u w' hb' hd r' => ?_) ?_
                      · obtain ⟨d0, d1, d2, _⟩ := hd; exact y_bin r' (u := (.int .i64 (D.plan_Plan_Field ({ a0 with nodes := (IntKind.i64.wrap (a0.nodes + 1)) }) x20 1))) (u' := (.int .i64 (D.plan_Plan_Field a0 x20 1))) (v := (.bool ((D.plan_Plan_Field ({ a0 with nodes := (IntKind.i64.wrap (a0.nodes + 1)) }) x20 1) != (D.plan_Plan_Field a0 x20 1)))) d0 d1 rfl rfl ⟨Below.refl _ _, rfl⟩
                      refine each_consF r rfl (fun fr1 u w' hb' hd r' => ?_) ?_
                      · obtain ⟨d0, d1, _⟩ := hd; exact y_pick r' (b := false) (v := (.bool ((D.plan_Plan_Field ({ a0 with nodes := (IntKind.i64.wrap (a0.nodes + 1)) }) x20 1) != (D.plan_Plan_Field a0 x20 1)))) (Eq.trans (show u 15 = .bool ((D.plan_Plan_State ({ a0 with nodes := (IntKind.i64.wrap (a0.nodes + 1)) }) a0.nodes) != (D.plan_Plan_Size a0)) from d0) (congrArg Value.bool h25)) d1 ⟨Below.refl _ _, rfl⟩
                      refine each_consF r rfl (fun fr1 u w' hb' hd r' => ?_) ?_
                      · obtain ⟨d0, d1, _⟩ := hd; exact y_move r' (v := (.bool ((D.plan_Plan_Field ({ a0 with nodes := (IntKind.i64.wrap (a0.nodes + 1)) }) x20 1) != (D.plan_Plan_Field a0 x20 1)))) d0 ⟨Below.refl _ _, rfl⟩
                      refine each_consW false r rfl rfl rfl (fun u w' hd => by obtain ⟨d0, _⟩ := hd; exact Eq.trans (show u 24 = .bool ((D.plan_Plan_Field ({ a0 with nodes := (IntKind.i64.wrap (a0.nodes + 1)) }) x20 1) != (D.plan_Plan_Field a0 x20 1)) from d0) (congrArg Value.bool h27)) (fun fr1 u w' hb' hd r' => ?_) ?_
                      · obtain ⟨d0, _⟩ := hd; exact y_load_agg r' (cs := (planC ({ a0 with nodes := (IntKind.i64.wrap (a0.nodes + 1)) }))) (n := 6) rfl (keep hb' h_b14) ta24 rfl ⟨Below.refl _ _, rfl⟩
                      refine each_consW false r rfl rfl rfl (fun u w' hd => by obtain ⟨d0, d1, d2, _⟩ := hd; exact Eq.trans (show u 24 = .bool ((D.plan_Plan_Field ({ a0 with nodes := (IntKind.i64.wrap (a0.nodes + 1)) }) x20 1) != (D.plan_Plan_Field a0 x20 1)) from d1) (congrArg Value.bool h27)) (fun fr1 u w' hb' hd r' => ?_) ?_
                      · obtain ⟨d0, d1, d2, _⟩ := hd; exact y_call r' (args := [(.agg (planC ({ a0 with nodes := (IntKind.i64.wrap (a0.nodes + 1)) })).toArray), (.int .i64 0), (.int .i64 2)]) (lc d0 (lc rfl (lc rfl l0))) cl27 ((c_plan_Plan_Hazard _ ({ a0 with nodes := (IntKind.i64.wrap (a0.nodes + 1)) }) 0 2).mono (by rintro _ w2 ⟨rfl, hb2⟩; exact ⟨_, rfl, hb2, rfl⟩))
                      refine each_consW false r rfl rfl rfl (fun u w' hd => by obtain ⟨d0, _⟩ := hd; exact Eq.trans (show u 24 = .bool ((D.plan_Plan_Field ({ a0 with nodes := (IntKind.i64.wrap (a0.nodes + 1)) }) x20 1) != (D.plan_Plan_Field a0 x20 1)) from d0) (congrArg Value.bool h27)) (fun fr1 u w' hb' hd r' => ?_) ?_
                      · obtain ⟨d0, _⟩ := hd; exact y_load_agg r' (cs := (planC a0)) (n := 6) rfl (keep hb' h_b1) ta24 rfl ⟨Below.refl _ _, rfl⟩
                      refine each_consW false r rfl rfl rfl (fun u w' hd => by obtain ⟨d0, d1, d2, _⟩ := hd; exact Eq.trans (show u 24 = .bool ((D.plan_Plan_Field ({ a0 with nodes := (IntKind.i64.wrap (a0.nodes + 1)) }) x20 1) != (D.plan_Plan_Field a0 x20 1)) from d2) (congrArg Value.bool h27)) (fun fr1 u w' hb' hd r' => ?_) ?_
                      · obtain ⟨d0, d1, d2, _⟩ := hd; exact y_call r' (args := [(.agg (planC a0).toArray), (.int .i64 0), (.int .i64 2)]) (lc d0 (lc rfl (lc rfl l0))) cl27 ((c_plan_Plan_Hazard _ a0 0 2).mono (by rintro _ w2 ⟨rfl, hb2⟩; exact ⟨_, rfl, hb2, rfl⟩))
                      refine each_consW false r rfl rfl rfl (fun u w' hd => by obtain ⟨d0, d1, d2, _⟩ := hd; exact Eq.trans (show u 24 = .bool ((D.plan_Plan_Field ({ a0 with nodes := (IntKind.i64.wrap (a0.nodes + 1)) }) x20 1) != (D.plan_Plan_Field a0 x20 1)) from d2) (congrArg Value.bool h27)) (fun fr1 u w' hb' hd r' => ?_) ?_
                      · obtain ⟨d0, d1, d2, _⟩ := hd; exact y_bin r' (u := (.int .i64 (D.plan_Plan_Hazard ({ a0 with nodes := (IntKind.i64.wrap (a0.nodes + 1)) }) 0 2))) (u' := (.int .i64 (D.plan_Plan_Hazard a0 0 2))) (v := (.bool ((D.plan_Plan_Hazard ({ a0 with nodes := (IntKind.i64.wrap (a0.nodes + 1)) }) 0 2) != (D.plan_Plan_Hazard a0 0 2)))) d0 d1 rfl rfl ⟨Below.refl _ _, rfl⟩
                      refine each_consF r rfl (fun fr1 u w' hb' hd r' => ?_) ?_
                      · obtain ⟨d0, d1, _⟩ := hd; exact y_pick r' (b := false) (v := (.bool ((D.plan_Plan_Hazard ({ a0 with nodes := (IntKind.i64.wrap (a0.nodes + 1)) }) 0 2) != (D.plan_Plan_Hazard a0 0 2)))) (Eq.trans (show u 24 = .bool ((D.plan_Plan_Field ({ a0 with nodes := (IntKind.i64.wrap (a0.nodes + 1)) }) x20 1) != (D.plan_Plan_Field a0 x20 1)) from d0) (congrArg Value.bool h27)) d1 ⟨Below.refl _ _, rfl⟩
                      refine each_consF r rfl (fun fr1 u w' hb' hd r' => ?_) ?_
                      · obtain ⟨d0, d1, _⟩ := hd; exact y_move r' (v := (.bool ((D.plan_Plan_Hazard ({ a0 with nodes := (IntKind.i64.wrap (a0.nodes + 1)) }) 0 2) != (D.plan_Plan_Hazard a0 0 2)))) d0 ⟨Below.refl _ _, rfl⟩
                      refine each_consW false r rfl rfl rfl (fun u w' hd => by obtain ⟨d0, _⟩ := hd; exact Eq.trans (show u 31 = .bool ((D.plan_Plan_Hazard ({ a0 with nodes := (IntKind.i64.wrap (a0.nodes + 1)) }) 0 2) != (D.plan_Plan_Hazard a0 0 2)) from d0) (congrArg Value.bool h29)) (fun fr1 u w' hb' hd r' => ?_) ?_
                      · obtain ⟨d0, _⟩ := hd; exact y_load_agg r' (cs := (planC ({ a0 with nodes := (IntKind.i64.wrap (a0.nodes + 1)) }))) (n := 6) rfl (keep hb' h_b14) ta24 rfl ⟨Below.refl _ _, rfl⟩
                      refine each_consW false r rfl rfl rfl (fun u w' hd => by obtain ⟨d0, d1, d2, _⟩ := hd; exact Eq.trans (show u 31 = .bool ((D.plan_Plan_Hazard ({ a0 with nodes := (IntKind.i64.wrap (a0.nodes + 1)) }) 0 2) != (D.plan_Plan_Hazard a0 0 2)) from d1) (congrArg Value.bool h29)) (fun fr1 u w' hb' hd r' => ?_) ?_
                      · obtain ⟨d0, d1, d2, _⟩ := hd; exact y_call r' (args := [(.agg (planC ({ a0 with nodes := (IntKind.i64.wrap (a0.nodes + 1)) })).toArray)]) (lc d0 l0) cl22 ((c_plan_Plan_Head _ ({ a0 with nodes := (IntKind.i64.wrap (a0.nodes + 1)) })).mono (by rintro _ w2 ⟨rfl, hb2⟩; exact ⟨_, rfl, hb2, rfl⟩))
                      refine each_consW false r rfl rfl rfl (fun u w' hd => by obtain ⟨d0, d1, _⟩ := hd; exact Eq.trans (show u 31 = .bool ((D.plan_Plan_Hazard ({ a0 with nodes := (IntKind.i64.wrap (a0.nodes + 1)) }) 0 2) != (D.plan_Plan_Hazard a0 0 2)) from d1) (congrArg Value.bool h29)) (fun fr1 u w' hb' hd r' => ?_) ?_
                      · obtain ⟨d0, d1, _⟩ := hd; exact y_bin r' (u := (.int .i64 (D.plan_Plan_Head ({ a0 with nodes := (IntKind.i64.wrap (a0.nodes + 1)) })))) (u' := (.int .i64 0)) (v := (.bool ((D.plan_Plan_Head ({ a0 with nodes := (IntKind.i64.wrap (a0.nodes + 1)) })) != 0))) d0 rfl rfl rfl ⟨Below.refl _ _, rfl⟩
                      exact each_nil
                    · skip
                      intro fr u w31 hb hΦ hne r
                      have g0 : u 0 = (.agg (planC ({ a0 with nodes := (IntKind.i64.wrap (a0.nodes + 1)) })).toArray) := hΦ 0 (by decide)
                      have g1 : u 1 = (.int .i64 (D.plan_Plan_Size ({ a0 with nodes := (IntKind.i64.wrap (a0.nodes + 1)) }))) := hΦ 1 (by decide)
                      have g2 : u 2 = (.agg (planC a0).toArray) := hΦ 2 (by decide)
                      have g3 : u 3 = (.int .i64 (D.plan_Plan_Size a0)) := hΦ 3 (by decide)
                      have g4 : u 4 = (.int .i64 (IntKind.i64.wrap ((D.plan_Plan_Size a0) + 5))) := hΦ 4 (by decide)
                      have g5 : u 5 = (.bool ((D.plan_Plan_Size ({ a0 with nodes := (IntKind.i64.wrap (a0.nodes + 1)) })) != (IntKind.i64.wrap ((D.plan_Plan_Size a0) + 5)))) := hΦ 5 (by decide)
                      have g6 : u 6 = (.bool ((D.plan_Plan_Size ({ a0 with nodes := (IntKind.i64.wrap (a0.nodes + 1)) })) != (IntKind.i64.wrap ((D.plan_Plan_Size a0) + 5)))) := hΦ 6 (by decide)
                      have g7 : u 7 = (.agg (planC ({ a0 with nodes := (IntKind.i64.wrap (a0.nodes + 1)) })).toArray) := hΦ 7 (by decide)
                      have g8 : u 8 = (.pointer (some ⟨b1, 0, none⟩)) := hΦ 8 (by decide)
                      have g9 : u 9 = (.int .i64 a0.nodes) := hΦ 9 (by decide)
                      have g10 : u 10 = (.int .i64 (D.plan_Plan_State ({ a0 with nodes := (IntKind.i64.wrap (a0.nodes + 1)) }) a0.nodes)) := hΦ 10 (by decide)
                      have g11 : u 11 = (.agg (planC a0).toArray) := hΦ 11 (by decide)
                      have g12 : u 12 = (.int .i64 (D.plan_Plan_Size a0)) := hΦ 12 (by decide)
                      have g13 : u 13 = (.bool ((D.plan_Plan_State ({ a0 with nodes := (IntKind.i64.wrap (a0.nodes + 1)) }) a0.nodes) != (D.plan_Plan_Size a0))) := hΦ 13 (by decide)
                      have g14 : u 14 = (.bool ((D.plan_Plan_State ({ a0 with nodes := (IntKind.i64.wrap (a0.nodes + 1)) }) a0.nodes) != (D.plan_Plan_Size a0))) := hΦ 14 (by decide)
                      have g15 : u 15 = (.bool ((D.plan_Plan_State ({ a0 with nodes := (IntKind.i64.wrap (a0.nodes + 1)) }) a0.nodes) != (D.plan_Plan_Size a0))) := hΦ 15 (by decide)
                      have g16 : u 16 = (.agg (planC ({ a0 with nodes := (IntKind.i64.wrap (a0.nodes + 1)) })).toArray) := hΦ 16 (by decide)
                      have g17 : u 17 = (.int .i64 x20) := hΦ 17 (by decide)
                      have g18 : u 18 = (.int .i64 (D.plan_Plan_Field ({ a0 with nodes := (IntKind.i64.wrap (a0.nodes + 1)) }) x20 1)) := hΦ 18 (by decide)
                      have g19 : u 19 = (.agg (planC a0).toArray) := hΦ 19 (by decide)
                      have g20 : u 20 = (.int .i64 x20) := hΦ 20 (by decide)
                      have g21 : u 21 = (.int .i64 (D.plan_Plan_Field a0 x20 1)) := hΦ 21 (by decide)
                      have g22 : u 22 = (.bool ((D.plan_Plan_Field ({ a0 with nodes := (IntKind.i64.wrap (a0.nodes + 1)) }) x20 1) != (D.plan_Plan_Field a0 x20 1))) := hΦ 22 (by decide)
                      have g23 : u 23 = (.bool ((D.plan_Plan_Field ({ a0 with nodes := (IntKind.i64.wrap (a0.nodes + 1)) }) x20 1) != (D.plan_Plan_Field a0 x20 1))) := hΦ 23 (by decide)
                      have g24 : u 24 = (.bool ((D.plan_Plan_Field ({ a0 with nodes := (IntKind.i64.wrap (a0.nodes + 1)) }) x20 1) != (D.plan_Plan_Field a0 x20 1))) := hΦ 24 (by decide)
                      have g25 : u 25 = (.agg (planC ({ a0 with nodes := (IntKind.i64.wrap (a0.nodes + 1)) })).toArray) := hΦ 25 (by decide)
                      have g26 : u 26 = (.int .i64 (D.plan_Plan_Hazard ({ a0 with nodes := (IntKind.i64.wrap (a0.nodes + 1)) }) 0 2)) := hΦ 26 (by decide)
                      have g27 : u 27 = (.agg (planC a0).toArray) := hΦ 27 (by decide)
                      have g28 : u 28 = (.int .i64 (D.plan_Plan_Hazard a0 0 2)) := hΦ 28 (by decide)
                      have g29 : u 29 = (.bool ((D.plan_Plan_Hazard ({ a0 with nodes := (IntKind.i64.wrap (a0.nodes + 1)) }) 0 2) != (D.plan_Plan_Hazard a0 0 2))) := hΦ 29 (by decide)
                      have g30 : u 30 = (.bool ((D.plan_Plan_Hazard ({ a0 with nodes := (IntKind.i64.wrap (a0.nodes + 1)) }) 0 2) != (D.plan_Plan_Hazard a0 0 2))) := hΦ 30 (by decide)
                      have g31 : u 31 = (.bool ((D.plan_Plan_Hazard ({ a0 with nodes := (IntKind.i64.wrap (a0.nodes + 1)) }) 0 2) != (D.plan_Plan_Hazard a0 0 2))) := hΦ 31 (by decide)
                      have g32 : u 32 = (.agg (planC ({ a0 with nodes := (IntKind.i64.wrap (a0.nodes + 1)) })).toArray) := hΦ 32 (by decide)
                      have g33 : u 33 = (.int .i64 (D.plan_Plan_Head ({ a0 with nodes := (IntKind.i64.wrap (a0.nodes + 1)) }))) := hΦ 33 (by decide)
                      have g34 : u 34 = (.bool ((D.plan_Plan_Head ({ a0 with nodes := (IntKind.i64.wrap (a0.nodes + 1)) })) != 0)) := hΦ 34 (by decide)
                      have r := r.congr (sc g34 (sc g33 (sc g32 (sc g31 (sc g30 (sc g29 (sc g28 (sc g27 (sc g26 (sc g25 (sc g24 (sc g23 (sc g22 (sc g21 (sc g20 (sc g19 (sc g18 (sc g17 (sc g16 (sc g15 (sc g14 (sc g13 (sc g12 (sc g11 (sc g10 (sc g9 (sc g8 (sc g7 (sc g6 (sc g5 (sc g4 (sc g3 (sc g2 (sc g1 (sc g0 rfl)))))))))))))))))))))))))))))))))))
                      have z_w31 := hb.size
                      have h_b1 := keep hb h_b1
                      have h_b14 := keep hb h_b14
                      have h_b15 := keep hb h_b15
                      have hB := hB.trans (hb.mono hB.size)
                      have zB := hB.size
                      refine seq_val (.bool ((D.plan_Plan_Head ({ a0 with nodes := (IntKind.i64.wrap (a0.nodes + 1)) })) != 0)) r (fun R => y_pick r (b := false) (congrArg Value.bool h29) rfl) rfl fun fr r => ?_
                      refine wpList_nil ?_
                      refine wp_cond_split (t := ((D.plan_Plan_Head ({ a0 with nodes := (IntKind.i64.wrap (a0.nodes + 1)) })) != 0)) (r.ev rfl) (fun h32 => ?_) (fun h32 => ?_)
                      · skip
                        refine wp_seq ?_
                        refine wp_region_lit ?_
                        refine seq_val (.bool false) r (fun R => y_assign r rfl) rfl fun fr r => ?_
                        refine wpList_nil ?_
                        refine wp_ret ?_
                        have hd : D.cubiclelaw06_PlanMore a0 a1 = false := by subst hx20; exact (cond_f h5).trans ((cond_f h8).trans ((cond_f h11).trans ((cond_f h23).trans ((cond_f h25).trans ((cond_f h27).trans ((cond_f h29).trans ((cond_t h32).trans (rfl))))))))
                        refine ret_tmp r rfl (v := (.bool false)) rfl ?_
                        rw [hd]
                        exact ⟨rfl, hB⟩
                      · skip
                        refine wp_skip ?_
                        refine wp_seq ?_
                        refine wp_region_lit ?_
                        refine seq_val (.agg (planC a0).toArray) r (fun R => y_load_agg r (cs := (planC a0)) (n := 6) rfl h_b1 ta24 rfl) rfl fun fr r => ?_
                        refine seq_call r (c_plan_Plan_Cells w31 a0) (fun R hc => y_call r rfl cl30 hc) rfl ?_
                        rintro _ w33 ⟨rfl, hb⟩
                        refine ⟨_, rfl, fun fr r => ?_⟩
                        have z_w33 := hb.size
                        have h_b1 := keep hb h_b1
                        have h_b14 := keep hb h_b14
                        have h_b15 := keep hb h_b15
                        have hB := hB.trans (hb.mono hB.size)
                        have zB := hB.size
                        refine seq_val (.int .i64 (IntKind.i64.wrap (1 + (D.plan_Plan_Cells a0)))) r (fun R => y_bin r (u := (.int .i64 1)) (u' := (.int .i64 (D.plan_Plan_Cells a0))) rfl rfl rfl rfl) rfl fun fr r => ?_
                        refine seq_val (.int .i64 (IntKind.i64.wrap (1 + (D.plan_Plan_Cells a0)))) r (fun R => y_assign r rfl) rfl fun fr r => ?_
                        refine wpList_nil ?_
                        refine wp_seq ?_
                        refine seq_split ((D.plan_Plan_Size ({ a0 with domains := (IntKind.i64.wrap (a0.domains + 1)) })) == (IntKind.i64.wrap ((D.plan_Plan_Size a0) + (IntKind.i64.wrap (1 + (D.plan_Plan_Cells a0)))))) (fun h34 => ?_) (fun h34 => ?_)
                        · skip
                          refine seq_split ((D.plan_Plan_State ({ a0 with domains := (IntKind.i64.wrap (a0.domains + 1)) }) x20) == (IntKind.i64.wrap ((D.plan_Plan_State a0 x20) + (IntKind.i64.wrap (1 + (D.plan_Plan_Cells a0)))))) (fun h35 => ?_) (fun h35 => ?_)
                          · skip
                            refine seq_split ((D.plan_Plan_Count ({ a0 with domains := (IntKind.i64.wrap (a0.domains + 1)) }) 0) == (IntKind.i64.wrap ((D.plan_Plan_Count a0 0) + (IntKind.i64.wrap (1 + (D.plan_Plan_Cells a0)))))) (fun h36 => ?_) (fun h36 => ?_)
                            · skip
                              refine wp_drawnF 39 [.val (.agg (planC ({ a0 with domains := (IntKind.i64.wrap (a0.domains + 1)) })).toArray), .val (.int .i64 (D.plan_Plan_Size ({ a0 with domains := (IntKind.i64.wrap (a0.domains + 1)) }))), .val (.agg (planC a0).toArray), .val (.int .i64 (D.plan_Plan_Size a0)), .val (.int .i64 (IntKind.i64.wrap (1 + (D.plan_Plan_Cells a0)))), .val (.int .i64 (IntKind.i64.wrap ((D.plan_Plan_Size a0) + (IntKind.i64.wrap (1 + (D.plan_Plan_Cells a0)))))), .val (.bool ((D.plan_Plan_Size ({ a0 with domains := (IntKind.i64.wrap (a0.domains + 1)) })) == (IntKind.i64.wrap ((D.plan_Plan_Size a0) + (IntKind.i64.wrap (1 + (D.plan_Plan_Cells a0))))))), .val (.bool ((D.plan_Plan_Size ({ a0 with domains := (IntKind.i64.wrap (a0.domains + 1)) })) == (IntKind.i64.wrap ((D.plan_Plan_Size a0) + (IntKind.i64.wrap (1 + (D.plan_Plan_Cells a0))))))), .val (.agg (planC ({ a0 with domains := (IntKind.i64.wrap (a0.domains + 1)) })).toArray), .val (.int .i64 x20), .val (.int .i64 (D.plan_Plan_State ({ a0 with domains := (IntKind.i64.wrap (a0.domains + 1)) }) x20)), .val (.agg (planC a0).toArray), .val (.int .i64 x20), .val (.int .i64 (D.plan_Plan_State a0 x20)), .val (.int .i64 (IntKind.i64.wrap (1 + (D.plan_Plan_Cells a0)))), .val (.int .i64 (IntKind.i64.wrap ((D.plan_Plan_State a0 x20) + (IntKind.i64.wrap (1 + (D.plan_Plan_Cells a0)))))), .val (.bool ((D.plan_Plan_State ({ a0 with domains := (IntKind.i64.wrap (a0.domains + 1)) }) x20) == (IntKind.i64.wrap ((D.plan_Plan_State a0 x20) + (IntKind.i64.wrap (1 + (D.plan_Plan_Cells a0))))))), .val (.bool ((D.plan_Plan_State ({ a0 with domains := (IntKind.i64.wrap (a0.domains + 1)) }) x20) == (IntKind.i64.wrap ((D.plan_Plan_State a0 x20) + (IntKind.i64.wrap (1 + (D.plan_Plan_Cells a0))))))), .val (.bool ((D.plan_Plan_State ({ a0 with domains := (IntKind.i64.wrap (a0.domains + 1)) }) x20) == (IntKind.i64.wrap ((D.plan_Plan_State a0 x20) + (IntKind.i64.wrap (1 + (D.plan_Plan_Cells a0))))))), .val (.agg (planC ({ a0 with domains := (IntKind.i64.wrap (a0.domains + 1)) })).toArray), .val (.int .i64 (D.plan_Plan_Count ({ a0 with domains := (IntKind.i64.wrap (a0.domains + 1)) }) 0)), .val (.agg (planC a0).toArray), .val (.int .i64 (D.plan_Plan_Count a0 0)), .val (.int .i64 (IntKind.i64.wrap (1 + (D.plan_Plan_Cells a0)))), .val (.int .i64 (IntKind.i64.wrap ((D.plan_Plan_Count a0 0) + (IntKind.i64.wrap (1 + (D.plan_Plan_Cells a0)))))), .val (.bool ((D.plan_Plan_Count ({ a0 with domains := (IntKind.i64.wrap (a0.domains + 1)) }) 0) == (IntKind.i64.wrap ((D.plan_Plan_Count a0 0) + (IntKind.i64.wrap (1 + (D.plan_Plan_Cells a0))))))), .val (.bool ((D.plan_Plan_Count ({ a0 with domains := (IntKind.i64.wrap (a0.domains + 1)) }) 0) == (IntKind.i64.wrap ((D.plan_Plan_Count a0 0) + (IntKind.i64.wrap (1 + (D.plan_Plan_Cells a0))))))), .val (.bool ((D.plan_Plan_Count ({ a0 with domains := (IntKind.i64.wrap (a0.domains + 1)) }) 0) == (IntKind.i64.wrap ((D.plan_Plan_Count a0 0) + (IntKind.i64.wrap (1 + (D.plan_Plan_Cells a0))))))), .val (.agg (planC ({ a0 with domains := (IntKind.i64.wrap (a0.domains + 1)) })).toArray), .val (.pointer (some ⟨b1, 3, none⟩)), .val (.int .i64 a0.domains), .val (.int .i64 (D.plan_Plan_Kind ({ a0 with domains := (IntKind.i64.wrap (a0.domains + 1)) }) a0.domains)), .val (.pointer (some ⟨b1, 3, none⟩)), .val (.int .i64 a0.domains), .val (.int .i64 (IntKind.i64.wrap (1 + (D.plan_Plan_Cells a0)))), .val (.int .i64 (IntKind.i64.wrap (a0.domains * (IntKind.i64.wrap (1 + (D.plan_Plan_Cells a0)))))), .val (.int .i64 (IntKind.i64.wrap (1 + (IntKind.i64.wrap (a0.domains * (IntKind.i64.wrap (1 + (D.plan_Plan_Cells a0)))))))), .val (.bool ((D.plan_Plan_Kind ({ a0 with domains := (IntKind.i64.wrap (a0.domains + 1)) }) a0.domains) == (IntKind.i64.wrap (1 + (IntKind.i64.wrap (a0.domains * (IntKind.i64.wrap (1 + (D.plan_Plan_Cells a0))))))))), .val (.bool ((D.plan_Plan_Kind ({ a0 with domains := (IntKind.i64.wrap (a0.domains + 1)) }) a0.domains) == (IntKind.i64.wrap (1 + (IntKind.i64.wrap (a0.domains * (IntKind.i64.wrap (1 + (D.plan_Plan_Cells a0)))))))))] mixed r (by kernel_rfl) (within_cons (by exact trivial) (within_cons (by exact trivial) (within_cons (by exact trivial) (within_cons (by exact trivial) (within_cons (by exact trivial) (within_cons (by exact trivial) (within_cons (by exact trivial) (within_cons (by exact trivial) (within_cons (by exact trivial) (within_cons (by exact trivial) (within_cons (by exact trivial) (within_cons (by exact trivial) (within_cons (by exact trivial) (within_cons (by exact trivial) (within_cons (by exact trivial) (within_cons (by exact trivial) (within_cons (by exact trivial) (within_cons (by exact trivial) (within_cons (by exact trivial) (within_cons (by exact trivial) (within_cons (by exact trivial) (within_cons (by exact trivial) (within_cons (by exact trivial) (within_cons (by exact trivial) (within_cons (by exact trivial) (within_cons (by exact trivial) (within_cons (by exact trivial) (within_cons (by exact trivial) (within_cons (by exact trivial) (within_cons (by exact trivial) (within_cons (by exact trivial) (within_cons (by exact trivial) (within_cons (by exact trivial) (within_cons (by exact trivial) (within_cons (by exact trivial) (within_cons (by exact trivial) (within_cons (by exact trivial) (within_cons (by exact trivial) (within_cons (by exact trivial) within_nil))))))))))))))))))))))))))))))))))))))) ?_ ?_
                              · skip
                                refine each_consF r rfl (fun fr1 u w' hb' hd r' => ?_) ?_
                                · exact y_load_agg r' (cs := (planC ({ a0 with domains := (IntKind.i64.wrap (a0.domains + 1)) }))) (n := 6) rfl (keep hb' h_b15) ta24 rfl ⟨Below.refl _ _, rfl⟩
                                refine each_consF r rfl (fun fr1 u w' hb' hd r' => ?_) ?_
                                · obtain ⟨d0, _⟩ := hd; exact y_call r' (args := [(.agg (planC ({ a0 with domains := (IntKind.i64.wrap (a0.domains + 1)) })).toArray)]) (lc d0 l0) cl21 ((c_plan_Plan_Size _ ({ a0 with domains := (IntKind.i64.wrap (a0.domains + 1)) })).mono (by rintro _ w2 ⟨rfl, hb2⟩; exact ⟨_, rfl, hb2, rfl⟩))
                                refine each_consF r rfl (fun fr1 u w' hb' hd r' => ?_) ?_
                                · exact y_load_agg r' (cs := (planC a0)) (n := 6) rfl (keep hb' h_b1) ta24 rfl ⟨Below.refl _ _, rfl⟩
                                refine each_consF r rfl (fun fr1 u w' hb' hd r' => ?_) ?_
                                · obtain ⟨d0, d1, _⟩ := hd; exact y_call r' (args := [(.agg (planC a0).toArray)]) (lc d0 l0) cl21 ((c_plan_Plan_Size _ a0).mono (by rintro _ w2 ⟨rfl, hb2⟩; exact ⟨_, rfl, hb2, rfl⟩))
                                refine each_consF r rfl (fun fr1 u w' hb' hd r' => ?_) ?_
                                · exact y_move r' (v := (.int .i64 (IntKind.i64.wrap (1 + (D.plan_Plan_Cells a0))))) rfl ⟨Below.refl _ _, rfl⟩
                                refine each_consF r rfl (fun fr1 u w' hb' hd r' => ?_) ?_
                                · obtain ⟨d0, d1, _⟩ := hd; exact y_bin r' (u := (.int .i64 (D.plan_Plan_Size a0))) (u' := (.int .i64 (IntKind.i64.wrap (1 + (D.plan_Plan_Cells a0))))) (v := (.int .i64 (IntKind.i64.wrap ((D.plan_Plan_Size a0) + (IntKind.i64.wrap (1 + (D.plan_Plan_Cells a0))))))) d0 d1 rfl rfl ⟨Below.refl _ _, rfl⟩
                                refine each_consF r rfl (fun fr1 u w' hb' hd r' => ?_) ?_
                                · obtain ⟨d0, d1, _⟩ := hd; exact y_bin r' (u := (.int .i64 (D.plan_Plan_Size ({ a0 with domains := (IntKind.i64.wrap (a0.domains + 1)) })))) (u' := (.int .i64 (IntKind.i64.wrap ((D.plan_Plan_Size a0) + (IntKind.i64.wrap (1 + (D.plan_Plan_Cells a0))))))) (v := (.bool ((D.plan_Plan_Size ({ a0 with domains := (IntKind.i64.wrap (a0.domains + 1)) })) == (IntKind.i64.wrap ((D.plan_Plan_Size a0) + (IntKind.i64.wrap (1 + (D.plan_Plan_Cells a0)))))))) d0 d1 rfl rfl ⟨Below.refl _ _, rfl⟩
                                refine each_consF r rfl (fun fr1 u w' hb' hd r' => ?_) ?_
                                · obtain ⟨d0, d1, _⟩ := hd; exact y_move r' (v := (.bool ((D.plan_Plan_Size ({ a0 with domains := (IntKind.i64.wrap (a0.domains + 1)) })) == (IntKind.i64.wrap ((D.plan_Plan_Size a0) + (IntKind.i64.wrap (1 + (D.plan_Plan_Cells a0)))))))) d0 ⟨Below.refl _ _, rfl⟩
                                refine each_consW true r rfl rfl rfl (fun u w' hd => by obtain ⟨d0, _⟩ := hd; exact Eq.trans (show u 7 = .bool ((D.plan_Plan_Size ({ a0 with domains := (IntKind.i64.wrap (a0.domains + 1)) })) == (IntKind.i64.wrap ((D.plan_Plan_Size a0) + (IntKind.i64.wrap (1 + (D.plan_Plan_Cells a0)))))) from d0) (congrArg Value.bool h34)) (fun fr1 u w' hb' hd r' => ?_) ?_
                                · obtain ⟨d0, _⟩ := hd; exact y_load_agg r' (cs := (planC ({ a0 with domains := (IntKind.i64.wrap (a0.domains + 1)) }))) (n := 6) rfl (keep hb' h_b15) ta24 rfl ⟨Below.refl _ _, rfl⟩
                                refine each_consW true r rfl rfl rfl (fun u w' hd => by obtain ⟨d0, _⟩ := hd; exact Eq.trans (show u 7 = .bool ((D.plan_Plan_Size ({ a0 with domains := (IntKind.i64.wrap (a0.domains + 1)) })) == (IntKind.i64.wrap ((D.plan_Plan_Size a0) + (IntKind.i64.wrap (1 + (D.plan_Plan_Cells a0)))))) from d0) (congrArg Value.bool h34)) (fun fr1 u w' hb' hd r' => ?_) ?_
                                · obtain ⟨d0, _⟩ := hd; exact y_move r' (v := (.int .i64 x20)) rfl ⟨Below.refl _ _, rfl⟩
                                refine each_consW true r rfl rfl rfl (fun u w' hd => by obtain ⟨d0, d1, d2, d3, _⟩ := hd; exact Eq.trans (show u 7 = .bool ((D.plan_Plan_Size ({ a0 with domains := (IntKind.i64.wrap (a0.domains + 1)) })) == (IntKind.i64.wrap ((D.plan_Plan_Size a0) + (IntKind.i64.wrap (1 + (D.plan_Plan_Cells a0)))))) from d2) (congrArg Value.bool h34)) (fun fr1 u w' hb' hd r' => ?_) ?_
                                · obtain ⟨d0, d1, d2, d3, _⟩ := hd; exact y_call r' (args := [(.agg (planC ({ a0 with domains := (IntKind.i64.wrap (a0.domains + 1)) })).toArray), (.int .i64 x20)]) (lc d0 (lc d1 l0)) cl25 ((c_plan_Plan_State _ ({ a0 with domains := (IntKind.i64.wrap (a0.domains + 1)) }) x20).mono (by rintro _ w2 ⟨rfl, hb2⟩; exact ⟨_, rfl, hb2, rfl⟩))
                                refine each_consW true r rfl rfl rfl (fun u w' hd => by obtain ⟨d0, _⟩ := hd; exact Eq.trans (show u 7 = .bool ((D.plan_Plan_Size ({ a0 with domains := (IntKind.i64.wrap (a0.domains + 1)) })) == (IntKind.i64.wrap ((D.plan_Plan_Size a0) + (IntKind.i64.wrap (1 + (D.plan_Plan_Cells a0)))))) from d0) (congrArg Value.bool h34)) (fun fr1 u w' hb' hd r' => ?_) ?_
                                · obtain ⟨d0, _⟩ := hd; exact y_load_agg r' (cs := (planC a0)) (n := 6) rfl (keep hb' h_b1) ta24 rfl ⟨Below.refl _ _, rfl⟩
                                refine each_consW true r rfl rfl rfl (fun u w' hd => by obtain ⟨d0, _⟩ := hd; exact Eq.trans (show u 7 = .bool ((D.plan_Plan_Size ({ a0 with domains := (IntKind.i64.wrap (a0.domains + 1)) })) == (IntKind.i64.wrap ((D.plan_Plan_Size a0) + (IntKind.i64.wrap (1 + (D.plan_Plan_Cells a0)))))) from d0) (congrArg Value.bool h34)) (fun fr1 u w' hb' hd r' => ?_) ?_
                                · obtain ⟨d0, _⟩ := hd; exact y_move r' (v := (.int .i64 x20)) rfl ⟨Below.refl _ _, rfl⟩
                                refine each_consW true r rfl rfl rfl (fun u w' hd => by obtain ⟨d0, d1, d2, d3, _⟩ := hd; exact Eq.trans (show u 7 = .bool ((D.plan_Plan_Size ({ a0 with domains := (IntKind.i64.wrap (a0.domains + 1)) })) == (IntKind.i64.wrap ((D.plan_Plan_Size a0) + (IntKind.i64.wrap (1 + (D.plan_Plan_Cells a0)))))) from d3) (congrArg Value.bool h34)) (fun fr1 u w' hb' hd r' => ?_) ?_
                                · obtain ⟨d0, d1, d2, d3, _⟩ := hd; exact y_call r' (args := [(.agg (planC a0).toArray), (.int .i64 x20)]) (lc d0 (lc d1 l0)) cl25 ((c_plan_Plan_State _ a0 x20).mono (by rintro _ w2 ⟨rfl, hb2⟩; exact ⟨_, rfl, hb2, rfl⟩))
                                refine each_consW true r rfl rfl rfl (fun u w' hd => by obtain ⟨d0, _⟩ := hd; exact Eq.trans (show u 7 = .bool ((D.plan_Plan_Size ({ a0 with domains := (IntKind.i64.wrap (a0.domains + 1)) })) == (IntKind.i64.wrap ((D.plan_Plan_Size a0) + (IntKind.i64.wrap (1 + (D.plan_Plan_Cells a0)))))) from d0) (congrArg Value.bool h34)) (fun fr1 u w' hb' hd r' => ?_) ?_
                                · obtain ⟨d0, _⟩ := hd; exact y_move r' (v := (.int .i64 (IntKind.i64.wrap (1 + (D.plan_Plan_Cells a0))))) rfl ⟨Below.refl _ _, rfl⟩
                                refine each_consW true r rfl rfl rfl (fun u w' hd => by obtain ⟨d0, d1, d2, _⟩ := hd; exact Eq.trans (show u 7 = .bool ((D.plan_Plan_Size ({ a0 with domains := (IntKind.i64.wrap (a0.domains + 1)) })) == (IntKind.i64.wrap ((D.plan_Plan_Size a0) + (IntKind.i64.wrap (1 + (D.plan_Plan_Cells a0)))))) from d2) (congrArg Value.bool h34)) (fun fr1 u w' hb' hd r' => ?_) ?_
                                · obtain ⟨d0, d1, d2, _⟩ := hd; exact y_bin r' (u := (.int .i64 (D.plan_Plan_State a0 x20))) (u' := (.int .i64 (IntKind.i64.wrap (1 + (D.plan_Plan_Cells a0))))) (v := (.int .i64 (IntKind.i64.wrap ((D.plan_Plan_State a0 x20) + (IntKind.i64.wrap (1 + (D.plan_Plan_Cells a0))))))) d0 d1 rfl rfl ⟨Below.refl _ _, rfl⟩
                                refine each_consW true r rfl rfl rfl (fun u w' hd => by obtain ⟨d0, d1, d2, _⟩ := hd; exact Eq.trans (show u 7 = .bool ((D.plan_Plan_Size ({ a0 with domains := (IntKind.i64.wrap (a0.domains + 1)) })) == (IntKind.i64.wrap ((D.plan_Plan_Size a0) + (IntKind.i64.wrap (1 + (D.plan_Plan_Cells a0)))))) from d2) (congrArg Value.bool h34)) (fun fr1 u w' hb' hd r' => ?_) ?_
                                · obtain ⟨d0, d1, d2, _⟩ := hd; exact y_bin r' (u := (.int .i64 (D.plan_Plan_State ({ a0 with domains := (IntKind.i64.wrap (a0.domains + 1)) }) x20))) (u' := (.int .i64 (IntKind.i64.wrap ((D.plan_Plan_State a0 x20) + (IntKind.i64.wrap (1 + (D.plan_Plan_Cells a0))))))) (v := (.bool ((D.plan_Plan_State ({ a0 with domains := (IntKind.i64.wrap (a0.domains + 1)) }) x20) == (IntKind.i64.wrap ((D.plan_Plan_State a0 x20) + (IntKind.i64.wrap (1 + (D.plan_Plan_Cells a0)))))))) d0 d1 rfl rfl ⟨Below.refl _ _, rfl⟩
                                refine each_consF r rfl (fun fr1 u w' hb' hd r' => ?_) ?_
                                · obtain ⟨d0, d1, _⟩ := hd; exact y_pick r' (b := true) (v := (.bool ((D.plan_Plan_State ({ a0 with domains := (IntKind.i64.wrap (a0.domains + 1)) }) x20) == (IntKind.i64.wrap ((D.plan_Plan_State a0 x20) + (IntKind.i64.wrap (1 + (D.plan_Plan_Cells a0)))))))) (Eq.trans (show u 7 = .bool ((D.plan_Plan_Size ({ a0 with domains := (IntKind.i64.wrap (a0.domains + 1)) })) == (IntKind.i64.wrap ((D.plan_Plan_Size a0) + (IntKind.i64.wrap (1 + (D.plan_Plan_Cells a0)))))) from d0) (congrArg Value.bool h34)) d1 ⟨Below.refl _ _, rfl⟩
                                refine each_consF r rfl (fun fr1 u w' hb' hd r' => ?_) ?_
                                · obtain ⟨d0, d1, _⟩ := hd; exact y_move r' (v := (.bool ((D.plan_Plan_State ({ a0 with domains := (IntKind.i64.wrap (a0.domains + 1)) }) x20) == (IntKind.i64.wrap ((D.plan_Plan_State a0 x20) + (IntKind.i64.wrap (1 + (D.plan_Plan_Cells a0)))))))) d0 ⟨Below.refl _ _, rfl⟩
                                refine each_consW true r rfl rfl rfl (fun u w' hd => by obtain ⟨d0, _⟩ := hd; exact Eq.trans (show u 18 = .bool ((D.plan_Plan_State ({ a0 with domains := (IntKind.i64.wrap (a0.domains + 1)) }) x20) == (IntKind.i64.wrap ((D.plan_Plan_State a0 x20) + (IntKind.i64.wrap (1 + (D.plan_Plan_Cells a0)))))) from d0) (congrArg Value.bool h35)) (fun fr1 u w' hb' hd r' => ?_) ?_
                                · obtain ⟨d0, _⟩ := hd; exact y_load_agg r' (cs := (planC ({ a0 with domains := (IntKind.i64.wrap (a0.domains + 1)) }))) (n := 6) rfl (keep hb' h_b15) ta24 rfl ⟨Below.refl _ _, rfl⟩
                                refine each_consW true r rfl rfl rfl (fun u w' hd => by obtain ⟨d0, d1, d2, _⟩ := hd; exact Eq.trans (show u 18 = .bool ((D.plan_Plan_State ({ a0 with domains := (IntKind.i64.wrap (a0.domains + 1)) }) x20) == (IntKind.i64.wrap ((D.plan_Plan_State a0 x20) + (IntKind.i64.wrap (1 + (D.plan_Plan_Cells a0)))))) from d1) (congrArg Value.bool h35)) (fun fr1 u w' hb' hd r' => ?_) ?_
                                · obtain ⟨d0, d1, d2, _⟩ := hd; exact y_call r' (args := [(.agg (planC ({ a0 with domains := (IntKind.i64.wrap (a0.domains + 1)) })).toArray), (.int .i64 0)]) (lc d0 (lc rfl l0)) cl29 ((c_plan_Plan_Count _ ({ a0 with domains := (IntKind.i64.wrap (a0.domains + 1)) }) 0).mono (by rintro _ w2 ⟨rfl, hb2⟩; exact ⟨_, rfl, hb2, rfl⟩))
                                refine each_consW true r rfl rfl rfl (fun u w' hd => by obtain ⟨d0, _⟩ := hd; exact Eq.trans (show u 18 = .bool ((D.plan_Plan_State ({ a0 with domains := (IntKind.i64.wrap (a0.domains + 1)) }) x20) == (IntKind.i64.wrap ((D.plan_Plan_State a0 x20) + (IntKind.i64.wrap (1 + (D.plan_Plan_Cells a0)))))) from d0) (congrArg Value.bool h35)) (fun fr1 u w' hb' hd r' => ?_) ?_
                                · obtain ⟨d0, _⟩ := hd; exact y_load_agg r' (cs := (planC a0)) (n := 6) rfl (keep hb' h_b1) ta24 rfl ⟨Below.refl _ _, rfl⟩
                                refine each_consW true r rfl rfl rfl (fun u w' hd => by obtain ⟨d0, d1, d2, _⟩ := hd; exact Eq.trans (show u 18 = .bool ((D.plan_Plan_State ({ a0 with domains := (IntKind.i64.wrap (a0.domains + 1)) }) x20) == (IntKind.i64.wrap ((D.plan_Plan_State a0 x20) + (IntKind.i64.wrap (1 + (D.plan_Plan_Cells a0)))))) from d2) (congrArg Value.bool h35)) (fun fr1 u w' hb' hd r' => ?_) ?_
                                · obtain ⟨d0, d1, d2, _⟩ := hd; exact y_call r' (args := [(.agg (planC a0).toArray), (.int .i64 0)]) (lc d0 (lc rfl l0)) cl29 ((c_plan_Plan_Count _ a0 0).mono (by rintro _ w2 ⟨rfl, hb2⟩; exact ⟨_, rfl, hb2, rfl⟩))
                                refine each_consW true r rfl rfl rfl (fun u w' hd => by obtain ⟨d0, _⟩ := hd; exact Eq.trans (show u 18 = .bool ((D.plan_Plan_State ({ a0 with domains := (IntKind.i64.wrap (a0.domains + 1)) }) x20) == (IntKind.i64.wrap ((D.plan_Plan_State a0 x20) + (IntKind.i64.wrap (1 + (D.plan_Plan_Cells a0)))))) from d0) (congrArg Value.bool h35)) (fun fr1 u w' hb' hd r' => ?_) ?_
                                · obtain ⟨d0, _⟩ := hd; exact y_move r' (v := (.int .i64 (IntKind.i64.wrap (1 + (D.plan_Plan_Cells a0))))) rfl ⟨Below.refl _ _, rfl⟩
                                refine each_consW true r rfl rfl rfl (fun u w' hd => by obtain ⟨d0, d1, d2, _⟩ := hd; exact Eq.trans (show u 18 = .bool ((D.plan_Plan_State ({ a0 with domains := (IntKind.i64.wrap (a0.domains + 1)) }) x20) == (IntKind.i64.wrap ((D.plan_Plan_State a0 x20) + (IntKind.i64.wrap (1 + (D.plan_Plan_Cells a0)))))) from d2) (congrArg Value.bool h35)) (fun fr1 u w' hb' hd r' => ?_) ?_
                                · obtain ⟨d0, d1, d2, _⟩ := hd; exact y_bin r' (u := (.int .i64 (D.plan_Plan_Count a0 0))) (u' := (.int .i64 (IntKind.i64.wrap (1 + (D.plan_Plan_Cells a0))))) (v := (.int .i64 (IntKind.i64.wrap ((D.plan_Plan_Count a0 0) + (IntKind.i64.wrap (1 + (D.plan_Plan_Cells a0))))))) d0 d1 rfl rfl ⟨Below.refl _ _, rfl⟩
                                refine each_consW true r rfl rfl rfl (fun u w' hd => by obtain ⟨d0, d1, d2, _⟩ := hd; exact Eq.trans (show u 18 = .bool ((D.plan_Plan_State ({ a0 with domains := (IntKind.i64.wrap (a0.domains + 1)) }) x20) == (IntKind.i64.wrap ((D.plan_Plan_State a0 x20) + (IntKind.i64.wrap (1 + (D.plan_Plan_Cells a0)))))) from d2) (congrArg Value.bool h35)) (fun fr1 u w' hb' hd r' => ?_) ?_
                                · obtain ⟨d0, d1, d2, _⟩ := hd; exact y_bin r' (u := (.int .i64 (D.plan_Plan_Count ({ a0 with domains := (IntKind.i64.wrap (a0.domains + 1)) }) 0))) (u' := (.int .i64 (IntKind.i64.wrap ((D.plan_Plan_Count a0 0) + (IntKind.i64.wrap (1 + (D.plan_Plan_Cells a0))))))) (v := (.bool ((D.plan_Plan_Count ({ a0 with domains := (IntKind.i64.wrap (a0.domains + 1)) }) 0) == (IntKind.i64.wrap ((D.plan_Plan_Count a0 0) + (IntKind.i64.wrap (1 + (D.plan_Plan_Cells a0)))))))) d0 d1 rfl rfl ⟨Below.refl _ _, rfl⟩
                                refine each_consF r rfl (fun fr1 u w' hb' hd r' => ?_) ?_
                                · obtain ⟨d0, d1, _⟩ := hd; exact y_pick r' (b := true) (v := (.bool ((D.plan_Plan_Count ({ a0 with domains := (IntKind.i64.wrap (a0.domains + 1)) }) 0) == (IntKind.i64.wrap ((D.plan_Plan_Count a0 0) + (IntKind.i64.wrap (1 + (D.plan_Plan_Cells a0)))))))) (Eq.trans (show u 18 = .bool ((D.plan_Plan_State ({ a0 with domains := (IntKind.i64.wrap (a0.domains + 1)) }) x20) == (IntKind.i64.wrap ((D.plan_Plan_State a0 x20) + (IntKind.i64.wrap (1 + (D.plan_Plan_Cells a0)))))) from d0) (congrArg Value.bool h35)) d1 ⟨Below.refl _ _, rfl⟩
                                refine each_consF r rfl (fun fr1 u w' hb' hd r' => ?_) ?_
                                · obtain ⟨d0, d1, _⟩ := hd; exact y_move r' (v := (.bool ((D.plan_Plan_Count ({ a0 with domains := (IntKind.i64.wrap (a0.domains + 1)) }) 0) == (IntKind.i64.wrap ((D.plan_Plan_Count a0 0) + (IntKind.i64.wrap (1 + (D.plan_Plan_Cells a0)))))))) d0 ⟨Below.refl _ _, rfl⟩
                                refine each_consW true r rfl rfl rfl (fun u w' hd => by obtain ⟨d0, _⟩ := hd; exact Eq.trans (show u 27 = .bool ((D.plan_Plan_Count ({ a0 with domains := (IntKind.i64.wrap (a0.domains + 1)) }) 0) == (IntKind.i64.wrap ((D.plan_Plan_Count a0 0) + (IntKind.i64.wrap (1 + (D.plan_Plan_Cells a0)))))) from d0) (congrArg Value.bool h36)) (fun fr1 u w' hb' hd r' => ?_) ?_
                                · obtain ⟨d0, _⟩ := hd; exact y_load_agg r' (cs := (planC ({ a0 with domains := (IntKind.i64.wrap (a0.domains + 1)) }))) (n := 6) rfl (keep hb' h_b15) ta24 rfl ⟨Below.refl _ _, rfl⟩
                                refine each_consW true r rfl rfl rfl (fun u w' hd => by obtain ⟨d0, _⟩ := hd; exact Eq.trans (show u 27 = .bool ((D.plan_Plan_Count ({ a0 with domains := (IntKind.i64.wrap (a0.domains + 1)) }) 0) == (IntKind.i64.wrap ((D.plan_Plan_Count a0 0) + (IntKind.i64.wrap (1 + (D.plan_Plan_Cells a0)))))) from d0) (congrArg Value.bool h36)) (fun fr1 u w' hb' hd r' => ?_) ?_
                                · obtain ⟨d0, _⟩ := hd; exact y_fieldAddr r' (b := b1) (o := 0) (k := 3) rfl fo24_3 ⟨Below.refl _ _, rfl⟩
                                refine each_consW true r rfl rfl rfl (fun u w' hd => by obtain ⟨d0, d1, _⟩ := hd; exact Eq.trans (show u 27 = .bool ((D.plan_Plan_Count ({ a0 with domains := (IntKind.i64.wrap (a0.domains + 1)) }) 0) == (IntKind.i64.wrap ((D.plan_Plan_Count a0 0) + (IntKind.i64.wrap (1 + (D.plan_Plan_Cells a0)))))) from d1) (congrArg Value.bool h36)) (fun fr1 u w' hb' hd r' => ?_) ?_
                                · obtain ⟨d0, d1, _⟩ := hd; exact y_load_one r' (v := (.int .i64 a0.domains)) d0 (keep hb' h_b1) to3 rfl ⟨Below.refl _ _, rfl⟩
                                refine each_consW true r rfl rfl rfl (fun u w' hd => by obtain ⟨d0, d1, d2, d3, _⟩ := hd; exact Eq.trans (show u 27 = .bool ((D.plan_Plan_Count ({ a0 with domains := (IntKind.i64.wrap (a0.domains + 1)) }) 0) == (IntKind.i64.wrap ((D.plan_Plan_Count a0 0) + (IntKind.i64.wrap (1 + (D.plan_Plan_Cells a0)))))) from d2) (congrArg Value.bool h36)) (fun fr1 u w' hb' hd r' => ?_) ?_
                                · obtain ⟨d0, d1, d2, d3, _⟩ := hd; exact y_call r' (args := [(.agg (planC ({ a0 with domains := (IntKind.i64.wrap (a0.domains + 1)) })).toArray), (.int .i64 a0.domains)]) (lc d0 (lc d1 l0)) cl31 ((c_plan_Plan_Kind _ ({ a0 with domains := (IntKind.i64.wrap (a0.domains + 1)) }) a0.domains).mono (by rintro _ w2 ⟨rfl, hb2⟩; exact ⟨_, rfl, hb2, rfl⟩))
                                refine each_consW true r rfl rfl rfl (fun u w' hd => by obtain ⟨d0, _⟩ := hd; exact Eq.trans (show u 27 = .bool ((D.plan_Plan_Count ({ a0 with domains := (IntKind.i64.wrap (a0.domains + 1)) }) 0) == (IntKind.i64.wrap ((D.plan_Plan_Count a0 0) + (IntKind.i64.wrap (1 + (D.plan_Plan_Cells a0)))))) from d0) (congrArg Value.bool h36)) (fun fr1 u w' hb' hd r' => ?_) ?_
                                · obtain ⟨d0, _⟩ := hd; exact y_fieldAddr r' (b := b1) (o := 0) (k := 3) rfl fo24_3 ⟨Below.refl _ _, rfl⟩
                                refine each_consW true r rfl rfl rfl (fun u w' hd => by obtain ⟨d0, d1, _⟩ := hd; exact Eq.trans (show u 27 = .bool ((D.plan_Plan_Count ({ a0 with domains := (IntKind.i64.wrap (a0.domains + 1)) }) 0) == (IntKind.i64.wrap ((D.plan_Plan_Count a0 0) + (IntKind.i64.wrap (1 + (D.plan_Plan_Cells a0)))))) from d1) (congrArg Value.bool h36)) (fun fr1 u w' hb' hd r' => ?_) ?_
                                · obtain ⟨d0, d1, _⟩ := hd; exact y_load_one r' (v := (.int .i64 a0.domains)) d0 (keep hb' h_b1) to3 rfl ⟨Below.refl _ _, rfl⟩
                                refine each_consW true r rfl rfl rfl (fun u w' hd => by obtain ⟨d0, _⟩ := hd; exact Eq.trans (show u 27 = .bool ((D.plan_Plan_Count ({ a0 with domains := (IntKind.i64.wrap (a0.domains + 1)) }) 0) == (IntKind.i64.wrap ((D.plan_Plan_Count a0 0) + (IntKind.i64.wrap (1 + (D.plan_Plan_Cells a0)))))) from d0) (congrArg Value.bool h36)) (fun fr1 u w' hb' hd r' => ?_) ?_
                                · obtain ⟨d0, _⟩ := hd; exact y_move r' (v := (.int .i64 (IntKind.i64.wrap (1 + (D.plan_Plan_Cells a0))))) rfl ⟨Below.refl _ _, rfl⟩
                                refine each_consW true r rfl rfl rfl (fun u w' hd => by obtain ⟨d0, d1, d2, _⟩ := hd; exact Eq.trans (show u 27 = .bool ((D.plan_Plan_Count ({ a0 with domains := (IntKind.i64.wrap (a0.domains + 1)) }) 0) == (IntKind.i64.wrap ((D.plan_Plan_Count a0 0) + (IntKind.i64.wrap (1 + (D.plan_Plan_Cells a0)))))) from d2) (congrArg Value.bool h36)) (fun fr1 u w' hb' hd r' => ?_) ?_
                                · obtain ⟨d0, d1, d2, _⟩ := hd; exact y_bin r' (u := (.int .i64 a0.domains)) (u' := (.int .i64 (IntKind.i64.wrap (1 + (D.plan_Plan_Cells a0))))) (v := (.int .i64 (IntKind.i64.wrap (a0.domains * (IntKind.i64.wrap (1 + (D.plan_Plan_Cells a0))))))) d0 d1 rfl rfl ⟨Below.refl _ _, rfl⟩
                                refine each_consW true r rfl rfl rfl (fun u w' hd => by obtain ⟨d0, d1, _⟩ := hd; exact Eq.trans (show u 27 = .bool ((D.plan_Plan_Count ({ a0 with domains := (IntKind.i64.wrap (a0.domains + 1)) }) 0) == (IntKind.i64.wrap ((D.plan_Plan_Count a0 0) + (IntKind.i64.wrap (1 + (D.plan_Plan_Cells a0)))))) from d1) (congrArg Value.bool h36)) (fun fr1 u w' hb' hd r' => ?_) ?_
                                · obtain ⟨d0, d1, _⟩ := hd; exact y_bin r' (u := (.int .i64 1)) (u' := (.int .i64 (IntKind.i64.wrap (a0.domains * (IntKind.i64.wrap (1 + (D.plan_Plan_Cells a0))))))) (v := (.int .i64 (IntKind.i64.wrap (1 + (IntKind.i64.wrap (a0.domains * (IntKind.i64.wrap (1 + (D.plan_Plan_Cells a0))))))))) rfl d0 rfl rfl ⟨Below.refl _ _, rfl⟩
                                refine each_consW true r rfl rfl rfl (fun u w' hd => by obtain ⟨d0, d1, d2, _⟩ := hd; exact Eq.trans (show u 27 = .bool ((D.plan_Plan_Count ({ a0 with domains := (IntKind.i64.wrap (a0.domains + 1)) }) 0) == (IntKind.i64.wrap ((D.plan_Plan_Count a0 0) + (IntKind.i64.wrap (1 + (D.plan_Plan_Cells a0)))))) from d2) (congrArg Value.bool h36)) (fun fr1 u w' hb' hd r' => ?_) ?_
                                · obtain ⟨d0, d1, d2, _⟩ := hd; exact y_bin r' (u := (.int .i64 (D.plan_Plan_Kind ({ a0 with domains := (IntKind.i64.wrap (a0.domains + 1)) }) a0.domains))) (u' := (.int .i64 (IntKind.i64.wrap (1 + (IntKind.i64.wrap (a0.domains * (IntKind.i64.wrap (1 + (D.plan_Plan_Cells a0))))))))) (v := (.bool ((D.plan_Plan_Kind ({ a0 with domains := (IntKind.i64.wrap (a0.domains + 1)) }) a0.domains) == (IntKind.i64.wrap (1 + (IntKind.i64.wrap (a0.domains * (IntKind.i64.wrap (1 + (D.plan_Plan_Cells a0)))))))))) d0 d1 rfl rfl ⟨Below.refl _ _, rfl⟩
                                refine each_consF r rfl (fun fr1 u w' hb' hd r' => ?_) ?_
                                · obtain ⟨d0, d1, _⟩ := hd; exact y_pick r' (b := true) (v := (.bool ((D.plan_Plan_Kind ({ a0 with domains := (IntKind.i64.wrap (a0.domains + 1)) }) a0.domains) == (IntKind.i64.wrap (1 + (IntKind.i64.wrap (a0.domains * (IntKind.i64.wrap (1 + (D.plan_Plan_Cells a0)))))))))) (Eq.trans (show u 27 = .bool ((D.plan_Plan_Count ({ a0 with domains := (IntKind.i64.wrap (a0.domains + 1)) }) 0) == (IntKind.i64.wrap ((D.plan_Plan_Count a0 0) + (IntKind.i64.wrap (1 + (D.plan_Plan_Cells a0)))))) from d0) (congrArg Value.bool h36)) d1 ⟨Below.refl _ _, rfl⟩
                                exact each_nil
                              · skip
                                intro fr u w37 hb hΦ hne r
                                have g0 : u 0 = (.agg (planC ({ a0 with domains := (IntKind.i64.wrap (a0.domains + 1)) })).toArray) := hΦ 0 (by decide)
                                have g1 : u 1 = (.int .i64 (D.plan_Plan_Size ({ a0 with domains := (IntKind.i64.wrap (a0.domains + 1)) }))) := hΦ 1 (by decide)
                                have g2 : u 2 = (.agg (planC a0).toArray) := hΦ 2 (by decide)
                                have g3 : u 3 = (.int .i64 (D.plan_Plan_Size a0)) := hΦ 3 (by decide)
                                have g4 : u 4 = (.int .i64 (IntKind.i64.wrap (1 + (D.plan_Plan_Cells a0)))) := hΦ 4 (by decide)
                                have g5 : u 5 = (.int .i64 (IntKind.i64.wrap ((D.plan_Plan_Size a0) + (IntKind.i64.wrap (1 + (D.plan_Plan_Cells a0)))))) := hΦ 5 (by decide)
                                have g6 : u 6 = (.bool ((D.plan_Plan_Size ({ a0 with domains := (IntKind.i64.wrap (a0.domains + 1)) })) == (IntKind.i64.wrap ((D.plan_Plan_Size a0) + (IntKind.i64.wrap (1 + (D.plan_Plan_Cells a0))))))) := hΦ 6 (by decide)
                                have g7 : u 7 = (.bool ((D.plan_Plan_Size ({ a0 with domains := (IntKind.i64.wrap (a0.domains + 1)) })) == (IntKind.i64.wrap ((D.plan_Plan_Size a0) + (IntKind.i64.wrap (1 + (D.plan_Plan_Cells a0))))))) := hΦ 7 (by decide)
                                have g8 : u 8 = (.agg (planC ({ a0 with domains := (IntKind.i64.wrap (a0.domains + 1)) })).toArray) := hΦ 8 (by decide)
                                have g9 : u 9 = (.int .i64 x20) := hΦ 9 (by decide)
                                have g10 : u 10 = (.int .i64 (D.plan_Plan_State ({ a0 with domains := (IntKind.i64.wrap (a0.domains + 1)) }) x20)) := hΦ 10 (by decide)
                                have g11 : u 11 = (.agg (planC a0).toArray) := hΦ 11 (by decide)
                                have g12 : u 12 = (.int .i64 x20) := hΦ 12 (by decide)
                                have g13 : u 13 = (.int .i64 (D.plan_Plan_State a0 x20)) := hΦ 13 (by decide)
                                have g14 : u 14 = (.int .i64 (IntKind.i64.wrap (1 + (D.plan_Plan_Cells a0)))) := hΦ 14 (by decide)
                                have g15 : u 15 = (.int .i64 (IntKind.i64.wrap ((D.plan_Plan_State a0 x20) + (IntKind.i64.wrap (1 + (D.plan_Plan_Cells a0)))))) := hΦ 15 (by decide)
                                have g16 : u 16 = (.bool ((D.plan_Plan_State ({ a0 with domains := (IntKind.i64.wrap (a0.domains + 1)) }) x20) == (IntKind.i64.wrap ((D.plan_Plan_State a0 x20) + (IntKind.i64.wrap (1 + (D.plan_Plan_Cells a0))))))) := hΦ 16 (by decide)
                                have g17 : u 17 = (.bool ((D.plan_Plan_State ({ a0 with domains := (IntKind.i64.wrap (a0.domains + 1)) }) x20) == (IntKind.i64.wrap ((D.plan_Plan_State a0 x20) + (IntKind.i64.wrap (1 + (D.plan_Plan_Cells a0))))))) := hΦ 17 (by decide)
                                have g18 : u 18 = (.bool ((D.plan_Plan_State ({ a0 with domains := (IntKind.i64.wrap (a0.domains + 1)) }) x20) == (IntKind.i64.wrap ((D.plan_Plan_State a0 x20) + (IntKind.i64.wrap (1 + (D.plan_Plan_Cells a0))))))) := hΦ 18 (by decide)
                                have g19 : u 19 = (.agg (planC ({ a0 with domains := (IntKind.i64.wrap (a0.domains + 1)) })).toArray) := hΦ 19 (by decide)
                                have g20 : u 20 = (.int .i64 (D.plan_Plan_Count ({ a0 with domains := (IntKind.i64.wrap (a0.domains + 1)) }) 0)) := hΦ 20 (by decide)
                                have g21 : u 21 = (.agg (planC a0).toArray) := hΦ 21 (by decide)
                                have g22 : u 22 = (.int .i64 (D.plan_Plan_Count a0 0)) := hΦ 22 (by decide)
                                have g23 : u 23 = (.int .i64 (IntKind.i64.wrap (1 + (D.plan_Plan_Cells a0)))) := hΦ 23 (by decide)
                                have g24 : u 24 = (.int .i64 (IntKind.i64.wrap ((D.plan_Plan_Count a0 0) + (IntKind.i64.wrap (1 + (D.plan_Plan_Cells a0)))))) := hΦ 24 (by decide)
                                have g25 : u 25 = (.bool ((D.plan_Plan_Count ({ a0 with domains := (IntKind.i64.wrap (a0.domains + 1)) }) 0) == (IntKind.i64.wrap ((D.plan_Plan_Count a0 0) + (IntKind.i64.wrap (1 + (D.plan_Plan_Cells a0))))))) := hΦ 25 (by decide)
                                have g26 : u 26 = (.bool ((D.plan_Plan_Count ({ a0 with domains := (IntKind.i64.wrap (a0.domains + 1)) }) 0) == (IntKind.i64.wrap ((D.plan_Plan_Count a0 0) + (IntKind.i64.wrap (1 + (D.plan_Plan_Cells a0))))))) := hΦ 26 (by decide)
                                have g27 : u 27 = (.bool ((D.plan_Plan_Count ({ a0 with domains := (IntKind.i64.wrap (a0.domains + 1)) }) 0) == (IntKind.i64.wrap ((D.plan_Plan_Count a0 0) + (IntKind.i64.wrap (1 + (D.plan_Plan_Cells a0))))))) := hΦ 27 (by decide)
                                have g28 : u 28 = (.agg (planC ({ a0 with domains := (IntKind.i64.wrap (a0.domains + 1)) })).toArray) := hΦ 28 (by decide)
                                have g29 : u 29 = (.pointer (some ⟨b1, 3, none⟩)) := hΦ 29 (by decide)
                                have g30 : u 30 = (.int .i64 a0.domains) := hΦ 30 (by decide)
                                have g31 : u 31 = (.int .i64 (D.plan_Plan_Kind ({ a0 with domains := (IntKind.i64.wrap (a0.domains + 1)) }) a0.domains)) := hΦ 31 (by decide)
                                have g32 : u 32 = (.pointer (some ⟨b1, 3, none⟩)) := hΦ 32 (by decide)
                                have g33 : u 33 = (.int .i64 a0.domains) := hΦ 33 (by decide)
                                have g34 : u 34 = (.int .i64 (IntKind.i64.wrap (1 + (D.plan_Plan_Cells a0)))) := hΦ 34 (by decide)
                                have g35 : u 35 = (.int .i64 (IntKind.i64.wrap (a0.domains * (IntKind.i64.wrap (1 + (D.plan_Plan_Cells a0)))))) := hΦ 35 (by decide)
                                have g36 : u 36 = (.int .i64 (IntKind.i64.wrap (1 + (IntKind.i64.wrap (a0.domains * (IntKind.i64.wrap (1 + (D.plan_Plan_Cells a0)))))))) := hΦ 36 (by decide)
                                have g37 : u 37 = (.bool ((D.plan_Plan_Kind ({ a0 with domains := (IntKind.i64.wrap (a0.domains + 1)) }) a0.domains) == (IntKind.i64.wrap (1 + (IntKind.i64.wrap (a0.domains * (IntKind.i64.wrap (1 + (D.plan_Plan_Cells a0))))))))) := hΦ 37 (by decide)
                                have g38 : u 38 = (.bool ((D.plan_Plan_Kind ({ a0 with domains := (IntKind.i64.wrap (a0.domains + 1)) }) a0.domains) == (IntKind.i64.wrap (1 + (IntKind.i64.wrap (a0.domains * (IntKind.i64.wrap (1 + (D.plan_Plan_Cells a0))))))))) := hΦ 38 (by decide)
                                have r := r.congr (sc g38 (sc g37 (sc g36 (sc g35 (sc g34 (sc g33 (sc g32 (sc g31 (sc g30 (sc g29 (sc g28 (sc g27 (sc g26 (sc g25 (sc g24 (sc g23 (sc g22 (sc g21 (sc g20 (sc g19 (sc g18 (sc g17 (sc g16 (sc g15 (sc g14 (sc g13 (sc g12 (sc g11 (sc g10 (sc g9 (sc g8 (sc g7 (sc g6 (sc g5 (sc g4 (sc g3 (sc g2 (sc g1 (sc g0 rfl)))))))))))))))))))))))))))))))))))))))
                                have z_w37 := hb.size
                                have h_b1 := keep hb h_b1
                                have h_b14 := keep hb h_b14
                                have h_b15 := keep hb h_b15
                                have hB := hB.trans (hb.mono hB.size)
                                have zB := hB.size
                                refine seq_val (.bool ((D.plan_Plan_Kind ({ a0 with domains := (IntKind.i64.wrap (a0.domains + 1)) }) a0.domains) == (IntKind.i64.wrap (1 + (IntKind.i64.wrap (a0.domains * (IntKind.i64.wrap (1 + (D.plan_Plan_Cells a0))))))))) r (fun R => y_assign r rfl) rfl fun fr r => ?_
                                refine wpList_nil ?_
                                refine wp_ret ?_
                                have hd : D.cubiclelaw06_PlanMore a0 a1 = ((D.plan_Plan_Kind ({ a0 with domains := (IntKind.i64.wrap (a0.domains + 1)) }) a0.domains) == (IntKind.i64.wrap (1 + (IntKind.i64.wrap (a0.domains * (IntKind.i64.wrap (1 + (D.plan_Plan_Cells a0)))))))) := by subst hx20; exact (cond_f h5).trans ((cond_f h8).trans ((cond_f h11).trans ((cond_f h23).trans ((cond_f h25).trans ((cond_f h27).trans ((cond_f h29).trans ((cond_f h32).trans ((cond_t h34).trans ((cond_t h35).trans ((cond_t h36).trans (rfl)))))))))))
                                refine ret_tmp r rfl (v := (.bool ((D.plan_Plan_Kind ({ a0 with domains := (IntKind.i64.wrap (a0.domains + 1)) }) a0.domains) == (IntKind.i64.wrap (1 + (IntKind.i64.wrap (a0.domains * (IntKind.i64.wrap (1 + (D.plan_Plan_Cells a0)))))))))) rfl ?_
                                rw [hd]
                                exact ⟨rfl, hB⟩
                            · skip
                              refine wp_drawnF 39 [.val (.agg (planC ({ a0 with domains := (IntKind.i64.wrap (a0.domains + 1)) })).toArray), .val (.int .i64 (D.plan_Plan_Size ({ a0 with domains := (IntKind.i64.wrap (a0.domains + 1)) }))), .val (.agg (planC a0).toArray), .val (.int .i64 (D.plan_Plan_Size a0)), .val (.int .i64 (IntKind.i64.wrap (1 + (D.plan_Plan_Cells a0)))), .val (.int .i64 (IntKind.i64.wrap ((D.plan_Plan_Size a0) + (IntKind.i64.wrap (1 + (D.plan_Plan_Cells a0)))))), .val (.bool ((D.plan_Plan_Size ({ a0 with domains := (IntKind.i64.wrap (a0.domains + 1)) })) == (IntKind.i64.wrap ((D.plan_Plan_Size a0) + (IntKind.i64.wrap (1 + (D.plan_Plan_Cells a0))))))), .val (.bool ((D.plan_Plan_Size ({ a0 with domains := (IntKind.i64.wrap (a0.domains + 1)) })) == (IntKind.i64.wrap ((D.plan_Plan_Size a0) + (IntKind.i64.wrap (1 + (D.plan_Plan_Cells a0))))))), .val (.agg (planC ({ a0 with domains := (IntKind.i64.wrap (a0.domains + 1)) })).toArray), .val (.int .i64 x20), .val (.int .i64 (D.plan_Plan_State ({ a0 with domains := (IntKind.i64.wrap (a0.domains + 1)) }) x20)), .val (.agg (planC a0).toArray), .val (.int .i64 x20), .val (.int .i64 (D.plan_Plan_State a0 x20)), .val (.int .i64 (IntKind.i64.wrap (1 + (D.plan_Plan_Cells a0)))), .val (.int .i64 (IntKind.i64.wrap ((D.plan_Plan_State a0 x20) + (IntKind.i64.wrap (1 + (D.plan_Plan_Cells a0)))))), .val (.bool ((D.plan_Plan_State ({ a0 with domains := (IntKind.i64.wrap (a0.domains + 1)) }) x20) == (IntKind.i64.wrap ((D.plan_Plan_State a0 x20) + (IntKind.i64.wrap (1 + (D.plan_Plan_Cells a0))))))), .val (.bool ((D.plan_Plan_State ({ a0 with domains := (IntKind.i64.wrap (a0.domains + 1)) }) x20) == (IntKind.i64.wrap ((D.plan_Plan_State a0 x20) + (IntKind.i64.wrap (1 + (D.plan_Plan_Cells a0))))))), .val (.bool ((D.plan_Plan_State ({ a0 with domains := (IntKind.i64.wrap (a0.domains + 1)) }) x20) == (IntKind.i64.wrap ((D.plan_Plan_State a0 x20) + (IntKind.i64.wrap (1 + (D.plan_Plan_Cells a0))))))), .val (.agg (planC ({ a0 with domains := (IntKind.i64.wrap (a0.domains + 1)) })).toArray), .val (.int .i64 (D.plan_Plan_Count ({ a0 with domains := (IntKind.i64.wrap (a0.domains + 1)) }) 0)), .val (.agg (planC a0).toArray), .val (.int .i64 (D.plan_Plan_Count a0 0)), .val (.int .i64 (IntKind.i64.wrap (1 + (D.plan_Plan_Cells a0)))), .val (.int .i64 (IntKind.i64.wrap ((D.plan_Plan_Count a0 0) + (IntKind.i64.wrap (1 + (D.plan_Plan_Cells a0)))))), .val (.bool ((D.plan_Plan_Count ({ a0 with domains := (IntKind.i64.wrap (a0.domains + 1)) }) 0) == (IntKind.i64.wrap ((D.plan_Plan_Count a0 0) + (IntKind.i64.wrap (1 + (D.plan_Plan_Cells a0))))))), .val (.bool ((D.plan_Plan_Count ({ a0 with domains := (IntKind.i64.wrap (a0.domains + 1)) }) 0) == (IntKind.i64.wrap ((D.plan_Plan_Count a0 0) + (IntKind.i64.wrap (1 + (D.plan_Plan_Cells a0))))))), .val (.bool ((D.plan_Plan_Count ({ a0 with domains := (IntKind.i64.wrap (a0.domains + 1)) }) 0) == (IntKind.i64.wrap ((D.plan_Plan_Count a0 0) + (IntKind.i64.wrap (1 + (D.plan_Plan_Cells a0))))))), .val undef, .val undef, .val undef, .val undef, .val undef, .val undef, .val undef, .val undef, .val undef, .val undef, .val (.bool false)] mixed r (by kernel_rfl) (within_cons (by exact trivial) (within_cons (by exact trivial) (within_cons (by exact trivial) (within_cons (by exact trivial) (within_cons (by exact trivial) (within_cons (by exact trivial) (within_cons (by exact trivial) (within_cons (by exact trivial) (within_cons (by exact trivial) (within_cons (by exact trivial) (within_cons (by exact trivial) (within_cons (by exact trivial) (within_cons (by exact trivial) (within_cons (by exact trivial) (within_cons (by exact trivial) (within_cons (by exact trivial) (within_cons (by exact trivial) (within_cons (by exact trivial) (within_cons (by exact trivial) (within_cons (by exact trivial) (within_cons (by exact trivial) (within_cons (by exact trivial) (within_cons (by exact trivial) (within_cons (by exact trivial) (within_cons (by exact trivial) (within_cons (by exact trivial) (within_cons (by exact trivial) (within_cons (by exact trivial) (within_cons (by exact trivial) (within_cons (by exact trivial) (within_cons (by exact trivial) (within_cons (by exact trivial) (within_cons (by exact trivial) (within_cons (by exact trivial) (within_cons (by exact trivial) (within_cons (by exact trivial) (within_cons (by exact trivial) (within_cons (by exact trivial) (within_cons (by exact trivial) within_nil))))))))))))))))))))))))))))))))))))))) ?_ ?_
                              · skip
                                refine each_consF r rfl (fun fr1 u w' hb' hd r' => ?_) ?_
                                · exact y_load_agg r' (cs := (planC ({ a0 with domains := (IntKind.i64.wrap (a0.domains + 1)) }))) (n := 6) rfl (keep hb' h_b15) ta24 rfl ⟨Below.refl _ _, rfl⟩
                                refine each_consF r rfl (fun fr1 u w' hb' hd r' => ?_) ?_
                                · obtain ⟨d0, _⟩ := hd; exact y_call r' (args := [(.agg (planC ({ a0 with domains := (IntKind.i64.wrap (a0.domains + 1)) })).toArray)]) (lc d0 l0) cl21 ((c_plan_Plan_Size _ ({ a0 with domains := (IntKind.i64.wrap (a0.domains + 1)) })).mono (by rintro _ w2 ⟨rfl, hb2⟩; exact ⟨_, rfl, hb2, rfl⟩))
                                refine each_consF r rfl (fun fr1 u w' hb' hd r' => ?_) ?_
                                · exact y_load_agg r' (cs := (planC a0)) (n := 6) rfl (keep hb' h_b1) ta24 rfl ⟨Below.refl _ _, rfl⟩
                                refine each_consF r rfl (fun fr1 u w' hb' hd r' => ?_) ?_
                                · obtain ⟨d0, d1, _⟩ := hd; exact y_call r' (args := [(.agg (planC a0).toArray)]) (lc d0 l0) cl21 ((c_plan_Plan_Size _ a0).mono (by rintro _ w2 ⟨rfl, hb2⟩; exact ⟨_, rfl, hb2, rfl⟩))
                                refine each_consF r rfl (fun fr1 u w' hb' hd r' => ?_) ?_
                                · exact y_move r' (v := (.int .i64 (IntKind.i64.wrap (1 + (D.plan_Plan_Cells a0))))) rfl ⟨Below.refl _ _, rfl⟩
                                refine each_consF r rfl (fun fr1 u w' hb' hd r' => ?_) ?_
                                · obtain ⟨d0, d1, _⟩ := hd; exact y_bin r' (u := (.int .i64 (D.plan_Plan_Size a0))) (u' := (.int .i64 (IntKind.i64.wrap (1 + (D.plan_Plan_Cells a0))))) (v := (.int .i64 (IntKind.i64.wrap ((D.plan_Plan_Size a0) + (IntKind.i64.wrap (1 + (D.plan_Plan_Cells a0))))))) d0 d1 rfl rfl ⟨Below.refl _ _, rfl⟩
                                refine each_consF r rfl (fun fr1 u w' hb' hd r' => ?_) ?_
                                · obtain ⟨d0, d1, _⟩ := hd; exact y_bin r' (u := (.int .i64 (D.plan_Plan_Size ({ a0 with domains := (IntKind.i64.wrap (a0.domains + 1)) })))) (u' := (.int .i64 (IntKind.i64.wrap ((D.plan_Plan_Size a0) + (IntKind.i64.wrap (1 + (D.plan_Plan_Cells a0))))))) (v := (.bool ((D.plan_Plan_Size ({ a0 with domains := (IntKind.i64.wrap (a0.domains + 1)) })) == (IntKind.i64.wrap ((D.plan_Plan_Size a0) + (IntKind.i64.wrap (1 + (D.plan_Plan_Cells a0)))))))) d0 d1 rfl rfl ⟨Below.refl _ _, rfl⟩
                                refine each_consF r rfl (fun fr1 u w' hb' hd r' => ?_) ?_
                                · obtain ⟨d0, d1, _⟩ := hd; exact y_move r' (v := (.bool ((D.plan_Plan_Size ({ a0 with domains := (IntKind.i64.wrap (a0.domains + 1)) })) == (IntKind.i64.wrap ((D.plan_Plan_Size a0) + (IntKind.i64.wrap (1 + (D.plan_Plan_Cells a0)))))))) d0 ⟨Below.refl _ _, rfl⟩
                                refine each_consW true r rfl rfl rfl (fun u w' hd => by obtain ⟨d0, _⟩ := hd; exact Eq.trans (show u 7 = .bool ((D.plan_Plan_Size ({ a0 with domains := (IntKind.i64.wrap (a0.domains + 1)) })) == (IntKind.i64.wrap ((D.plan_Plan_Size a0) + (IntKind.i64.wrap (1 + (D.plan_Plan_Cells a0)))))) from d0) (congrArg Value.bool h34)) (fun fr1 u w' hb' hd r' => ?_) ?_
                                · obtain ⟨d0, _⟩ := hd; exact y_load_agg r' (cs := (planC ({ a0 with domains := (IntKind.i64.wrap (a0.domains + 1)) }))) (n := 6) rfl (keep hb' h_b15) ta24 rfl ⟨Below.refl _ _, rfl⟩
                                refine each_consW true r rfl rfl rfl (fun u w' hd => by obtain ⟨d0, _⟩ := hd; exact Eq.trans (show u 7 = .bool ((D.plan_Plan_Size ({ a0 with domains := (IntKind.i64.wrap (a0.domains + 1)) })) == (IntKind.i64.wrap ((D.plan_Plan_Size a0) + (IntKind.i64.wrap (1 + (D.plan_Plan_Cells a0)))))) from d0) (congrArg Value.bool h34)) (fun fr1 u w' hb' hd r' => ?_) ?_
                                · obtain ⟨d0, _⟩ := hd; exact y_move r' (v := (.int .i64 x20)) rfl ⟨Below.refl _ _, rfl⟩
                                refine each_consW true r rfl rfl rfl (fun u w' hd => by obtain ⟨d0, d1, d2, d3, _⟩ := hd; exact Eq.trans (show u 7 = .bool ((D.plan_Plan_Size ({ a0 with domains := (IntKind.i64.wrap (a0.domains + 1)) })) == (IntKind.i64.wrap ((D.plan_Plan_Size a0) + (IntKind.i64.wrap (1 + (D.plan_Plan_Cells a0)))))) from d2) (congrArg Value.bool h34)) (fun fr1 u w' hb' hd r' => ?_) ?_
                                · obtain ⟨d0, d1, d2, d3, _⟩ := hd; exact y_call r' (args := [(.agg (planC ({ a0 with domains := (IntKind.i64.wrap (a0.domains + 1)) })).toArray), (.int .i64 x20)]) (lc d0 (lc d1 l0)) cl25 ((c_plan_Plan_State _ ({ a0 with domains := (IntKind.i64.wrap (a0.domains + 1)) }) x20).mono (by rintro _ w2 ⟨rfl, hb2⟩; exact ⟨_, rfl, hb2, rfl⟩))
                                refine each_consW true r rfl rfl rfl (fun u w' hd => by obtain ⟨d0, _⟩ := hd; exact Eq.trans (show u 7 = .bool ((D.plan_Plan_Size ({ a0 with domains := (IntKind.i64.wrap (a0.domains + 1)) })) == (IntKind.i64.wrap ((D.plan_Plan_Size a0) + (IntKind.i64.wrap (1 + (D.plan_Plan_Cells a0)))))) from d0) (congrArg Value.bool h34)) (fun fr1 u w' hb' hd r' => ?_) ?_
                                · obtain ⟨d0, _⟩ := hd; exact y_load_agg r' (cs := (planC a0)) (n := 6) rfl (keep hb' h_b1) ta24 rfl ⟨Below.refl _ _, rfl⟩
                                refine each_consW true r rfl rfl rfl (fun u w' hd => by obtain ⟨d0, _⟩ := hd; exact Eq.trans (show u 7 = .bool ((D.plan_Plan_Size ({ a0 with domains := (IntKind.i64.wrap (a0.domains + 1)) })) == (IntKind.i64.wrap ((D.plan_Plan_Size a0) + (IntKind.i64.wrap (1 + (D.plan_Plan_Cells a0)))))) from d0) (congrArg Value.bool h34)) (fun fr1 u w' hb' hd r' => ?_) ?_
                                · obtain ⟨d0, _⟩ := hd; exact y_move r' (v := (.int .i64 x20)) rfl ⟨Below.refl _ _, rfl⟩
                                refine each_consW true r rfl rfl rfl (fun u w' hd => by obtain ⟨d0, d1, d2, d3, _⟩ := hd; exact Eq.trans (show u 7 = .bool ((D.plan_Plan_Size ({ a0 with domains := (IntKind.i64.wrap (a0.domains + 1)) })) == (IntKind.i64.wrap ((D.plan_Plan_Size a0) + (IntKind.i64.wrap (1 + (D.plan_Plan_Cells a0)))))) from d3) (congrArg Value.bool h34)) (fun fr1 u w' hb' hd r' => ?_) ?_
                                · obtain ⟨d0, d1, d2, d3, _⟩ := hd; exact y_call r' (args := [(.agg (planC a0).toArray), (.int .i64 x20)]) (lc d0 (lc d1 l0)) cl25 ((c_plan_Plan_State _ a0 x20).mono (by rintro _ w2 ⟨rfl, hb2⟩; exact ⟨_, rfl, hb2, rfl⟩))
                                refine each_consW true r rfl rfl rfl (fun u w' hd => by obtain ⟨d0, _⟩ := hd; exact Eq.trans (show u 7 = .bool ((D.plan_Plan_Size ({ a0 with domains := (IntKind.i64.wrap (a0.domains + 1)) })) == (IntKind.i64.wrap ((D.plan_Plan_Size a0) + (IntKind.i64.wrap (1 + (D.plan_Plan_Cells a0)))))) from d0) (congrArg Value.bool h34)) (fun fr1 u w' hb' hd r' => ?_) ?_
                                · obtain ⟨d0, _⟩ := hd; exact y_move r' (v := (.int .i64 (IntKind.i64.wrap (1 + (D.plan_Plan_Cells a0))))) rfl ⟨Below.refl _ _, rfl⟩
                                refine each_consW true r rfl rfl rfl (fun u w' hd => by obtain ⟨d0, d1, d2, _⟩ := hd; exact Eq.trans (show u 7 = .bool ((D.plan_Plan_Size ({ a0 with domains := (IntKind.i64.wrap (a0.domains + 1)) })) == (IntKind.i64.wrap ((D.plan_Plan_Size a0) + (IntKind.i64.wrap (1 + (D.plan_Plan_Cells a0)))))) from d2) (congrArg Value.bool h34)) (fun fr1 u w' hb' hd r' => ?_) ?_
                                · obtain ⟨d0, d1, d2, _⟩ := hd; exact y_bin r' (u := (.int .i64 (D.plan_Plan_State a0 x20))) (u' := (.int .i64 (IntKind.i64.wrap (1 + (D.plan_Plan_Cells a0))))) (v := (.int .i64 (IntKind.i64.wrap ((D.plan_Plan_State a0 x20) + (IntKind.i64.wrap (1 + (D.plan_Plan_Cells a0))))))) d0 d1 rfl rfl ⟨Below.refl _ _, rfl⟩
                                refine each_consW true r rfl rfl rfl (fun u w' hd => by obtain ⟨d0, d1, d2, _⟩ := hd; exact Eq.trans (show u 7 = .bool ((D.plan_Plan_Size ({ a0 with domains := (IntKind.i64.wrap (a0.domains + 1)) })) == (IntKind.i64.wrap ((D.plan_Plan_Size a0) + (IntKind.i64.wrap (1 + (D.plan_Plan_Cells a0)))))) from d2) (congrArg Value.bool h34)) (fun fr1 u w' hb' hd r' => ?_) ?_
                                · obtain ⟨d0, d1, d2, _⟩ := hd; exact y_bin r' (u := (.int .i64 (D.plan_Plan_State ({ a0 with domains := (IntKind.i64.wrap (a0.domains + 1)) }) x20))) (u' := (.int .i64 (IntKind.i64.wrap ((D.plan_Plan_State a0 x20) + (IntKind.i64.wrap (1 + (D.plan_Plan_Cells a0))))))) (v := (.bool ((D.plan_Plan_State ({ a0 with domains := (IntKind.i64.wrap (a0.domains + 1)) }) x20) == (IntKind.i64.wrap ((D.plan_Plan_State a0 x20) + (IntKind.i64.wrap (1 + (D.plan_Plan_Cells a0)))))))) d0 d1 rfl rfl ⟨Below.refl _ _, rfl⟩
                                refine each_consF r rfl (fun fr1 u w' hb' hd r' => ?_) ?_
                                · obtain ⟨d0, d1, _⟩ := hd; exact y_pick r' (b := true) (v := (.bool ((D.plan_Plan_State ({ a0 with domains := (IntKind.i64.wrap (a0.domains + 1)) }) x20) == (IntKind.i64.wrap ((D.plan_Plan_State a0 x20) + (IntKind.i64.wrap (1 + (D.plan_Plan_Cells a0)))))))) (Eq.trans (show u 7 = .bool ((D.plan_Plan_Size ({ a0 with domains := (IntKind.i64.wrap (a0.domains + 1)) })) == (IntKind.i64.wrap ((D.plan_Plan_Size a0) + (IntKind.i64.wrap (1 + (D.plan_Plan_Cells a0)))))) from d0) (congrArg Value.bool h34)) d1 ⟨Below.refl _ _, rfl⟩
                                refine each_consF r rfl (fun fr1 u w' hb' hd r' => ?_) ?_
                                · obtain ⟨d0, d1, _⟩ := hd; exact y_move r' (v := (.bool ((D.plan_Plan_State ({ a0 with domains := (IntKind.i64.wrap (a0.domains + 1)) }) x20) == (IntKind.i64.wrap ((D.plan_Plan_State a0 x20) + (IntKind.i64.wrap (1 + (D.plan_Plan_Cells a0)))))))) d0 ⟨Below.refl _ _, rfl⟩
                                refine each_consW true r rfl rfl rfl (fun u w' hd => by obtain ⟨d0, _⟩ := hd; exact Eq.trans (show u 18 = .bool ((D.plan_Plan_State ({ a0 with domains := (IntKind.i64.wrap (a0.domains + 1)) }) x20) == (IntKind.i64.wrap ((D.plan_Plan_State a0 x20) + (IntKind.i64.wrap (1 + (D.plan_Plan_Cells a0)))))) from d0) (congrArg Value.bool h35)) (fun fr1 u w' hb' hd r' => ?_) ?_
                                · obtain ⟨d0, _⟩ := hd; exact y_load_agg r' (cs := (planC ({ a0 with domains := (IntKind.i64.wrap (a0.domains + 1)) }))) (n := 6) rfl (keep hb' h_b15) ta24 rfl ⟨Below.refl _ _, rfl⟩
                                refine each_consW true r rfl rfl rfl (fun u w' hd => by obtain ⟨d0, d1, d2, _⟩ := hd; exact Eq.trans (show u 18 = .bool ((D.plan_Plan_State ({ a0 with domains := (IntKind.i64.wrap (a0.domains + 1)) }) x20) == (IntKind.i64.wrap ((D.plan_Plan_State a0 x20) + (IntKind.i64.wrap (1 + (D.plan_Plan_Cells a0)))))) from d1) (congrArg Value.bool h35)) (fun fr1 u w' hb' hd r' => ?_) ?_
                                · obtain ⟨d0, d1, d2, _⟩ := hd; exact y_call r' (args := [(.agg (planC ({ a0 with domains := (IntKind.i64.wrap (a0.domains + 1)) })).toArray), (.int .i64 0)]) (lc d0 (lc rfl l0)) cl29 ((c_plan_Plan_Count _ ({ a0 with domains := (IntKind.i64.wrap (a0.domains + 1)) }) 0).mono (by rintro _ w2 ⟨rfl, hb2⟩; exact ⟨_, rfl, hb2, rfl⟩))
                                refine each_consW true r rfl rfl rfl (fun u w' hd => by obtain ⟨d0, _⟩ := hd; exact Eq.trans (show u 18 = .bool ((D.plan_Plan_State ({ a0 with domains := (IntKind.i64.wrap (a0.domains + 1)) }) x20) == (IntKind.i64.wrap ((D.plan_Plan_State a0 x20) + (IntKind.i64.wrap (1 + (D.plan_Plan_Cells a0)))))) from d0) (congrArg Value.bool h35)) (fun fr1 u w' hb' hd r' => ?_) ?_
                                · obtain ⟨d0, _⟩ := hd; exact y_load_agg r' (cs := (planC a0)) (n := 6) rfl (keep hb' h_b1) ta24 rfl ⟨Below.refl _ _, rfl⟩
                                refine each_consW true r rfl rfl rfl (fun u w' hd => by obtain ⟨d0, d1, d2, _⟩ := hd; exact Eq.trans (show u 18 = .bool ((D.plan_Plan_State ({ a0 with domains := (IntKind.i64.wrap (a0.domains + 1)) }) x20) == (IntKind.i64.wrap ((D.plan_Plan_State a0 x20) + (IntKind.i64.wrap (1 + (D.plan_Plan_Cells a0)))))) from d2) (congrArg Value.bool h35)) (fun fr1 u w' hb' hd r' => ?_) ?_
                                · obtain ⟨d0, d1, d2, _⟩ := hd; exact y_call r' (args := [(.agg (planC a0).toArray), (.int .i64 0)]) (lc d0 (lc rfl l0)) cl29 ((c_plan_Plan_Count _ a0 0).mono (by rintro _ w2 ⟨rfl, hb2⟩; exact ⟨_, rfl, hb2, rfl⟩))
                                refine each_consW true r rfl rfl rfl (fun u w' hd => by obtain ⟨d0, _⟩ := hd; exact Eq.trans (show u 18 = .bool ((D.plan_Plan_State ({ a0 with domains := (IntKind.i64.wrap (a0.domains + 1)) }) x20) == (IntKind.i64.wrap ((D.plan_Plan_State a0 x20) + (IntKind.i64.wrap (1 + (D.plan_Plan_Cells a0)))))) from d0) (congrArg Value.bool h35)) (fun fr1 u w' hb' hd r' => ?_) ?_
                                · obtain ⟨d0, _⟩ := hd; exact y_move r' (v := (.int .i64 (IntKind.i64.wrap (1 + (D.plan_Plan_Cells a0))))) rfl ⟨Below.refl _ _, rfl⟩
                                refine each_consW true r rfl rfl rfl (fun u w' hd => by obtain ⟨d0, d1, d2, _⟩ := hd; exact Eq.trans (show u 18 = .bool ((D.plan_Plan_State ({ a0 with domains := (IntKind.i64.wrap (a0.domains + 1)) }) x20) == (IntKind.i64.wrap ((D.plan_Plan_State a0 x20) + (IntKind.i64.wrap (1 + (D.plan_Plan_Cells a0)))))) from d2) (congrArg Value.bool h35)) (fun fr1 u w' hb' hd r' => ?_) ?_
                                · obtain ⟨d0, d1, d2, _⟩ := hd; exact y_bin r' (u := (.int .i64 (D.plan_Plan_Count a0 0))) (u' := (.int .i64 (IntKind.i64.wrap (1 + (D.plan_Plan_Cells a0))))) (v := (.int .i64 (IntKind.i64.wrap ((D.plan_Plan_Count a0 0) + (IntKind.i64.wrap (1 + (D.plan_Plan_Cells a0))))))) d0 d1 rfl rfl ⟨Below.refl _ _, rfl⟩
                                refine each_consW true r rfl rfl rfl (fun u w' hd => by obtain ⟨d0, d1, d2, _⟩ := hd; exact Eq.trans (show u 18 = .bool ((D.plan_Plan_State ({ a0 with domains := (IntKind.i64.wrap (a0.domains + 1)) }) x20) == (IntKind.i64.wrap ((D.plan_Plan_State a0 x20) + (IntKind.i64.wrap (1 + (D.plan_Plan_Cells a0)))))) from d2) (congrArg Value.bool h35)) (fun fr1 u w' hb' hd r' => ?_) ?_
                                · obtain ⟨d0, d1, d2, _⟩ := hd; exact y_bin r' (u := (.int .i64 (D.plan_Plan_Count ({ a0 with domains := (IntKind.i64.wrap (a0.domains + 1)) }) 0))) (u' := (.int .i64 (IntKind.i64.wrap ((D.plan_Plan_Count a0 0) + (IntKind.i64.wrap (1 + (D.plan_Plan_Cells a0))))))) (v := (.bool ((D.plan_Plan_Count ({ a0 with domains := (IntKind.i64.wrap (a0.domains + 1)) }) 0) == (IntKind.i64.wrap ((D.plan_Plan_Count a0 0) + (IntKind.i64.wrap (1 + (D.plan_Plan_Cells a0)))))))) d0 d1 rfl rfl ⟨Below.refl _ _, rfl⟩
                                refine each_consF r rfl (fun fr1 u w' hb' hd r' => ?_) ?_
                                · obtain ⟨d0, d1, _⟩ := hd; exact y_pick r' (b := true) (v := (.bool ((D.plan_Plan_Count ({ a0 with domains := (IntKind.i64.wrap (a0.domains + 1)) }) 0) == (IntKind.i64.wrap ((D.plan_Plan_Count a0 0) + (IntKind.i64.wrap (1 + (D.plan_Plan_Cells a0)))))))) (Eq.trans (show u 18 = .bool ((D.plan_Plan_State ({ a0 with domains := (IntKind.i64.wrap (a0.domains + 1)) }) x20) == (IntKind.i64.wrap ((D.plan_Plan_State a0 x20) + (IntKind.i64.wrap (1 + (D.plan_Plan_Cells a0)))))) from d0) (congrArg Value.bool h35)) d1 ⟨Below.refl _ _, rfl⟩
                                refine each_consF r rfl (fun fr1 u w' hb' hd r' => ?_) ?_
                                · obtain ⟨d0, d1, _⟩ := hd; exact y_move r' (v := (.bool ((D.plan_Plan_Count ({ a0 with domains := (IntKind.i64.wrap (a0.domains + 1)) }) 0) == (IntKind.i64.wrap ((D.plan_Plan_Count a0 0) + (IntKind.i64.wrap (1 + (D.plan_Plan_Cells a0)))))))) d0 ⟨Below.refl _ _, rfl⟩
                                refine each_consS true (.bool false) r rfl rfl rfl (fun u w' hd => by obtain ⟨d0, _⟩ := hd; exact Eq.trans (show u 27 = .bool ((D.plan_Plan_Count ({ a0 with domains := (IntKind.i64.wrap (a0.domains + 1)) }) 0) == (IntKind.i64.wrap ((D.plan_Plan_Count a0 0) + (IntKind.i64.wrap (1 + (D.plan_Plan_Cells a0)))))) from d0) (congrArg Value.bool h36)) (by simp [boolOf]) (fun _ => rfl) ?_
                                refine each_consS true (.bool false) r rfl rfl rfl (fun u w' hd => by obtain ⟨d0, _⟩ := hd; exact Eq.trans (show u 27 = .bool ((D.plan_Plan_Count ({ a0 with domains := (IntKind.i64.wrap (a0.domains + 1)) }) 0) == (IntKind.i64.wrap ((D.plan_Plan_Count a0 0) + (IntKind.i64.wrap (1 + (D.plan_Plan_Cells a0)))))) from d0) (congrArg Value.bool h36)) (by simp [boolOf]) (fun _ => rfl) ?_
                                refine each_consS true (.bool false) r rfl rfl rfl (fun u w' hd => by obtain ⟨d0, d1, _⟩ := hd; exact Eq.trans (show u 27 = .bool ((D.plan_Plan_Count ({ a0 with domains := (IntKind.i64.wrap (a0.domains + 1)) }) 0) == (IntKind.i64.wrap ((D.plan_Plan_Count a0 0) + (IntKind.i64.wrap (1 + (D.plan_Plan_Cells a0)))))) from d1) (congrArg Value.bool h36)) (by simp [boolOf]) (fun _ => rfl) ?_
                                refine each_consS true (.bool false) r rfl rfl rfl (fun u w' hd => by obtain ⟨d0, d1, d2, d3, _⟩ := hd; exact Eq.trans (show u 27 = .bool ((D.plan_Plan_Count ({ a0 with domains := (IntKind.i64.wrap (a0.domains + 1)) }) 0) == (IntKind.i64.wrap ((D.plan_Plan_Count a0 0) + (IntKind.i64.wrap (1 + (D.plan_Plan_Cells a0)))))) from d2) (congrArg Value.bool h36)) (by simp [boolOf]) (fun _ => rfl) ?_
                                refine each_consS true (.bool false) r rfl rfl rfl (fun u w' hd => by obtain ⟨d0, _⟩ := hd; exact Eq.trans (show u 27 = .bool ((D.plan_Plan_Count ({ a0 with domains := (IntKind.i64.wrap (a0.domains + 1)) }) 0) == (IntKind.i64.wrap ((D.plan_Plan_Count a0 0) + (IntKind.i64.wrap (1 + (D.plan_Plan_Cells a0)))))) from d0) (congrArg Value.bool h36)) (by simp [boolOf]) (fun _ => rfl) ?_
                                refine each_consS true (.bool false) r rfl rfl rfl (fun u w' hd => by obtain ⟨d0, d1, _⟩ := hd; exact Eq.trans (show u 27 = .bool ((D.plan_Plan_Count ({ a0 with domains := (IntKind.i64.wrap (a0.domains + 1)) }) 0) == (IntKind.i64.wrap ((D.plan_Plan_Count a0 0) + (IntKind.i64.wrap (1 + (D.plan_Plan_Cells a0)))))) from d1) (congrArg Value.bool h36)) (by simp [boolOf]) (fun _ => rfl) ?_
                                refine each_consS true (.bool false) r rfl rfl rfl (fun u w' hd => by obtain ⟨d0, _⟩ := hd; exact Eq.trans (show u 27 = .bool ((D.plan_Plan_Count ({ a0 with domains := (IntKind.i64.wrap (a0.domains + 1)) }) 0) == (IntKind.i64.wrap ((D.plan_Plan_Count a0 0) + (IntKind.i64.wrap (1 + (D.plan_Plan_Cells a0)))))) from d0) (congrArg Value.bool h36)) (by simp [boolOf]) (fun _ => rfl) ?_
                                refine each_consS true (.bool false) r rfl rfl rfl (fun u w' hd => by obtain ⟨d0, d1, d2, _⟩ := hd; exact Eq.trans (show u 27 = .bool ((D.plan_Plan_Count ({ a0 with domains := (IntKind.i64.wrap (a0.domains + 1)) }) 0) == (IntKind.i64.wrap ((D.plan_Plan_Count a0 0) + (IntKind.i64.wrap (1 + (D.plan_Plan_Cells a0)))))) from d2) (congrArg Value.bool h36)) (by simp [boolOf]) (fun _ => rfl) ?_
                                refine each_consS true (.bool false) r rfl rfl rfl (fun u w' hd => by obtain ⟨d0, d1, _⟩ := hd; exact Eq.trans (show u 27 = .bool ((D.plan_Plan_Count ({ a0 with domains := (IntKind.i64.wrap (a0.domains + 1)) }) 0) == (IntKind.i64.wrap ((D.plan_Plan_Count a0 0) + (IntKind.i64.wrap (1 + (D.plan_Plan_Cells a0)))))) from d1) (congrArg Value.bool h36)) (by simp [boolOf]) (fun _ => rfl) ?_
                                refine each_consS true (.bool false) r rfl rfl rfl (fun u w' hd => by obtain ⟨d0, d1, d2, _⟩ := hd; exact Eq.trans (show u 27 = .bool ((D.plan_Plan_Count ({ a0 with domains := (IntKind.i64.wrap (a0.domains + 1)) }) 0) == (IntKind.i64.wrap ((D.plan_Plan_Count a0 0) + (IntKind.i64.wrap (1 + (D.plan_Plan_Cells a0)))))) from d2) (congrArg Value.bool h36)) (by simp [boolOf]) (fun _ => rfl) ?_
                                refine each_consF r rfl (fun fr1 u w' hb' hd r' => ?_) ?_
                                · obtain ⟨d0, d1, _⟩ := hd; exact y_pick r' (b := false) (v := (.bool false)) (Eq.trans (show u 27 = .bool ((D.plan_Plan_Count ({ a0 with domains := (IntKind.i64.wrap (a0.domains + 1)) }) 0) == (IntKind.i64.wrap ((D.plan_Plan_Count a0 0) + (IntKind.i64.wrap (1 + (D.plan_Plan_Cells a0)))))) from d0) (congrArg Value.bool h36)) rfl ⟨Below.refl _ _, rfl⟩
                                exact each_nil
                              · skip
                                intro fr u w38 hb hΦ hne r
                                have g0 : u 0 = (.agg (planC ({ a0 with domains := (IntKind.i64.wrap (a0.domains + 1)) })).toArray) := hΦ 0 (by decide)
                                have g1 : u 1 = (.int .i64 (D.plan_Plan_Size ({ a0 with domains := (IntKind.i64.wrap (a0.domains + 1)) }))) := hΦ 1 (by decide)
                                have g2 : u 2 = (.agg (planC a0).toArray) := hΦ 2 (by decide)
                                have g3 : u 3 = (.int .i64 (D.plan_Plan_Size a0)) := hΦ 3 (by decide)
                                have g4 : u 4 = (.int .i64 (IntKind.i64.wrap (1 + (D.plan_Plan_Cells a0)))) := hΦ 4 (by decide)
                                have g5 : u 5 = (.int .i64 (IntKind.i64.wrap ((D.plan_Plan_Size a0) + (IntKind.i64.wrap (1 + (D.plan_Plan_Cells a0)))))) := hΦ 5 (by decide)
                                have g6 : u 6 = (.bool ((D.plan_Plan_Size ({ a0 with domains := (IntKind.i64.wrap (a0.domains + 1)) })) == (IntKind.i64.wrap ((D.plan_Plan_Size a0) + (IntKind.i64.wrap (1 + (D.plan_Plan_Cells a0))))))) := hΦ 6 (by decide)
                                have g7 : u 7 = (.bool ((D.plan_Plan_Size ({ a0 with domains := (IntKind.i64.wrap (a0.domains + 1)) })) == (IntKind.i64.wrap ((D.plan_Plan_Size a0) + (IntKind.i64.wrap (1 + (D.plan_Plan_Cells a0))))))) := hΦ 7 (by decide)
                                have g8 : u 8 = (.agg (planC ({ a0 with domains := (IntKind.i64.wrap (a0.domains + 1)) })).toArray) := hΦ 8 (by decide)
                                have g9 : u 9 = (.int .i64 x20) := hΦ 9 (by decide)
                                have g10 : u 10 = (.int .i64 (D.plan_Plan_State ({ a0 with domains := (IntKind.i64.wrap (a0.domains + 1)) }) x20)) := hΦ 10 (by decide)
                                have g11 : u 11 = (.agg (planC a0).toArray) := hΦ 11 (by decide)
                                have g12 : u 12 = (.int .i64 x20) := hΦ 12 (by decide)
                                have g13 : u 13 = (.int .i64 (D.plan_Plan_State a0 x20)) := hΦ 13 (by decide)
                                have g14 : u 14 = (.int .i64 (IntKind.i64.wrap (1 + (D.plan_Plan_Cells a0)))) := hΦ 14 (by decide)
                                have g15 : u 15 = (.int .i64 (IntKind.i64.wrap ((D.plan_Plan_State a0 x20) + (IntKind.i64.wrap (1 + (D.plan_Plan_Cells a0)))))) := hΦ 15 (by decide)
                                have g16 : u 16 = (.bool ((D.plan_Plan_State ({ a0 with domains := (IntKind.i64.wrap (a0.domains + 1)) }) x20) == (IntKind.i64.wrap ((D.plan_Plan_State a0 x20) + (IntKind.i64.wrap (1 + (D.plan_Plan_Cells a0))))))) := hΦ 16 (by decide)
                                have g17 : u 17 = (.bool ((D.plan_Plan_State ({ a0 with domains := (IntKind.i64.wrap (a0.domains + 1)) }) x20) == (IntKind.i64.wrap ((D.plan_Plan_State a0 x20) + (IntKind.i64.wrap (1 + (D.plan_Plan_Cells a0))))))) := hΦ 17 (by decide)
                                have g18 : u 18 = (.bool ((D.plan_Plan_State ({ a0 with domains := (IntKind.i64.wrap (a0.domains + 1)) }) x20) == (IntKind.i64.wrap ((D.plan_Plan_State a0 x20) + (IntKind.i64.wrap (1 + (D.plan_Plan_Cells a0))))))) := hΦ 18 (by decide)
                                have g19 : u 19 = (.agg (planC ({ a0 with domains := (IntKind.i64.wrap (a0.domains + 1)) })).toArray) := hΦ 19 (by decide)
                                have g20 : u 20 = (.int .i64 (D.plan_Plan_Count ({ a0 with domains := (IntKind.i64.wrap (a0.domains + 1)) }) 0)) := hΦ 20 (by decide)
                                have g21 : u 21 = (.agg (planC a0).toArray) := hΦ 21 (by decide)
                                have g22 : u 22 = (.int .i64 (D.plan_Plan_Count a0 0)) := hΦ 22 (by decide)
                                have g23 : u 23 = (.int .i64 (IntKind.i64.wrap (1 + (D.plan_Plan_Cells a0)))) := hΦ 23 (by decide)
                                have g24 : u 24 = (.int .i64 (IntKind.i64.wrap ((D.plan_Plan_Count a0 0) + (IntKind.i64.wrap (1 + (D.plan_Plan_Cells a0)))))) := hΦ 24 (by decide)
                                have g25 : u 25 = (.bool ((D.plan_Plan_Count ({ a0 with domains := (IntKind.i64.wrap (a0.domains + 1)) }) 0) == (IntKind.i64.wrap ((D.plan_Plan_Count a0 0) + (IntKind.i64.wrap (1 + (D.plan_Plan_Cells a0))))))) := hΦ 25 (by decide)
                                have g26 : u 26 = (.bool ((D.plan_Plan_Count ({ a0 with domains := (IntKind.i64.wrap (a0.domains + 1)) }) 0) == (IntKind.i64.wrap ((D.plan_Plan_Count a0 0) + (IntKind.i64.wrap (1 + (D.plan_Plan_Cells a0))))))) := hΦ 26 (by decide)
                                have g27 : u 27 = (.bool ((D.plan_Plan_Count ({ a0 with domains := (IntKind.i64.wrap (a0.domains + 1)) }) 0) == (IntKind.i64.wrap ((D.plan_Plan_Count a0 0) + (IntKind.i64.wrap (1 + (D.plan_Plan_Cells a0))))))) := hΦ 27 (by decide)
                                have g28 : u 28 = undef := hΦ 28 (by decide)
                                have g29 : u 29 = undef := hΦ 29 (by decide)
                                have g30 : u 30 = undef := hΦ 30 (by decide)
                                have g31 : u 31 = undef := hΦ 31 (by decide)
                                have g32 : u 32 = undef := hΦ 32 (by decide)
                                have g33 : u 33 = undef := hΦ 33 (by decide)
                                have g34 : u 34 = undef := hΦ 34 (by decide)
                                have g35 : u 35 = undef := hΦ 35 (by decide)
                                have g36 : u 36 = undef := hΦ 36 (by decide)
                                have g37 : u 37 = undef := hΦ 37 (by decide)
                                have g38 : u 38 = (.bool false) := hΦ 38 (by decide)
                                have r := r.congr (sc g38 (sc g37 (sc g36 (sc g35 (sc g34 (sc g33 (sc g32 (sc g31 (sc g30 (sc g29 (sc g28 (sc g27 (sc g26 (sc g25 (sc g24 (sc g23 (sc g22 (sc g21 (sc g20 (sc g19 (sc g18 (sc g17 (sc g16 (sc g15 (sc g14 (sc g13 (sc g12 (sc g11 (sc g10 (sc g9 (sc g8 (sc g7 (sc g6 (sc g5 (sc g4 (sc g3 (sc g2 (sc g1 (sc g0 rfl)))))))))))))))))))))))))))))))))))))))
                                have z_w38 := hb.size
                                have h_b1 := keep hb h_b1
                                have h_b14 := keep hb h_b14
                                have h_b15 := keep hb h_b15
                                have hB := hB.trans (hb.mono hB.size)
                                have zB := hB.size
                                refine seq_val (.bool false) r (fun R => y_assign r rfl) rfl fun fr r => ?_
                                refine wpList_nil ?_
                                refine wp_ret ?_
                                have hd : D.cubiclelaw06_PlanMore a0 a1 = false := by subst hx20; exact (cond_f h5).trans ((cond_f h8).trans ((cond_f h11).trans ((cond_f h23).trans ((cond_f h25).trans ((cond_f h27).trans ((cond_f h29).trans ((cond_f h32).trans ((cond_t h34).trans ((cond_t h35).trans ((cond_f h36).trans (rfl)))))))))))
                                refine ret_tmp r rfl (v := (.bool false)) rfl ?_
                                rw [hd]
                                exact ⟨rfl, hB⟩
                          · skip
                            refine wp_drawnF 39 [.val (.agg (planC ({ a0 with domains := (IntKind.i64.wrap (a0.domains + 1)) })).toArray), .val (.int .i64 (D.plan_Plan_Size ({ a0 with domains := (IntKind.i64.wrap (a0.domains + 1)) }))), .val (.agg (planC a0).toArray), .val (.int .i64 (D.plan_Plan_Size a0)), .val (.int .i64 (IntKind.i64.wrap (1 + (D.plan_Plan_Cells a0)))), .val (.int .i64 (IntKind.i64.wrap ((D.plan_Plan_Size a0) + (IntKind.i64.wrap (1 + (D.plan_Plan_Cells a0)))))), .val (.bool ((D.plan_Plan_Size ({ a0 with domains := (IntKind.i64.wrap (a0.domains + 1)) })) == (IntKind.i64.wrap ((D.plan_Plan_Size a0) + (IntKind.i64.wrap (1 + (D.plan_Plan_Cells a0))))))), .val (.bool ((D.plan_Plan_Size ({ a0 with domains := (IntKind.i64.wrap (a0.domains + 1)) })) == (IntKind.i64.wrap ((D.plan_Plan_Size a0) + (IntKind.i64.wrap (1 + (D.plan_Plan_Cells a0))))))), .val (.agg (planC ({ a0 with domains := (IntKind.i64.wrap (a0.domains + 1)) })).toArray), .val (.int .i64 x20), .val (.int .i64 (D.plan_Plan_State ({ a0 with domains := (IntKind.i64.wrap (a0.domains + 1)) }) x20)), .val (.agg (planC a0).toArray), .val (.int .i64 x20), .val (.int .i64 (D.plan_Plan_State a0 x20)), .val (.int .i64 (IntKind.i64.wrap (1 + (D.plan_Plan_Cells a0)))), .val (.int .i64 (IntKind.i64.wrap ((D.plan_Plan_State a0 x20) + (IntKind.i64.wrap (1 + (D.plan_Plan_Cells a0)))))), .val (.bool ((D.plan_Plan_State ({ a0 with domains := (IntKind.i64.wrap (a0.domains + 1)) }) x20) == (IntKind.i64.wrap ((D.plan_Plan_State a0 x20) + (IntKind.i64.wrap (1 + (D.plan_Plan_Cells a0))))))), .val (.bool ((D.plan_Plan_State ({ a0 with domains := (IntKind.i64.wrap (a0.domains + 1)) }) x20) == (IntKind.i64.wrap ((D.plan_Plan_State a0 x20) + (IntKind.i64.wrap (1 + (D.plan_Plan_Cells a0))))))), .val (.bool ((D.plan_Plan_State ({ a0 with domains := (IntKind.i64.wrap (a0.domains + 1)) }) x20) == (IntKind.i64.wrap ((D.plan_Plan_State a0 x20) + (IntKind.i64.wrap (1 + (D.plan_Plan_Cells a0))))))), .val undef, .val undef, .val undef, .val undef, .val undef, .val undef, .val undef, .val (.bool false), .val (.bool false), .val undef, .val undef, .val undef, .val undef, .val undef, .val undef, .val undef, .val undef, .val undef, .val undef, .val (.bool false)] mixed r (by kernel_rfl) (within_cons (by exact trivial) (within_cons (by exact trivial) (within_cons (by exact trivial) (within_cons (by exact trivial) (within_cons (by exact trivial) (within_cons (by exact trivial) (within_cons (by exact trivial) (within_cons (by exact trivial) (within_cons (by exact trivial) (within_cons (by exact trivial) (within_cons (by exact trivial) (within_cons (by exact trivial) (within_cons (by exact trivial) (within_cons (by exact trivial) (within_cons (by exact trivial) (within_cons (by exact trivial) (within_cons (by exact trivial) (within_cons (by exact trivial) (within_cons (by exact trivial) (within_cons (by exact trivial) (within_cons (by exact trivial) (within_cons (by exact trivial) (within_cons (by exact trivial) (within_cons (by exact trivial) (within_cons (by exact trivial) (within_cons (by exact trivial) (within_cons (by exact trivial) (within_cons (by exact trivial) (within_cons (by exact trivial) (within_cons (by exact trivial) (within_cons (by exact trivial) (within_cons (by exact trivial) (within_cons (by exact trivial) (within_cons (by exact trivial) (within_cons (by exact trivial) (within_cons (by exact trivial) (within_cons (by exact trivial) (within_cons (by exact trivial) (within_cons (by exact trivial) within_nil))))))))))))))))))))))))))))))))))))))) ?_ ?_
                            · skip
                              refine each_consF r rfl (fun fr1 u w' hb' hd r' => ?_) ?_
                              · exact y_load_agg r' (cs := (planC ({ a0 with domains := (IntKind.i64.wrap (a0.domains + 1)) }))) (n := 6) rfl (keep hb' h_b15) ta24 rfl ⟨Below.refl _ _, rfl⟩
                              refine each_consF r rfl (fun fr1 u w' hb' hd r' => ?_) ?_
                              · obtain ⟨d0, _⟩ := hd; exact y_call r' (args := [(.agg (planC ({ a0 with domains := (IntKind.i64.wrap (a0.domains + 1)) })).toArray)]) (lc d0 l0) cl21 ((c_plan_Plan_Size _ ({ a0 with domains := (IntKind.i64.wrap (a0.domains + 1)) })).mono (by rintro _ w2 ⟨rfl, hb2⟩; exact ⟨_, rfl, hb2, rfl⟩))
                              refine each_consF r rfl (fun fr1 u w' hb' hd r' => ?_) ?_
                              · exact y_load_agg r' (cs := (planC a0)) (n := 6) rfl (keep hb' h_b1) ta24 rfl ⟨Below.refl _ _, rfl⟩
                              refine each_consF r rfl (fun fr1 u w' hb' hd r' => ?_) ?_
                              · obtain ⟨d0, d1, _⟩ := hd; exact y_call r' (args := [(.agg (planC a0).toArray)]) (lc d0 l0) cl21 ((c_plan_Plan_Size _ a0).mono (by rintro _ w2 ⟨rfl, hb2⟩; exact ⟨_, rfl, hb2, rfl⟩))
                              refine each_consF r rfl (fun fr1 u w' hb' hd r' => ?_) ?_
                              · exact y_move r' (v := (.int .i64 (IntKind.i64.wrap (1 + (D.plan_Plan_Cells a0))))) rfl ⟨Below.refl _ _, rfl⟩
                              refine each_consF r rfl (fun fr1 u w' hb' hd r' => ?_) ?_
                              · obtain ⟨d0, d1, _⟩ := hd; exact y_bin r' (u := (.int .i64 (D.plan_Plan_Size a0))) (u' := (.int .i64 (IntKind.i64.wrap (1 + (D.plan_Plan_Cells a0))))) (v := (.int .i64 (IntKind.i64.wrap ((D.plan_Plan_Size a0) + (IntKind.i64.wrap (1 + (D.plan_Plan_Cells a0))))))) d0 d1 rfl rfl ⟨Below.refl _ _, rfl⟩
                              refine each_consF r rfl (fun fr1 u w' hb' hd r' => ?_) ?_
                              · obtain ⟨d0, d1, _⟩ := hd; exact y_bin r' (u := (.int .i64 (D.plan_Plan_Size ({ a0 with domains := (IntKind.i64.wrap (a0.domains + 1)) })))) (u' := (.int .i64 (IntKind.i64.wrap ((D.plan_Plan_Size a0) + (IntKind.i64.wrap (1 + (D.plan_Plan_Cells a0))))))) (v := (.bool ((D.plan_Plan_Size ({ a0 with domains := (IntKind.i64.wrap (a0.domains + 1)) })) == (IntKind.i64.wrap ((D.plan_Plan_Size a0) + (IntKind.i64.wrap (1 + (D.plan_Plan_Cells a0)))))))) d0 d1 rfl rfl ⟨Below.refl _ _, rfl⟩
                              refine each_consF r rfl (fun fr1 u w' hb' hd r' => ?_) ?_
                              · obtain ⟨d0, d1, _⟩ := hd; exact y_move r' (v := (.bool ((D.plan_Plan_Size ({ a0 with domains := (IntKind.i64.wrap (a0.domains + 1)) })) == (IntKind.i64.wrap ((D.plan_Plan_Size a0) + (IntKind.i64.wrap (1 + (D.plan_Plan_Cells a0)))))))) d0 ⟨Below.refl _ _, rfl⟩
                              refine each_consW true r rfl rfl rfl (fun u w' hd => by obtain ⟨d0, _⟩ := hd; exact Eq.trans (show u 7 = .bool ((D.plan_Plan_Size ({ a0 with domains := (IntKind.i64.wrap (a0.domains + 1)) })) == (IntKind.i64.wrap ((D.plan_Plan_Size a0) + (IntKind.i64.wrap (1 + (D.plan_Plan_Cells a0)))))) from d0) (congrArg Value.bool h34)) (fun fr1 u w' hb' hd r' => ?_) ?_
                              · obtain ⟨d0, _⟩ := hd; exact y_load_agg r' (cs := (planC ({ a0 with domains := (IntKind.i64.wrap (a0.domains + 1)) }))) (n := 6) rfl (keep hb' h_b15) ta24 rfl ⟨Below.refl _ _, rfl⟩
                              refine each_consW true r rfl rfl rfl (fun u w' hd => by obtain ⟨d0, _⟩ := hd; exact Eq.trans (show u 7 = .bool ((D.plan_Plan_Size ({ a0 with domains := (IntKind.i64.wrap (a0.domains + 1)) })) == (IntKind.i64.wrap ((D.plan_Plan_Size a0) + (IntKind.i64.wrap (1 + (D.plan_Plan_Cells a0)))))) from d0) (congrArg Value.bool h34)) (fun fr1 u w' hb' hd r' => ?_) ?_
                              · obtain ⟨d0, _⟩ := hd; exact y_move r' (v := (.int .i64 x20)) rfl ⟨Below.refl _ _, rfl⟩
                              refine each_consW true r rfl rfl rfl (fun u w' hd => by obtain ⟨d0, d1, d2, d3, _⟩ := hd; exact Eq.trans (show u 7 = .bool ((D.plan_Plan_Size ({ a0 with domains := (IntKind.i64.wrap (a0.domains + 1)) })) == (IntKind.i64.wrap ((D.plan_Plan_Size a0) + (IntKind.i64.wrap (1 + (D.plan_Plan_Cells a0)))))) from d2) (congrArg Value.bool h34)) (fun fr1 u w' hb' hd r' => ?_) ?_
                              · obtain ⟨d0, d1, d2, d3, _⟩ := hd; exact y_call r' (args := [(.agg (planC ({ a0 with domains := (IntKind.i64.wrap (a0.domains + 1)) })).toArray), (.int .i64 x20)]) (lc d0 (lc d1 l0)) cl25 ((c_plan_Plan_State _ ({ a0 with domains := (IntKind.i64.wrap (a0.domains + 1)) }) x20).mono (by rintro _ w2 ⟨rfl, hb2⟩; exact ⟨_, rfl, hb2, rfl⟩))
                              refine each_consW true r rfl rfl rfl (fun u w' hd => by obtain ⟨d0, _⟩ := hd; exact Eq.trans (show u 7 = .bool ((D.plan_Plan_Size ({ a0 with domains := (IntKind.i64.wrap (a0.domains + 1)) })) == (IntKind.i64.wrap ((D.plan_Plan_Size a0) + (IntKind.i64.wrap (1 + (D.plan_Plan_Cells a0)))))) from d0) (congrArg Value.bool h34)) (fun fr1 u w' hb' hd r' => ?_) ?_
                              · obtain ⟨d0, _⟩ := hd; exact y_load_agg r' (cs := (planC a0)) (n := 6) rfl (keep hb' h_b1) ta24 rfl ⟨Below.refl _ _, rfl⟩
                              refine each_consW true r rfl rfl rfl (fun u w' hd => by obtain ⟨d0, _⟩ := hd; exact Eq.trans (show u 7 = .bool ((D.plan_Plan_Size ({ a0 with domains := (IntKind.i64.wrap (a0.domains + 1)) })) == (IntKind.i64.wrap ((D.plan_Plan_Size a0) + (IntKind.i64.wrap (1 + (D.plan_Plan_Cells a0)))))) from d0) (congrArg Value.bool h34)) (fun fr1 u w' hb' hd r' => ?_) ?_
                              · obtain ⟨d0, _⟩ := hd; exact y_move r' (v := (.int .i64 x20)) rfl ⟨Below.refl _ _, rfl⟩
                              refine each_consW true r rfl rfl rfl (fun u w' hd => by obtain ⟨d0, d1, d2, d3, _⟩ := hd; exact Eq.trans (show u 7 = .bool ((D.plan_Plan_Size ({ a0 with domains := (IntKind.i64.wrap (a0.domains + 1)) })) == (IntKind.i64.wrap ((D.plan_Plan_Size a0) + (IntKind.i64.wrap (1 + (D.plan_Plan_Cells a0)))))) from d3) (congrArg Value.bool h34)) (fun fr1 u w' hb' hd r' => ?_) ?_
                              · obtain ⟨d0, d1, d2, d3, _⟩ := hd; exact y_call r' (args := [(.agg (planC a0).toArray), (.int .i64 x20)]) (lc d0 (lc d1 l0)) cl25 ((c_plan_Plan_State _ a0 x20).mono (by rintro _ w2 ⟨rfl, hb2⟩; exact ⟨_, rfl, hb2, rfl⟩))
                              refine each_consW true r rfl rfl rfl (fun u w' hd => by obtain ⟨d0, _⟩ := hd; exact Eq.trans (show u 7 = .bool ((D.plan_Plan_Size ({ a0 with domains := (IntKind.i64.wrap (a0.domains + 1)) })) == (IntKind.i64.wrap ((D.plan_Plan_Size a0) + (IntKind.i64.wrap (1 + (D.plan_Plan_Cells a0)))))) from d0) (congrArg Value.bool h34)) (fun fr1 u w' hb' hd r' => ?_) ?_
                              · obtain ⟨d0, _⟩ := hd; exact y_move r' (v := (.int .i64 (IntKind.i64.wrap (1 + (D.plan_Plan_Cells a0))))) rfl ⟨Below.refl _ _, rfl⟩
                              refine each_consW true r rfl rfl rfl (fun u w' hd => by obtain ⟨d0, d1, d2, _⟩ := hd; exact Eq.trans (show u 7 = .bool ((D.plan_Plan_Size ({ a0 with domains := (IntKind.i64.wrap (a0.domains + 1)) })) == (IntKind.i64.wrap ((D.plan_Plan_Size a0) + (IntKind.i64.wrap (1 + (D.plan_Plan_Cells a0)))))) from d2) (congrArg Value.bool h34)) (fun fr1 u w' hb' hd r' => ?_) ?_
                              · obtain ⟨d0, d1, d2, _⟩ := hd; exact y_bin r' (u := (.int .i64 (D.plan_Plan_State a0 x20))) (u' := (.int .i64 (IntKind.i64.wrap (1 + (D.plan_Plan_Cells a0))))) (v := (.int .i64 (IntKind.i64.wrap ((D.plan_Plan_State a0 x20) + (IntKind.i64.wrap (1 + (D.plan_Plan_Cells a0))))))) d0 d1 rfl rfl ⟨Below.refl _ _, rfl⟩
                              refine each_consW true r rfl rfl rfl (fun u w' hd => by obtain ⟨d0, d1, d2, _⟩ := hd; exact Eq.trans (show u 7 = .bool ((D.plan_Plan_Size ({ a0 with domains := (IntKind.i64.wrap (a0.domains + 1)) })) == (IntKind.i64.wrap ((D.plan_Plan_Size a0) + (IntKind.i64.wrap (1 + (D.plan_Plan_Cells a0)))))) from d2) (congrArg Value.bool h34)) (fun fr1 u w' hb' hd r' => ?_) ?_
                              · obtain ⟨d0, d1, d2, _⟩ := hd; exact y_bin r' (u := (.int .i64 (D.plan_Plan_State ({ a0 with domains := (IntKind.i64.wrap (a0.domains + 1)) }) x20))) (u' := (.int .i64 (IntKind.i64.wrap ((D.plan_Plan_State a0 x20) + (IntKind.i64.wrap (1 + (D.plan_Plan_Cells a0))))))) (v := (.bool ((D.plan_Plan_State ({ a0 with domains := (IntKind.i64.wrap (a0.domains + 1)) }) x20) == (IntKind.i64.wrap ((D.plan_Plan_State a0 x20) + (IntKind.i64.wrap (1 + (D.plan_Plan_Cells a0)))))))) d0 d1 rfl rfl ⟨Below.refl _ _, rfl⟩
                              refine each_consF r rfl (fun fr1 u w' hb' hd r' => ?_) ?_
                              · obtain ⟨d0, d1, _⟩ := hd; exact y_pick r' (b := true) (v := (.bool ((D.plan_Plan_State ({ a0 with domains := (IntKind.i64.wrap (a0.domains + 1)) }) x20) == (IntKind.i64.wrap ((D.plan_Plan_State a0 x20) + (IntKind.i64.wrap (1 + (D.plan_Plan_Cells a0)))))))) (Eq.trans (show u 7 = .bool ((D.plan_Plan_Size ({ a0 with domains := (IntKind.i64.wrap (a0.domains + 1)) })) == (IntKind.i64.wrap ((D.plan_Plan_Size a0) + (IntKind.i64.wrap (1 + (D.plan_Plan_Cells a0)))))) from d0) (congrArg Value.bool h34)) d1 ⟨Below.refl _ _, rfl⟩
                              refine each_consF r rfl (fun fr1 u w' hb' hd r' => ?_) ?_
                              · obtain ⟨d0, d1, _⟩ := hd; exact y_move r' (v := (.bool ((D.plan_Plan_State ({ a0 with domains := (IntKind.i64.wrap (a0.domains + 1)) }) x20) == (IntKind.i64.wrap ((D.plan_Plan_State a0 x20) + (IntKind.i64.wrap (1 + (D.plan_Plan_Cells a0)))))))) d0 ⟨Below.refl _ _, rfl⟩
                              refine each_consS true (.bool false) r rfl rfl rfl (fun u w' hd => by obtain ⟨d0, _⟩ := hd; exact Eq.trans (show u 18 = .bool ((D.plan_Plan_State ({ a0 with domains := (IntKind.i64.wrap (a0.domains + 1)) }) x20) == (IntKind.i64.wrap ((D.plan_Plan_State a0 x20) + (IntKind.i64.wrap (1 + (D.plan_Plan_Cells a0)))))) from d0) (congrArg Value.bool h35)) (by simp [boolOf]) (fun _ => rfl) ?_
                              refine each_consS true (.bool false) r rfl rfl rfl (fun u w' hd => by obtain ⟨d0, d1, d2, _⟩ := hd; exact Eq.trans (show u 18 = .bool ((D.plan_Plan_State ({ a0 with domains := (IntKind.i64.wrap (a0.domains + 1)) }) x20) == (IntKind.i64.wrap ((D.plan_Plan_State a0 x20) + (IntKind.i64.wrap (1 + (D.plan_Plan_Cells a0)))))) from d1) (congrArg Value.bool h35)) (by simp [boolOf]) (fun _ => rfl) ?_
                              refine each_consS true (.bool false) r rfl rfl rfl (fun u w' hd => by obtain ⟨d0, _⟩ := hd; exact Eq.trans (show u 18 = .bool ((D.plan_Plan_State ({ a0 with domains := (IntKind.i64.wrap (a0.domains + 1)) }) x20) == (IntKind.i64.wrap ((D.plan_Plan_State a0 x20) + (IntKind.i64.wrap (1 + (D.plan_Plan_Cells a0)))))) from d0) (congrArg Value.bool h35)) (by simp [boolOf]) (fun _ => rfl) ?_
                              refine each_consS true (.bool false) r rfl rfl rfl (fun u w' hd => by obtain ⟨d0, d1, d2, _⟩ := hd; exact Eq.trans (show u 18 = .bool ((D.plan_Plan_State ({ a0 with domains := (IntKind.i64.wrap (a0.domains + 1)) }) x20) == (IntKind.i64.wrap ((D.plan_Plan_State a0 x20) + (IntKind.i64.wrap (1 + (D.plan_Plan_Cells a0)))))) from d2) (congrArg Value.bool h35)) (by simp [boolOf]) (fun _ => rfl) ?_
                              refine each_consS true (.bool false) r rfl rfl rfl (fun u w' hd => by obtain ⟨d0, _⟩ := hd; exact Eq.trans (show u 18 = .bool ((D.plan_Plan_State ({ a0 with domains := (IntKind.i64.wrap (a0.domains + 1)) }) x20) == (IntKind.i64.wrap ((D.plan_Plan_State a0 x20) + (IntKind.i64.wrap (1 + (D.plan_Plan_Cells a0)))))) from d0) (congrArg Value.bool h35)) (by simp [boolOf]) (fun _ => rfl) ?_
                              refine each_consS true (.bool false) r rfl rfl rfl (fun u w' hd => by obtain ⟨d0, d1, d2, _⟩ := hd; exact Eq.trans (show u 18 = .bool ((D.plan_Plan_State ({ a0 with domains := (IntKind.i64.wrap (a0.domains + 1)) }) x20) == (IntKind.i64.wrap ((D.plan_Plan_State a0 x20) + (IntKind.i64.wrap (1 + (D.plan_Plan_Cells a0)))))) from d2) (congrArg Value.bool h35)) (by simp [boolOf]) (fun _ => rfl) ?_
                              refine each_consS true (.bool false) r rfl rfl rfl (fun u w' hd => by obtain ⟨d0, d1, d2, _⟩ := hd; exact Eq.trans (show u 18 = .bool ((D.plan_Plan_State ({ a0 with domains := (IntKind.i64.wrap (a0.domains + 1)) }) x20) == (IntKind.i64.wrap ((D.plan_Plan_State a0 x20) + (IntKind.i64.wrap (1 + (D.plan_Plan_Cells a0)))))) from d2) (congrArg Value.bool h35)) (by simp [boolOf]) (fun _ => rfl) ?_
                              refine each_consF r rfl (fun fr1 u w' hb' hd r' => ?_) ?_
                              · obtain ⟨d0, d1, _⟩ := hd; exact y_pick r' (b := false) (v := (.bool false)) (Eq.trans (show u 18 = .bool ((D.plan_Plan_State ({ a0 with domains := (IntKind.i64.wrap (a0.domains + 1)) }) x20) == (IntKind.i64.wrap ((D.plan_Plan_State a0 x20) + (IntKind.i64.wrap (1 + (D.plan_Plan_Cells a0)))))) from d0) (congrArg Value.bool h35)) rfl ⟨Below.refl _ _, rfl⟩
                              refine each_consF r rfl (fun fr1 u w' hb' hd r' => ?_) ?_
                              · obtain ⟨d0, d1, _⟩ := hd; exact y_move r' (v := (.bool false)) d0 ⟨Below.refl _ _, rfl⟩
                              refine each_consS true (.bool false) r rfl rfl rfl (fun u w' hd => by obtain ⟨d0, _⟩ := hd; exact Eq.trans (show u 27 = .bool false from d0) (congrArg Value.bool (rfl : false = _))) (by simp [boolOf]) (fun _ => rfl) ?_
                              refine each_consS true (.bool false) r rfl rfl rfl (fun u w' hd => by obtain ⟨d0, _⟩ := hd; exact Eq.trans (show u 27 = .bool false from d0) (congrArg Value.bool (rfl : false = _))) (by simp [boolOf]) (fun _ => rfl) ?_
                              refine each_consS true (.bool false) r rfl rfl rfl (fun u w' hd => by obtain ⟨d0, d1, _⟩ := hd; exact Eq.trans (show u 27 = .bool false from d1) (congrArg Value.bool (rfl : false = _))) (by simp [boolOf]) (fun _ => rfl) ?_
                              refine each_consS true (.bool false) r rfl rfl rfl (fun u w' hd => by obtain ⟨d0, d1, d2, d3, _⟩ := hd; exact Eq.trans (show u 27 = .bool false from d2) (congrArg Value.bool (rfl : false = _))) (by simp [boolOf]) (fun _ => rfl) ?_
                              refine each_consS true (.bool false) r rfl rfl rfl (fun u w' hd => by obtain ⟨d0, _⟩ := hd; exact Eq.trans (show u 27 = .bool false from d0) (congrArg Value.bool (rfl : false = _))) (by simp [boolOf]) (fun _ => rfl) ?_
                              refine each_consS true (.bool false) r rfl rfl rfl (fun u w' hd => by obtain ⟨d0, d1, _⟩ := hd; exact Eq.trans (show u 27 = .bool false from d1) (congrArg Value.bool (rfl : false = _))) (by simp [boolOf]) (fun _ => rfl) ?_
                              refine each_consS true (.bool false) r rfl rfl rfl (fun u w' hd => by obtain ⟨d0, _⟩ := hd; exact Eq.trans (show u 27 = .bool false from d0) (congrArg Value.bool (rfl : false = _))) (by simp [boolOf]) (fun _ => rfl) ?_
                              refine each_consS true (.bool false) r rfl rfl rfl (fun u w' hd => by obtain ⟨d0, d1, d2, _⟩ := hd; exact Eq.trans (show u 27 = .bool false from d2) (congrArg Value.bool (rfl : false = _))) (by simp [boolOf]) (fun _ => rfl) ?_
                              refine each_consS true (.bool false) r rfl rfl rfl (fun u w' hd => by obtain ⟨d0, d1, _⟩ := hd; exact Eq.trans (show u 27 = .bool false from d1) (congrArg Value.bool (rfl : false = _))) (by simp [boolOf]) (fun _ => rfl) ?_
                              refine each_consS true (.bool false) r rfl rfl rfl (fun u w' hd => by obtain ⟨d0, d1, d2, _⟩ := hd; exact Eq.trans (show u 27 = .bool false from d2) (congrArg Value.bool (rfl : false = _))) (by simp [boolOf]) (fun _ => rfl) ?_
                              refine each_consF r rfl (fun fr1 u w' hb' hd r' => ?_) ?_
                              · obtain ⟨d0, d1, _⟩ := hd; exact y_pick r' (b := false) (v := (.bool false)) (Eq.trans (show u 27 = .bool false from d0) (congrArg Value.bool (rfl : false = _))) rfl ⟨Below.refl _ _, rfl⟩
                              exact each_nil
                            · skip
                              intro fr u w39 hb hΦ hne r
                              have g0 : u 0 = (.agg (planC ({ a0 with domains := (IntKind.i64.wrap (a0.domains + 1)) })).toArray) := hΦ 0 (by decide)
                              have g1 : u 1 = (.int .i64 (D.plan_Plan_Size ({ a0 with domains := (IntKind.i64.wrap (a0.domains + 1)) }))) := hΦ 1 (by decide)
                              have g2 : u 2 = (.agg (planC a0).toArray) := hΦ 2 (by decide)
                              have g3 : u 3 = (.int .i64 (D.plan_Plan_Size a0)) := hΦ 3 (by decide)
                              have g4 : u 4 = (.int .i64 (IntKind.i64.wrap (1 + (D.plan_Plan_Cells a0)))) := hΦ 4 (by decide)
                              have g5 : u 5 = (.int .i64 (IntKind.i64.wrap ((D.plan_Plan_Size a0) + (IntKind.i64.wrap (1 + (D.plan_Plan_Cells a0)))))) := hΦ 5 (by decide)
                              have g6 : u 6 = (.bool ((D.plan_Plan_Size ({ a0 with domains := (IntKind.i64.wrap (a0.domains + 1)) })) == (IntKind.i64.wrap ((D.plan_Plan_Size a0) + (IntKind.i64.wrap (1 + (D.plan_Plan_Cells a0))))))) := hΦ 6 (by decide)
                              have g7 : u 7 = (.bool ((D.plan_Plan_Size ({ a0 with domains := (IntKind.i64.wrap (a0.domains + 1)) })) == (IntKind.i64.wrap ((D.plan_Plan_Size a0) + (IntKind.i64.wrap (1 + (D.plan_Plan_Cells a0))))))) := hΦ 7 (by decide)
                              have g8 : u 8 = (.agg (planC ({ a0 with domains := (IntKind.i64.wrap (a0.domains + 1)) })).toArray) := hΦ 8 (by decide)
                              have g9 : u 9 = (.int .i64 x20) := hΦ 9 (by decide)
                              have g10 : u 10 = (.int .i64 (D.plan_Plan_State ({ a0 with domains := (IntKind.i64.wrap (a0.domains + 1)) }) x20)) := hΦ 10 (by decide)
                              have g11 : u 11 = (.agg (planC a0).toArray) := hΦ 11 (by decide)
                              have g12 : u 12 = (.int .i64 x20) := hΦ 12 (by decide)
                              have g13 : u 13 = (.int .i64 (D.plan_Plan_State a0 x20)) := hΦ 13 (by decide)
                              have g14 : u 14 = (.int .i64 (IntKind.i64.wrap (1 + (D.plan_Plan_Cells a0)))) := hΦ 14 (by decide)
                              have g15 : u 15 = (.int .i64 (IntKind.i64.wrap ((D.plan_Plan_State a0 x20) + (IntKind.i64.wrap (1 + (D.plan_Plan_Cells a0)))))) := hΦ 15 (by decide)
                              have g16 : u 16 = (.bool ((D.plan_Plan_State ({ a0 with domains := (IntKind.i64.wrap (a0.domains + 1)) }) x20) == (IntKind.i64.wrap ((D.plan_Plan_State a0 x20) + (IntKind.i64.wrap (1 + (D.plan_Plan_Cells a0))))))) := hΦ 16 (by decide)
                              have g17 : u 17 = (.bool ((D.plan_Plan_State ({ a0 with domains := (IntKind.i64.wrap (a0.domains + 1)) }) x20) == (IntKind.i64.wrap ((D.plan_Plan_State a0 x20) + (IntKind.i64.wrap (1 + (D.plan_Plan_Cells a0))))))) := hΦ 17 (by decide)
                              have g18 : u 18 = (.bool ((D.plan_Plan_State ({ a0 with domains := (IntKind.i64.wrap (a0.domains + 1)) }) x20) == (IntKind.i64.wrap ((D.plan_Plan_State a0 x20) + (IntKind.i64.wrap (1 + (D.plan_Plan_Cells a0))))))) := hΦ 18 (by decide)
                              have g19 : u 19 = undef := hΦ 19 (by decide)
                              have g20 : u 20 = undef := hΦ 20 (by decide)
                              have g21 : u 21 = undef := hΦ 21 (by decide)
                              have g22 : u 22 = undef := hΦ 22 (by decide)
                              have g23 : u 23 = undef := hΦ 23 (by decide)
                              have g24 : u 24 = undef := hΦ 24 (by decide)
                              have g25 : u 25 = undef := hΦ 25 (by decide)
                              have g26 : u 26 = (.bool false) := hΦ 26 (by decide)
                              have g27 : u 27 = (.bool false) := hΦ 27 (by decide)
                              have g28 : u 28 = undef := hΦ 28 (by decide)
                              have g29 : u 29 = undef := hΦ 29 (by decide)
                              have g30 : u 30 = undef := hΦ 30 (by decide)
                              have g31 : u 31 = undef := hΦ 31 (by decide)
                              have g32 : u 32 = undef := hΦ 32 (by decide)
                              have g33 : u 33 = undef := hΦ 33 (by decide)
                              have g34 : u 34 = undef := hΦ 34 (by decide)
                              have g35 : u 35 = undef := hΦ 35 (by decide)
                              have g36 : u 36 = undef := hΦ 36 (by decide)
                              have g37 : u 37 = undef := hΦ 37 (by decide)
                              have g38 : u 38 = (.bool false) := hΦ 38 (by decide)
                              have r := r.congr (sc g38 (sc g37 (sc g36 (sc g35 (sc g34 (sc g33 (sc g32 (sc g31 (sc g30 (sc g29 (sc g28 (sc g27 (sc g26 (sc g25 (sc g24 (sc g23 (sc g22 (sc g21 (sc g20 (sc g19 (sc g18 (sc g17 (sc g16 (sc g15 (sc g14 (sc g13 (sc g12 (sc g11 (sc g10 (sc g9 (sc g8 (sc g7 (sc g6 (sc g5 (sc g4 (sc g3 (sc g2 (sc g1 (sc g0 rfl)))))))))))))))))))))))))))))))))))))))
                              have z_w39 := hb.size
                              have h_b1 := keep hb h_b1
                              have h_b14 := keep hb h_b14
                              have h_b15 := keep hb h_b15
                              have hB := hB.trans (hb.mono hB.size)
                              have zB := hB.size
                              refine seq_val (.bool false) r (fun R => y_assign r rfl) rfl fun fr r => ?_
                              refine wpList_nil ?_
                              refine wp_ret ?_
                              have hd : D.cubiclelaw06_PlanMore a0 a1 = false := by subst hx20; exact (cond_f h5).trans ((cond_f h8).trans ((cond_f h11).trans ((cond_f h23).trans ((cond_f h25).trans ((cond_f h27).trans ((cond_f h29).trans ((cond_f h32).trans ((cond_t h34).trans ((cond_f h35).trans (rfl))))))))))
                              refine ret_tmp r rfl (v := (.bool false)) rfl ?_
                              rw [hd]
                              exact ⟨rfl, hB⟩
                        · skip
                          refine wp_drawnF 39 [.val (.agg (planC ({ a0 with domains := (IntKind.i64.wrap (a0.domains + 1)) })).toArray), .val (.int .i64 (D.plan_Plan_Size ({ a0 with domains := (IntKind.i64.wrap (a0.domains + 1)) }))), .val (.agg (planC a0).toArray), .val (.int .i64 (D.plan_Plan_Size a0)), .val (.int .i64 (IntKind.i64.wrap (1 + (D.plan_Plan_Cells a0)))), .val (.int .i64 (IntKind.i64.wrap ((D.plan_Plan_Size a0) + (IntKind.i64.wrap (1 + (D.plan_Plan_Cells a0)))))), .val (.bool ((D.plan_Plan_Size ({ a0 with domains := (IntKind.i64.wrap (a0.domains + 1)) })) == (IntKind.i64.wrap ((D.plan_Plan_Size a0) + (IntKind.i64.wrap (1 + (D.plan_Plan_Cells a0))))))), .val (.bool ((D.plan_Plan_Size ({ a0 with domains := (IntKind.i64.wrap (a0.domains + 1)) })) == (IntKind.i64.wrap ((D.plan_Plan_Size a0) + (IntKind.i64.wrap (1 + (D.plan_Plan_Cells a0))))))), .val undef, .val undef, .val undef, .val undef, .val undef, .val undef, .val undef, .val undef, .val undef, .val (.bool false), .val (.bool false), .val undef, .val undef, .val undef, .val undef, .val undef, .val undef, .val undef, .val (.bool false), .val (.bool false), .val undef, .val undef, .val undef, .val undef, .val undef, .val undef, .val undef, .val undef, .val undef, .val undef, .val (.bool false)] mixed r (by kernel_rfl) (within_cons (by exact trivial) (within_cons (by exact trivial) (within_cons (by exact trivial) (within_cons (by exact trivial) (within_cons (by exact trivial) (within_cons (by exact trivial) (within_cons (by exact trivial) (within_cons (by exact trivial) (within_cons (by exact trivial) (within_cons (by exact trivial) (within_cons (by exact trivial) (within_cons (by exact trivial) (within_cons (by exact trivial) (within_cons (by exact trivial) (within_cons (by exact trivial) (within_cons (by exact trivial) (within_cons (by exact trivial) (within_cons (by exact trivial) (within_cons (by exact trivial) (within_cons (by exact trivial) (within_cons (by exact trivial) (within_cons (by exact trivial) (within_cons (by exact trivial) (within_cons (by exact trivial) (within_cons (by exact trivial) (within_cons (by exact trivial) (within_cons (by exact trivial) (within_cons (by exact trivial) (within_cons (by exact trivial) (within_cons (by exact trivial) (within_cons (by exact trivial) (within_cons (by exact trivial) (within_cons (by exact trivial) (within_cons (by exact trivial) (within_cons (by exact trivial) (within_cons (by exact trivial) (within_cons (by exact trivial) (within_cons (by exact trivial) (within_cons (by exact trivial) within_nil))))))))))))))))))))))))))))))))))))))) ?_ ?_
                          · skip
                            refine each_consF r rfl (fun fr1 u w' hb' hd r' => ?_) ?_
                            · exact y_load_agg r' (cs := (planC ({ a0 with domains := (IntKind.i64.wrap (a0.domains + 1)) }))) (n := 6) rfl (keep hb' h_b15) ta24 rfl ⟨Below.refl _ _, rfl⟩
                            refine each_consF r rfl (fun fr1 u w' hb' hd r' => ?_) ?_
                            · obtain ⟨d0, _⟩ := hd; exact y_call r' (args := [(.agg (planC ({ a0 with domains := (IntKind.i64.wrap (a0.domains + 1)) })).toArray)]) (lc d0 l0) cl21 ((c_plan_Plan_Size _ ({ a0 with domains := (IntKind.i64.wrap (a0.domains + 1)) })).mono (by rintro _ w2 ⟨rfl, hb2⟩; exact ⟨_, rfl, hb2, rfl⟩))
                            refine each_consF r rfl (fun fr1 u w' hb' hd r' => ?_) ?_
                            · exact y_load_agg r' (cs := (planC a0)) (n := 6) rfl (keep hb' h_b1) ta24 rfl ⟨Below.refl _ _, rfl⟩
                            refine each_consF r rfl (fun fr1 u w' hb' hd r' => ?_) ?_
                            · obtain ⟨d0, d1, _⟩ := hd; exact y_call r' (args := [(.agg (planC a0).toArray)]) (lc d0 l0) cl21 ((c_plan_Plan_Size _ a0).mono (by rintro _ w2 ⟨rfl, hb2⟩; exact ⟨_, rfl, hb2, rfl⟩))
                            refine each_consF r rfl (fun fr1 u w' hb' hd r' => ?_) ?_
                            · exact y_move r' (v := (.int .i64 (IntKind.i64.wrap (1 + (D.plan_Plan_Cells a0))))) rfl ⟨Below.refl _ _, rfl⟩
                            refine each_consF r rfl (fun fr1 u w' hb' hd r' => ?_) ?_
                            · obtain ⟨d0, d1, _⟩ := hd; exact y_bin r' (u := (.int .i64 (D.plan_Plan_Size a0))) (u' := (.int .i64 (IntKind.i64.wrap (1 + (D.plan_Plan_Cells a0))))) (v := (.int .i64 (IntKind.i64.wrap ((D.plan_Plan_Size a0) + (IntKind.i64.wrap (1 + (D.plan_Plan_Cells a0))))))) d0 d1 rfl rfl ⟨Below.refl _ _, rfl⟩
                            refine each_consF r rfl (fun fr1 u w' hb' hd r' => ?_) ?_
                            · obtain ⟨d0, d1, _⟩ := hd; exact y_bin r' (u := (.int .i64 (D.plan_Plan_Size ({ a0 with domains := (IntKind.i64.wrap (a0.domains + 1)) })))) (u' := (.int .i64 (IntKind.i64.wrap ((D.plan_Plan_Size a0) + (IntKind.i64.wrap (1 + (D.plan_Plan_Cells a0))))))) (v := (.bool ((D.plan_Plan_Size ({ a0 with domains := (IntKind.i64.wrap (a0.domains + 1)) })) == (IntKind.i64.wrap ((D.plan_Plan_Size a0) + (IntKind.i64.wrap (1 + (D.plan_Plan_Cells a0)))))))) d0 d1 rfl rfl ⟨Below.refl _ _, rfl⟩
                            refine each_consF r rfl (fun fr1 u w' hb' hd r' => ?_) ?_
                            · obtain ⟨d0, d1, _⟩ := hd; exact y_move r' (v := (.bool ((D.plan_Plan_Size ({ a0 with domains := (IntKind.i64.wrap (a0.domains + 1)) })) == (IntKind.i64.wrap ((D.plan_Plan_Size a0) + (IntKind.i64.wrap (1 + (D.plan_Plan_Cells a0)))))))) d0 ⟨Below.refl _ _, rfl⟩
                            refine each_consS true (.bool false) r rfl rfl rfl (fun u w' hd => by obtain ⟨d0, _⟩ := hd; exact Eq.trans (show u 7 = .bool ((D.plan_Plan_Size ({ a0 with domains := (IntKind.i64.wrap (a0.domains + 1)) })) == (IntKind.i64.wrap ((D.plan_Plan_Size a0) + (IntKind.i64.wrap (1 + (D.plan_Plan_Cells a0)))))) from d0) (congrArg Value.bool h34)) (by simp [boolOf]) (fun _ => rfl) ?_
                            refine each_consS true (.bool false) r rfl rfl rfl (fun u w' hd => by obtain ⟨d0, _⟩ := hd; exact Eq.trans (show u 7 = .bool ((D.plan_Plan_Size ({ a0 with domains := (IntKind.i64.wrap (a0.domains + 1)) })) == (IntKind.i64.wrap ((D.plan_Plan_Size a0) + (IntKind.i64.wrap (1 + (D.plan_Plan_Cells a0)))))) from d0) (congrArg Value.bool h34)) (by simp [boolOf]) (fun _ => rfl) ?_
                            refine each_consS true (.bool false) r rfl rfl rfl (fun u w' hd => by obtain ⟨d0, d1, d2, d3, _⟩ := hd; exact Eq.trans (show u 7 = .bool ((D.plan_Plan_Size ({ a0 with domains := (IntKind.i64.wrap (a0.domains + 1)) })) == (IntKind.i64.wrap ((D.plan_Plan_Size a0) + (IntKind.i64.wrap (1 + (D.plan_Plan_Cells a0)))))) from d2) (congrArg Value.bool h34)) (by simp [boolOf]) (fun _ => rfl) ?_
                            refine each_consS true (.bool false) r rfl rfl rfl (fun u w' hd => by obtain ⟨d0, _⟩ := hd; exact Eq.trans (show u 7 = .bool ((D.plan_Plan_Size ({ a0 with domains := (IntKind.i64.wrap (a0.domains + 1)) })) == (IntKind.i64.wrap ((D.plan_Plan_Size a0) + (IntKind.i64.wrap (1 + (D.plan_Plan_Cells a0)))))) from d0) (congrArg Value.bool h34)) (by simp [boolOf]) (fun _ => rfl) ?_
                            refine each_consS true (.bool false) r rfl rfl rfl (fun u w' hd => by obtain ⟨d0, _⟩ := hd; exact Eq.trans (show u 7 = .bool ((D.plan_Plan_Size ({ a0 with domains := (IntKind.i64.wrap (a0.domains + 1)) })) == (IntKind.i64.wrap ((D.plan_Plan_Size a0) + (IntKind.i64.wrap (1 + (D.plan_Plan_Cells a0)))))) from d0) (congrArg Value.bool h34)) (by simp [boolOf]) (fun _ => rfl) ?_
                            refine each_consS true (.bool false) r rfl rfl rfl (fun u w' hd => by obtain ⟨d0, d1, d2, d3, _⟩ := hd; exact Eq.trans (show u 7 = .bool ((D.plan_Plan_Size ({ a0 with domains := (IntKind.i64.wrap (a0.domains + 1)) })) == (IntKind.i64.wrap ((D.plan_Plan_Size a0) + (IntKind.i64.wrap (1 + (D.plan_Plan_Cells a0)))))) from d3) (congrArg Value.bool h34)) (by simp [boolOf]) (fun _ => rfl) ?_
                            refine each_consS true (.bool false) r rfl rfl rfl (fun u w' hd => by obtain ⟨d0, _⟩ := hd; exact Eq.trans (show u 7 = .bool ((D.plan_Plan_Size ({ a0 with domains := (IntKind.i64.wrap (a0.domains + 1)) })) == (IntKind.i64.wrap ((D.plan_Plan_Size a0) + (IntKind.i64.wrap (1 + (D.plan_Plan_Cells a0)))))) from d0) (congrArg Value.bool h34)) (by simp [boolOf]) (fun _ => rfl) ?_
                            refine each_consS true (.bool false) r rfl rfl rfl (fun u w' hd => by obtain ⟨d0, d1, d2, _⟩ := hd; exact Eq.trans (show u 7 = .bool ((D.plan_Plan_Size ({ a0 with domains := (IntKind.i64.wrap (a0.domains + 1)) })) == (IntKind.i64.wrap ((D.plan_Plan_Size a0) + (IntKind.i64.wrap (1 + (D.plan_Plan_Cells a0)))))) from d2) (congrArg Value.bool h34)) (by simp [boolOf]) (fun _ => rfl) ?_
                            refine each_consS true (.bool false) r rfl rfl rfl (fun u w' hd => by obtain ⟨d0, d1, d2, _⟩ := hd; exact Eq.trans (show u 7 = .bool ((D.plan_Plan_Size ({ a0 with domains := (IntKind.i64.wrap (a0.domains + 1)) })) == (IntKind.i64.wrap ((D.plan_Plan_Size a0) + (IntKind.i64.wrap (1 + (D.plan_Plan_Cells a0)))))) from d2) (congrArg Value.bool h34)) (by simp [boolOf]) (fun _ => rfl) ?_
                            refine each_consF r rfl (fun fr1 u w' hb' hd r' => ?_) ?_
                            · obtain ⟨d0, d1, _⟩ := hd; exact y_pick r' (b := false) (v := (.bool false)) (Eq.trans (show u 7 = .bool ((D.plan_Plan_Size ({ a0 with domains := (IntKind.i64.wrap (a0.domains + 1)) })) == (IntKind.i64.wrap ((D.plan_Plan_Size a0) + (IntKind.i64.wrap (1 + (D.plan_Plan_Cells a0)))))) from d0) (congrArg Value.bool h34)) rfl ⟨Below.refl _ _, rfl⟩
                            refine each_consF r rfl (fun fr1 u w' hb' hd r' => ?_) ?_
                            · obtain ⟨d0, d1, _⟩ := hd; exact y_move r' (v := (.bool false)) d0 ⟨Below.refl _ _, rfl⟩
                            refine each_consS true (.bool false) r rfl rfl rfl (fun u w' hd => by obtain ⟨d0, _⟩ := hd; exact Eq.trans (show u 18 = .bool false from d0) (congrArg Value.bool (rfl : false = _))) (by simp [boolOf]) (fun _ => rfl) ?_
                            refine each_consS true (.bool false) r rfl rfl rfl (fun u w' hd => by obtain ⟨d0, d1, d2, _⟩ := hd; exact Eq.trans (show u 18 = .bool false from d1) (congrArg Value.bool (rfl : false = _))) (by simp [boolOf]) (fun _ => rfl) ?_
                            refine each_consS true (.bool false) r rfl rfl rfl (fun u w' hd => by obtain ⟨d0, _⟩ := hd; exact Eq.trans (show u 18 = .bool false from d0) (congrArg Value.bool (rfl : false = _))) (by simp [boolOf]) (fun _ => rfl) ?_
                            refine each_consS true (.bool false) r rfl rfl rfl (fun u w' hd => by obtain ⟨d0, d1, d2, _⟩ := hd; exact Eq.trans (show u 18 = .bool false from d2) (congrArg Value.bool (rfl : false = _))) (by simp [boolOf]) (fun _ => rfl) ?_
                            refine each_consS true (.bool false) r rfl rfl rfl (fun u w' hd => by obtain ⟨d0, _⟩ := hd; exact Eq.trans (show u 18 = .bool false from d0) (congrArg Value.bool (rfl : false = _))) (by simp [boolOf]) (fun _ => rfl) ?_
                            refine each_consS true (.bool false) r rfl rfl rfl (fun u w' hd => by obtain ⟨d0, d1, d2, _⟩ := hd; exact Eq.trans (show u 18 = .bool false from d2) (congrArg Value.bool (rfl : false = _))) (by simp [boolOf]) (fun _ => rfl) ?_
                            refine each_consS true (.bool false) r rfl rfl rfl (fun u w' hd => by obtain ⟨d0, d1, d2, _⟩ := hd; exact Eq.trans (show u 18 = .bool false from d2) (congrArg Value.bool (rfl : false = _))) (by simp [boolOf]) (fun _ => rfl) ?_
                            refine each_consF r rfl (fun fr1 u w' hb' hd r' => ?_) ?_
                            · obtain ⟨d0, d1, _⟩ := hd; exact y_pick r' (b := false) (v := (.bool false)) (Eq.trans (show u 18 = .bool false from d0) (congrArg Value.bool (rfl : false = _))) rfl ⟨Below.refl _ _, rfl⟩
                            refine each_consF r rfl (fun fr1 u w' hb' hd r' => ?_) ?_
                            · obtain ⟨d0, d1, _⟩ := hd; exact y_move r' (v := (.bool false)) d0 ⟨Below.refl _ _, rfl⟩
                            refine each_consS true (.bool false) r rfl rfl rfl (fun u w' hd => by obtain ⟨d0, _⟩ := hd; exact Eq.trans (show u 27 = .bool false from d0) (congrArg Value.bool (rfl : false = _))) (by simp [boolOf]) (fun _ => rfl) ?_
                            refine each_consS true (.bool false) r rfl rfl rfl (fun u w' hd => by obtain ⟨d0, _⟩ := hd; exact Eq.trans (show u 27 = .bool false from d0) (congrArg Value.bool (rfl : false = _))) (by simp [boolOf]) (fun _ => rfl) ?_
                            refine each_consS true (.bool false) r rfl rfl rfl (fun u w' hd => by obtain ⟨d0, d1, _⟩ := hd; exact Eq.trans (show u 27 = .bool false from d1) (congrArg Value.bool (rfl : false = _))) (by simp [boolOf]) (fun _ => rfl) ?_
                            refine each_consS true (.bool false) r rfl rfl rfl (fun u w' hd => by obtain ⟨d0, d1, d2, d3, _⟩ := hd; exact Eq.trans (show u 27 = .bool false from d2) (congrArg Value.bool (rfl : false = _))) (by simp [boolOf]) (fun _ => rfl) ?_
                            refine each_consS true (.bool false) r rfl rfl rfl (fun u w' hd => by obtain ⟨d0, _⟩ := hd; exact Eq.trans (show u 27 = .bool false from d0) (congrArg Value.bool (rfl : false = _))) (by simp [boolOf]) (fun _ => rfl) ?_
                            refine each_consS true (.bool false) r rfl rfl rfl (fun u w' hd => by obtain ⟨d0, d1, _⟩ := hd; exact Eq.trans (show u 27 = .bool false from d1) (congrArg Value.bool (rfl : false = _))) (by simp [boolOf]) (fun _ => rfl) ?_
                            refine each_consS true (.bool false) r rfl rfl rfl (fun u w' hd => by obtain ⟨d0, _⟩ := hd; exact Eq.trans (show u 27 = .bool false from d0) (congrArg Value.bool (rfl : false = _))) (by simp [boolOf]) (fun _ => rfl) ?_
                            refine each_consS true (.bool false) r rfl rfl rfl (fun u w' hd => by obtain ⟨d0, d1, d2, _⟩ := hd; exact Eq.trans (show u 27 = .bool false from d2) (congrArg Value.bool (rfl : false = _))) (by simp [boolOf]) (fun _ => rfl) ?_
                            refine each_consS true (.bool false) r rfl rfl rfl (fun u w' hd => by obtain ⟨d0, d1, _⟩ := hd; exact Eq.trans (show u 27 = .bool false from d1) (congrArg Value.bool (rfl : false = _))) (by simp [boolOf]) (fun _ => rfl) ?_
                            refine each_consS true (.bool false) r rfl rfl rfl (fun u w' hd => by obtain ⟨d0, d1, d2, _⟩ := hd; exact Eq.trans (show u 27 = .bool false from d2) (congrArg Value.bool (rfl : false = _))) (by simp [boolOf]) (fun _ => rfl) ?_
                            refine each_consF r rfl (fun fr1 u w' hb' hd r' => ?_) ?_
                            · obtain ⟨d0, d1, _⟩ := hd; exact y_pick r' (b := false) (v := (.bool false)) (Eq.trans (show u 27 = .bool false from d0) (congrArg Value.bool (rfl : false = _))) rfl ⟨Below.refl _ _, rfl⟩
                            exact each_nil
                          · skip
                            intro fr u w40 hb hΦ hne r
                            have g0 : u 0 = (.agg (planC ({ a0 with domains := (IntKind.i64.wrap (a0.domains + 1)) })).toArray) := hΦ 0 (by decide)
                            have g1 : u 1 = (.int .i64 (D.plan_Plan_Size ({ a0 with domains := (IntKind.i64.wrap (a0.domains + 1)) }))) := hΦ 1 (by decide)
                            have g2 : u 2 = (.agg (planC a0).toArray) := hΦ 2 (by decide)
                            have g3 : u 3 = (.int .i64 (D.plan_Plan_Size a0)) := hΦ 3 (by decide)
                            have g4 : u 4 = (.int .i64 (IntKind.i64.wrap (1 + (D.plan_Plan_Cells a0)))) := hΦ 4 (by decide)
                            have g5 : u 5 = (.int .i64 (IntKind.i64.wrap ((D.plan_Plan_Size a0) + (IntKind.i64.wrap (1 + (D.plan_Plan_Cells a0)))))) := hΦ 5 (by decide)
                            have g6 : u 6 = (.bool ((D.plan_Plan_Size ({ a0 with domains := (IntKind.i64.wrap (a0.domains + 1)) })) == (IntKind.i64.wrap ((D.plan_Plan_Size a0) + (IntKind.i64.wrap (1 + (D.plan_Plan_Cells a0))))))) := hΦ 6 (by decide)
                            have g7 : u 7 = (.bool ((D.plan_Plan_Size ({ a0 with domains := (IntKind.i64.wrap (a0.domains + 1)) })) == (IntKind.i64.wrap ((D.plan_Plan_Size a0) + (IntKind.i64.wrap (1 + (D.plan_Plan_Cells a0))))))) := hΦ 7 (by decide)
                            have g8 : u 8 = undef := hΦ 8 (by decide)
                            have g9 : u 9 = undef := hΦ 9 (by decide)
                            have g10 : u 10 = undef := hΦ 10 (by decide)
                            have g11 : u 11 = undef := hΦ 11 (by decide)
                            have g12 : u 12 = undef := hΦ 12 (by decide)
                            have g13 : u 13 = undef := hΦ 13 (by decide)
                            have g14 : u 14 = undef := hΦ 14 (by decide)
                            have g15 : u 15 = undef := hΦ 15 (by decide)
                            have g16 : u 16 = undef := hΦ 16 (by decide)
                            have g17 : u 17 = (.bool false) := hΦ 17 (by decide)
                            have g18 : u 18 = (.bool false) := hΦ 18 (by decide)
                            have g19 : u 19 = undef := hΦ 19 (by decide)
                            have g20 : u 20 = undef := hΦ 20 (by decide)
                            have g21 : u 21 = undef := hΦ 21 (by decide)
                            have g22 : u 22 = undef := hΦ 22 (by decide)
                            have g23 : u 23 = undef := hΦ 23 (by decide)
                            have g24 : u 24 = undef := hΦ 24 (by decide)
                            have g25 : u 25 = undef := hΦ 25 (by decide)
                            have g26 : u 26 = (.bool false) := hΦ 26 (by decide)
                            have g27 : u 27 = (.bool false) := hΦ 27 (by decide)
                            have g28 : u 28 = undef := hΦ 28 (by decide)
                            have g29 : u 29 = undef := hΦ 29 (by decide)
                            have g30 : u 30 = undef := hΦ 30 (by decide)
                            have g31 : u 31 = undef := hΦ 31 (by decide)
                            have g32 : u 32 = undef := hΦ 32 (by decide)
                            have g33 : u 33 = undef := hΦ 33 (by decide)
                            have g34 : u 34 = undef := hΦ 34 (by decide)
                            have g35 : u 35 = undef := hΦ 35 (by decide)
                            have g36 : u 36 = undef := hΦ 36 (by decide)
                            have g37 : u 37 = undef := hΦ 37 (by decide)
                            have g38 : u 38 = (.bool false) := hΦ 38 (by decide)
                            have r := r.congr (sc g38 (sc g37 (sc g36 (sc g35 (sc g34 (sc g33 (sc g32 (sc g31 (sc g30 (sc g29 (sc g28 (sc g27 (sc g26 (sc g25 (sc g24 (sc g23 (sc g22 (sc g21 (sc g20 (sc g19 (sc g18 (sc g17 (sc g16 (sc g15 (sc g14 (sc g13 (sc g12 (sc g11 (sc g10 (sc g9 (sc g8 (sc g7 (sc g6 (sc g5 (sc g4 (sc g3 (sc g2 (sc g1 (sc g0 rfl)))))))))))))))))))))))))))))))))))))))
                            have z_w40 := hb.size
                            have h_b1 := keep hb h_b1
                            have h_b14 := keep hb h_b14
                            have h_b15 := keep hb h_b15
                            have hB := hB.trans (hb.mono hB.size)
                            have zB := hB.size
                            refine seq_val (.bool false) r (fun R => y_assign r rfl) rfl fun fr r => ?_
                            refine wpList_nil ?_
                            refine wp_ret ?_
                            have hd : D.cubiclelaw06_PlanMore a0 a1 = false := by subst hx20; exact (cond_f h5).trans ((cond_f h8).trans ((cond_f h11).trans ((cond_f h23).trans ((cond_f h25).trans ((cond_f h27).trans ((cond_f h29).trans ((cond_f h32).trans ((cond_f h34).trans (rfl)))))))))
                            refine ret_tmp r rfl (v := (.bool false)) rfl ?_
                            rw [hd]
                            exact ⟨rfl, hB⟩

end Go.Proofs.Ytphnnjiaiemkcaa.Wk

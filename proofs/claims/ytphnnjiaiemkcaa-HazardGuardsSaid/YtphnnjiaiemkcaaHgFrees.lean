/- Written by a program of ours (wip/gen.py): the list of free nodes -/
import Derived.Test.YtphnnjiaiemkcaaHgLoads
set_option linter.unusedVariables false
namespace Go.Proofs.Ytphnnjiaiemkcaa
open Go.RowKit
theorem cl111 : callable Try.prog 111 = true := by kernel_rfl

theorem cl123 : callable Try.prog 123 = true := by kernel_rfl

theorem cl150 : callable Try.prog 150 = true := by kernel_rfl

theorem cl22 : callable Try.prog 22 = true := by kernel_rfl

theorem cl26 : callable Try.prog 26 = true := by kernel_rfl

theorem cl88 : callable Try.prog 88 = true := by kernel_rfl

theorem ti3 : intTy Try.prog 3 .i64 = true := by kernel_rfl

theorem ti49 : intTy Try.prog 49 .u64 = true := by kernel_rfl

theorem ts3 : sized Try.prog 3 1 = true := by kernel_rfl

def D.free_link (a0 : Int) : Int := (IntKind.u64.wrap (IntKind.i64.wrap (a0 + 1)))

set_option maxRecDepth 20000 in
set_option maxHeartbeats 1000000 in
theorem c_free_link (w0 : World) 
    (a0 : Int) :
    Calls Try.prog 111 #[.int .i64 a0] w0 (PureRes (.int .u64 (D.free_link a0)) w0) := by
  refine enter (l := [.int .i64 a0]) Try.func111 rfl 6 rfl rfl fun fr r => ?_
  have hB := Below.refl w0.heap.size w0
  refine wp_seq ?_
  refine wp_region_lit ?_
  refine seq_val (.int .u64 0) r (fun R => y_assign r rfl) rfl fun fr r => ?_
  refine wpList_nil ?_
  refine wp_seq ?_
  refine wp_region_lit ?_
  refine seq_val (.int .i64 a0) r (fun R => y_move r rfl) rfl fun fr r => ?_
  refine seq_val (.int .i64 (IntKind.i64.wrap (a0 + 1))) r (fun R => y_bin r (u := (.int .i64 a0)) (u' := (.int .i64 1)) rfl rfl rfl rfl) rfl fun fr r => ?_
  refine seq_val (.int .u64 (IntKind.u64.wrap (IntKind.i64.wrap (a0 + 1)))) r (fun R => y_convert r rfl ti3 ti49) rfl fun fr r => ?_
  refine seq_val (.int .u64 (IntKind.u64.wrap (IntKind.i64.wrap (a0 + 1)))) r (fun R => y_assign r rfl) rfl fun fr r => ?_
  refine wpList_nil ?_
  refine wp_ret ?_
  have hd : D.free_link a0 = (IntKind.u64.wrap (IntKind.i64.wrap (a0 + 1))) := rfl
  refine ret_tmp r rfl (v := (.int .u64 (IntKind.u64.wrap (IntKind.i64.wrap (a0 + 1))))) rfl ?_
  rw [hd]
  exact ⟨rfl, hB⟩

def D.free_fresh_1 (r_free_fresh : Plan → Int → T Unit) (c0 : Plan) (c1 : Int) : T Unit := (r_free_fresh c0 (IntKind.i64.wrap (c1 + 1)))

def D.free_fresh_body (r_free_fresh : Plan → Int → T Unit) (a0 : Plan) (a1 : Int) : T Unit := (bif (a1 == a0.nodes) then (D.prog_Set (D.plan_Plan_Head a0) (D.free_link 0)) else (let x19 : Int := (bif ((IntKind.i64.wrap (a1 + 1)) == a0.nodes) then 0 else (D.free_link (IntKind.i64.wrap (a1 + 1)))); (D.prog_Store_None (D.plan_Plan_Next a0 a1) x19 (fun _ => (D.free_fresh_1 r_free_fresh a0 a1)))))

def D.free_fresh : Nat → Plan → Int → T Unit
  | 0, _, _ => .cut
  | k + 1, a0, a1 => D.free_fresh_body (D.free_fresh k) a0 a1

def Spec_free_fresh (r : Plan → Int → T Unit) (n : Nat) : Prop := ∀ (F : Nat → Prop) (w0 : World), (∀ b, F b → b < w0.heap.size) → ∀ (a0 : Plan) (a1 : Int), Calls Try.prog 123 #[.agg (planC a0).toArray, .int .i64 a1] w0 (RepRes Try.prog encNone n (r a0 a1) F w0)

set_option maxRecDepth 20000 in
set_option maxHeartbeats 1000000 in
theorem c_free_fresh_1 {n : Nat} {F : Nat → Prop} {r_free_fresh : Plan → Int → T Unit} {w0 : World} (hF : ∀ b, F b → b < w0.heap.size) (ih_free_fresh : ∀ m, m ≤ n → Spec_free_fresh r_free_fresh m)
    (c0 : Plan) {c0_b : Nat} (c0_F : F c0_b) (c0_h : w0.heap[c0_b]? = some (.cells ((planC c0)).toArray 24 (0, 0))) (c1 : Int) {c1_b : Nat} (c1_F : F c1_b) (c1_h : w0.heap[c1_b]? = some (.cells ([(.int .i64 c1)]).toArray 3 (0, 0))) :
    Calls Try.prog 150 #[.pointer (some ⟨c0_b, 0, none⟩), .pointer (some ⟨c1_b, 0, none⟩)] w0 (RepRes Try.prog encNone n (D.free_fresh_1 r_free_fresh c0 c1) F w0) := by
  refine enter (l := [.pointer (some ⟨c0_b, 0, none⟩), .pointer (some ⟨c1_b, 0, none⟩)]) Try.func150 rfl 7 rfl rfl fun fr r => ?_
  have hB := Below.refl w0.heap.size w0
  have l_c0_b := lt_of_block c0_h
  have l_c1_b := lt_of_block c1_h
  refine wp_seq ?_
  refine wp_region_lit ?_
  refine seq_new (.cells (progCells false encNone.zero 0 0 0 0 .nilFunc) 54 (0, 0)) r (fun R => y_alloc tz54) rfl fun fr b1 w2 n3 r => ?_
  have c0_h := keep n3.below c0_h
  have c1_h := keep n3.below c1_h
  have e_b1 := n3.eq
  have z_w2 := n3.size
  have h_b1 := n3.at_
  have hB := hB.trans (n3.below.mono hB.size)
  have zB := hB.size
  refine wpList_nil ?_
  refine wp_seq ?_
  refine wp_region_lit ?_
  refine seq_val (.agg (planC c0).toArray) r (fun R => y_load_agg r (cs := (planC c0)) (n := 6) rfl c0_h ta24 rfl) rfl fun fr r => ?_
  refine seq_val (.int .i64 c1) r (fun R => y_load_one r (v := (.int .i64 c1)) rfl c1_h to3 rfl) rfl fun fr r => ?_
  refine seq_val (.int .i64 (IntKind.i64.wrap (c1 + 1))) r (fun R => y_bin r (u := (.int .i64 c1)) (u' := (.int .i64 1)) rfl rfl rfl rfl) rfl fun fr r => ?_
  have hF1 : ∀ b, (fun b => F b ∨ (w0.heap.size ≤ b ∧ b < w2.heap.size ∧ b ≠ b1)) b → b < w2.heap.size := by rintro b (h | h); exact Nat.lt_of_lt_of_le (hF b h) hB.size; exact h.2.1
  refine seq_call r ((ih_free_fresh n (by omega)) (fun b => F b ∨ (w0.heap.size ≤ b ∧ b < w2.heap.size ∧ b ≠ b1)) _ hF1 c0 (IntKind.i64.wrap (c1 + 1))) (fun R hc => y_call r rfl cl123 hc) rfl ?_
  rintro _ w4 ⟨v5, rfl, hb, hr6⟩
  refine ⟨_, rfl, fun fr r => ?_⟩
  have z_w4 := hb.size
  have c0_h := keep hb c0_h
  have c1_h := keep hb c1_h
  have h_b1 := keep hb h_b1
  have hB := hB.trans (hb.mono hB.size)
  have zB := hB.size
  refine seq_upd (.cells v5.cells 54 (0, 0)) r (fun R => y_storep r hr6.shape rfl rfl h_b1 ts54 rfl) rfl fun fr w7 u8 r => ?_
  have z_w7 := u8.size
  have c0_h := u8.keep c0_h (by omega)
  have c1_h := u8.keep c1_h (by omega)
  have h_b1 := u8.at_
  have hB := u8.below hB (by omega)
  have zB := hB.size
  refine wpList_nil ?_
  refine wp_ret ?_
  have hd : D.free_fresh_1 r_free_fresh c0 c1 = (r_free_fresh c0 (IntKind.i64.wrap (c1 + 1))) := rfl
  have hs := hr6.shape.cells
  refine ret_cell r rfl rfl h_b1 (k := 6) hs.1 ta54 ?_
  rw [← hs.2.2, hd]
  exact RepRes.fin hB hr6 u8 (by rintro b (h | ⟨h1, h2, _⟩); exact .inl h; exact .inr ⟨h1, h2⟩) (by rintro (h | ⟨_, _, h⟩); (have := hF _ h; omega); exact h rfl) (by omega) (by omega) (by omega)

set_option maxRecDepth 20000 in
set_option maxHeartbeats 1000000 in
theorem b_free_fresh {n : Nat} {F : Nat → Prop} {r_free_fresh : Plan → Int → T Unit} {w0 : World} (hF : ∀ b, F b → b < w0.heap.size) (ih_free_fresh : ∀ m, m < n → Spec_free_fresh r_free_fresh m)
    (a0 : Plan) (a1 : Int) :
    Calls Try.prog 123 #[.agg (planC a0).toArray, .int .i64 a1] w0 (RepRes Try.prog encNone n (D.free_fresh_body r_free_fresh a0 a1) F w0) := by
  refine enter (l := [.agg (planC a0).toArray, .int .i64 a1]) Try.func123 rfl 28 rfl rfl fun fr r => ?_
  have hB := Below.refl w0.heap.size w0
  refine wp_seq ?_
  refine wp_region_lit ?_
  refine seq_new (.cells ((planC a0)).toArray 24 (0, 0)) r (fun R => y_box r (v := (.agg (planC a0).toArray)) rfl) rfl fun fr b1 w2 n3 r => ?_
  have e_b1 := n3.eq
  have z_w2 := n3.size
  have h_b1 := n3.at_
  have hB := hB.trans (n3.below.mono hB.size)
  have zB := hB.size
  refine seq_new (.cells #[(.int .i64 a1)] 3 (0, 0)) r (fun R => y_box r (v := (.int .i64 a1)) rfl) rfl fun fr b4 w5 n6 r => ?_
  have h_b1 := keep n6.below h_b1
  have e_b4 := n6.eq
  have z_w5 := n6.size
  have h_b4 := n6.at_
  have hB := hB.trans (n6.below.mono hB.size)
  have zB := hB.size
  refine seq_new (.cells (progCells false encNone.zero 0 0 0 0 .nilFunc) 54 (0, 0)) r (fun R => y_alloc tz54) rfl fun fr b7 w8 n9 r => ?_
  have h_b1 := keep n9.below h_b1
  have h_b4 := keep n9.below h_b4
  have e_b7 := n9.eq
  have z_w8 := n9.size
  have h_b7 := n9.at_
  have hB := hB.trans (n9.below.mono hB.size)
  have zB := hB.size
  refine wpList_nil ?_
  refine wp_seq ?_
  refine wp_seq ?_
  refine wp_region_lit ?_
  refine seq_val (.int .i64 a1) r (fun R => y_load_one r (v := (.int .i64 a1)) rfl h_b4 to3 rfl) rfl fun fr r => ?_
  refine seq_val (.pointer (some ⟨b1, 0, none⟩)) r (fun R => y_fieldAddr r (o := 0) rfl fo24_0) rfl fun fr r => ?_
  refine seq_val (.int .i64 a0.nodes) r (fun R => y_load_one r (v := (.int .i64 a0.nodes)) rfl h_b1 to3 rfl) rfl fun fr r => ?_
  refine seq_val (.bool (a1 == a0.nodes)) r (fun R => y_bin r (u := (.int .i64 a1)) (u' := (.int .i64 a0.nodes)) rfl rfl rfl rfl) rfl fun fr r => ?_
  refine wpList_nil ?_
  refine wp_cond_split (t := (a1 == a0.nodes)) (r.ev rfl) (fun h10 => ?_) (fun h10 => ?_)
  · skip
    refine wp_seq ?_
    refine wp_region_lit ?_
    refine seq_val (.agg (planC a0).toArray) r (fun R => y_load_agg r (cs := (planC a0)) (n := 6) rfl h_b1 ta24 rfl) rfl fun fr r => ?_
    refine seq_call r (c_plan_Plan_Head w8 a0) (fun R hc => y_call r rfl cl22 hc) rfl ?_
    rintro _ w11 ⟨rfl, hb⟩
    refine ⟨_, rfl, fun fr r => ?_⟩
    have z_w11 := hb.size
    have h_b1 := keep hb h_b1
    have h_b4 := keep hb h_b4
    have h_b7 := keep hb h_b7
    have hB := hB.trans (hb.mono hB.size)
    have zB := hB.size
    refine seq_call r (c_free_link w11 0) (fun R hc => y_call r rfl cl111 hc) rfl ?_
    rintro _ w12 ⟨rfl, hb⟩
    refine ⟨_, rfl, fun fr r => ?_⟩
    have z_w12 := hb.size
    have h_b1 := keep hb h_b1
    have h_b4 := keep hb h_b4
    have h_b7 := keep hb h_b7
    have hB := hB.trans (hb.mono hB.size)
    have zB := hB.size
    have hF1 : ∀ b, (fun b => F b ∨ (w0.heap.size ≤ b ∧ b < w12.heap.size ∧ b ≠ b7)) b → b < w12.heap.size := by rintro b (h | h); exact Nat.lt_of_lt_of_le (hF b h) hB.size; exact h.2.1
    refine seq_call r (c_prog_Set (F := (fun b => F b ∨ (w0.heap.size ≤ b ∧ b < w12.heap.size ∧ b ≠ b7))) (n := n) hF1 (D.plan_Plan_Head a0) (D.free_link 0)) (fun R hc => y_call r rfl cl88 hc) rfl ?_
    rintro _ w13 ⟨v14, rfl, hb, hr15⟩
    refine ⟨_, rfl, fun fr r => ?_⟩
    have z_w13 := hb.size
    have h_b1 := keep hb h_b1
    have h_b4 := keep hb h_b4
    have h_b7 := keep hb h_b7
    have hB := hB.trans (hb.mono hB.size)
    have zB := hB.size
    refine seq_upd (.cells v14.cells 54 (0, 0)) r (fun R => y_storep r hr15.shape rfl rfl h_b7 ts54 rfl) rfl fun fr w16 u17 r => ?_
    have z_w16 := u17.size
    have h_b1 := u17.keep h_b1 (by omega)
    have h_b4 := u17.keep h_b4 (by omega)
    have h_b7 := u17.at_
    have hB := u17.below hB (by omega)
    have zB := hB.size
    refine wpList_nil ?_
    refine wp_ret ?_
    have hd : D.free_fresh_body r_free_fresh a0 a1 = (D.prog_Set (D.plan_Plan_Head a0) (D.free_link 0)) := (cond_t h10).trans (rfl)
    have hs := hr15.shape.cells
    refine ret_cell r rfl rfl h_b7 (k := 6) hs.1 ta54 ?_
    rw [← hs.2.2, hd]
    exact RepRes.fin hB hr15 u17 (by rintro b (h | ⟨h1, h2, _⟩); exact .inl h; exact .inr ⟨h1, h2⟩) (by rintro (h | ⟨_, _, h⟩); (have := hF _ h; omega); exact h rfl) (by omega) (by omega) (by omega)
  · skip
    refine wp_skip ?_
    refine wp_seq ?_
    refine wp_region_lit ?_
    refine seq_val (.int .i64 a1) r (fun R => y_load_one r (v := (.int .i64 a1)) rfl h_b4 to3 rfl) rfl fun fr r => ?_
    refine seq_val (.int .i64 (IntKind.i64.wrap (a1 + 1))) r (fun R => y_bin r (u := (.int .i64 a1)) (u' := (.int .i64 1)) rfl rfl rfl rfl) rfl fun fr r => ?_
    refine seq_call r (c_free_link w8 (IntKind.i64.wrap (a1 + 1))) (fun R hc => y_call r rfl cl111 hc) rfl ?_
    rintro _ w18 ⟨rfl, hb⟩
    refine ⟨_, rfl, fun fr r => ?_⟩
    have z_w18 := hb.size
    have h_b1 := keep hb h_b1
    have h_b4 := keep hb h_b4
    have h_b7 := keep hb h_b7
    have hB := hB.trans (hb.mono hB.size)
    have zB := hB.size
    refine seq_val (.int .u64 (D.free_link (IntKind.i64.wrap (a1 + 1)))) r (fun R => y_assign r rfl) rfl fun fr r => ?_
    refine wpList_nil ?_
    refine wp_seq ?_
    refine wp_seq ?_
    refine wp_region_lit ?_
    refine seq_val (.int .i64 a1) r (fun R => y_load_one r (v := (.int .i64 a1)) rfl h_b4 to3 rfl) rfl fun fr r => ?_
    refine seq_val (.int .i64 (IntKind.i64.wrap (a1 + 1))) r (fun R => y_bin r (u := (.int .i64 a1)) (u' := (.int .i64 1)) rfl rfl rfl rfl) rfl fun fr r => ?_
    refine seq_val (.pointer (some ⟨b1, 0, none⟩)) r (fun R => y_fieldAddr r (o := 0) rfl fo24_0) rfl fun fr r => ?_
    refine seq_val (.int .i64 a0.nodes) r (fun R => y_load_one r (v := (.int .i64 a0.nodes)) rfl h_b1 to3 rfl) rfl fun fr r => ?_
    refine seq_val (.bool ((IntKind.i64.wrap (a1 + 1)) == a0.nodes)) r (fun R => y_bin r (u := (.int .i64 (IntKind.i64.wrap (a1 + 1)))) (u' := (.int .i64 a0.nodes)) rfl rfl rfl rfl) rfl fun fr r => ?_
    refine wpList_nil ?_
    obtain ⟨x19, hx19⟩ : ∃ x : Int, x = (bif ((IntKind.i64.wrap (a1 + 1)) == a0.nodes) then 0 else (D.free_link (IntKind.i64.wrap (a1 + 1)))) := ⟨_, rfl⟩
    refine wp_join (N := 28) [(0, (.agg (planC a0).toArray)), (1, (.int .i64 a1)), (2, (.pointer (some ⟨b1, 0, none⟩))), (3, (.pointer (some ⟨b4, 0, none⟩))), (4, (.pointer (some ⟨b7, 0, none⟩))), (5, (.int .u64 x19))] (fun w => Below w0.heap.size w0 w ∧ w18.heap.size ≤ w.heap.size ∧ w.heap[b1]? = some (.cells ((planC a0)).toArray 24 (0, 0)) ∧ w.heap[b4]? = some (.cells #[(.int .i64 a1)] 3 (0, 0)) ∧ w.heap[b7]? = some (.cells (progCells false encNone.zero 0 0 0 0 .nilFunc) 54 (0, 0))) ?_ ?_
    · skip
      refine wp_cond_split (t := ((IntKind.i64.wrap (a1 + 1)) == a0.nodes)) (r.ev rfl) (fun h20 => ?_) (fun h20 => ?_)
      · skip
        refine wp_region_lit ?_
        refine seq_val (.int .u64 0) r (fun R => y_assign r rfl) rfl fun fr r => ?_
        refine wpList_nil ?_
        exact ⟨rfl, _, r, (hs_cons rfl (hs_cons rfl (hs_cons rfl (hs_cons rfl (hs_cons rfl (hs_cons (by rw [hx19, cond_t h20]; rfl) hs_nil)))))), hB, (by omega), h_b1, h_b4, h_b7⟩
      · skip
        refine wp_skip ?_
        exact ⟨rfl, _, r, (hs_cons rfl (hs_cons rfl (hs_cons rfl (hs_cons rfl (hs_cons rfl (hs_cons (by rw [hx19, cond_f h20]; rfl) hs_nil)))))), hB, (by omega), h_b1, h_b4, h_b7⟩
    · skip
      rintro fr w21 g r ⟨hB, z_w21, h_b1, h_b4, h_b7⟩
      have zB := hB.size
      refine wp_seq ?_
      refine wp_region_lit ?_
      refine seq_val (.agg (planC a0).toArray) r (fun R => y_load_agg r (cs := (planC a0)) (n := 6) rfl h_b1 ta24 rfl) rfl fun fr r => ?_
      refine seq_val (.int .i64 a1) r (fun R => y_load_one r (v := (.int .i64 a1)) rfl h_b4 to3 rfl) rfl fun fr r => ?_
      refine seq_call r (c_plan_Plan_Next w21 a0 a1) (fun R hc => y_call r rfl cl26 hc) rfl ?_
      rintro _ w22 ⟨rfl, hb⟩
      refine ⟨_, rfl, fun fr r => ?_⟩
      have z_w22 := hb.size
      have h_b1 := keep hb h_b1
      have h_b4 := keep hb h_b4
      have h_b7 := keep hb h_b7
      have hB := hB.trans (hb.mono hB.size)
      have zB := hB.size
      refine seq_val (.int .u64 x19) r (fun R => y_move r rfl) rfl fun fr r => ?_
      refine seq_val (.func (.func 150) #[] #[.pointer (some ⟨b1, 0, none⟩), .pointer (some ⟨b4, 0, none⟩)]) r (fun R => y_makeFunc r rfl) rfl fun fr r => ?_
      have hF1 : ∀ b, (fun b => F b ∨ (w0.heap.size ≤ b ∧ b < w22.heap.size ∧ b ≠ b7)) b → b < w22.heap.size := by rintro b (h | h); exact Nat.lt_of_lt_of_le (hF b h) hB.size; exact h.2.1
      have f23 : ((fun b => F b ∨ (w0.heap.size ≤ b ∧ b < w22.heap.size ∧ b ≠ b7))) b1 := (.inr ⟨by omega, by omega, by omega⟩)
      have f24 : ((fun b => F b ∨ (w0.heap.size ≤ b ∧ b < w22.heap.size ∧ b ≠ b7))) b4 := (.inr ⟨by omega, by omega, by omega⟩)
      refine seq_call r (c_prog_Store_None (F := (fun b => F b ∨ (w0.heap.size ≤ b ∧ b < w22.heap.size ∧ b ≠ b7))) (n := n) hF1 (D.plan_Plan_Next a0 a1) x19 ⟨150, [], [.pointer (some ⟨b1, 0, none⟩), .pointer (some ⟨b4, 0, none⟩)], cl150, rfl, fun m hm _ w' hs hz => c_free_fresh_1 (fun b hb => Nat.lt_of_lt_of_le (hF1 b hb) hz) (fun m' hm' => ih_free_fresh m' (by omega)) a0 f23 (hs.at_ f23 h_b1) a1 f24 (hs.at_ f24 h_b4)⟩) (fun R hc => y_call r rfl cl124 hc) rfl ?_
      rintro _ w25 ⟨v26, rfl, hb, hr27⟩
      refine ⟨_, rfl, fun fr r => ?_⟩
      have z_w25 := hb.size
      have h_b1 := keep hb h_b1
      have h_b4 := keep hb h_b4
      have h_b7 := keep hb h_b7
      have hB := hB.trans (hb.mono hB.size)
      have zB := hB.size
      refine seq_upd (.cells v26.cells 54 (0, 0)) r (fun R => y_storep r hr27.shape rfl rfl h_b7 ts54 rfl) rfl fun fr w28 u29 r => ?_
      have z_w28 := u29.size
      have h_b1 := u29.keep h_b1 (by omega)
      have h_b4 := u29.keep h_b4 (by omega)
      have h_b7 := u29.at_
      have hB := u29.below hB (by omega)
      have zB := hB.size
      refine wpList_nil ?_
      refine wp_ret ?_
      have hd : D.free_fresh_body r_free_fresh a0 a1 = (D.prog_Store_None (D.plan_Plan_Next a0 a1) x19 (fun _ => (D.free_fresh_1 r_free_fresh a0 a1))) := by subst hx19; exact (cond_f h10).trans (rfl)
      have hs := hr27.shape.cells
      refine ret_cell r rfl rfl h_b7 (k := 6) hs.1 ta54 ?_
      rw [← hs.2.2, hd]
      exact RepRes.fin hB hr27 u29 (by rintro b (h | ⟨h1, h2, _⟩); exact .inl h; exact .inr ⟨h1, h2⟩) (by rintro (h | ⟨_, _, h⟩); (have := hF _ h; omega); exact h rfl) (by omega) (by omega) (by omega)

theorem c_free_fresh {n : Nat} {k : Nat} (hk : n < k) : Spec_free_fresh (D.free_fresh k) n := by
  induction n using Nat.strongRecOn generalizing k with
  | _ n ih =>
    obtain ⟨k, rfl⟩ : ∃ q, k = q + 1 := ⟨k - 1, by omega⟩
    intro F w0 hF
    have h := @b_free_fresh n F (D.free_fresh k) w0 hF (fun m hm => ih m hm (by omega))
    exact h

def D.free_Fresh (j : Nat) (a0 : Plan) : T Unit := (D.free_fresh j a0 0)

set_option maxRecDepth 20000 in
set_option maxHeartbeats 1000000 in
theorem c_free_Fresh {n : Nat} {F : Nat → Prop} {j : Nat} {w0 : World} (hF : ∀ b, F b → b < w0.heap.size) (hj : n < j)
    (a0 : Plan) :
    Calls Try.prog 86 #[.agg (planC a0).toArray] w0 (RepRes Try.prog encNone n (D.free_Fresh j a0) F w0) := by
  refine enter (l := [.agg (planC a0).toArray]) Try.func86 rfl 5 rfl rfl fun fr r => ?_
  have hB := Below.refl w0.heap.size w0
  refine wp_seq ?_
  refine wp_region_lit ?_
  refine seq_new (.cells ((planC a0)).toArray 24 (0, 0)) r (fun R => y_box r (v := (.agg (planC a0).toArray)) rfl) rfl fun fr b1 w2 n3 r => ?_
  have e_b1 := n3.eq
  have z_w2 := n3.size
  have h_b1 := n3.at_
  have hB := hB.trans (n3.below.mono hB.size)
  have zB := hB.size
  refine seq_new (.cells (progCells false encNone.zero 0 0 0 0 .nilFunc) 54 (0, 0)) r (fun R => y_alloc tz54) rfl fun fr b4 w5 n6 r => ?_
  have h_b1 := keep n6.below h_b1
  have e_b4 := n6.eq
  have z_w5 := n6.size
  have h_b4 := n6.at_
  have hB := hB.trans (n6.below.mono hB.size)
  have zB := hB.size
  refine wpList_nil ?_
  refine wp_seq ?_
  refine wp_region_lit ?_
  refine seq_val (.agg (planC a0).toArray) r (fun R => y_load_agg r (cs := (planC a0)) (n := 6) rfl h_b1 ta24 rfl) rfl fun fr r => ?_
  have hF1 : ∀ b, (fun b => F b ∨ (w0.heap.size ≤ b ∧ b < w5.heap.size ∧ b ≠ b4)) b → b < w5.heap.size := by rintro b (h | h); exact Nat.lt_of_lt_of_le (hF b h) hB.size; exact h.2.1
  refine seq_call r ((c_free_fresh (k := j) (n := n) (by omega)) (fun b => F b ∨ (w0.heap.size ≤ b ∧ b < w5.heap.size ∧ b ≠ b4)) _ hF1 a0 0) (fun R hc => y_call r rfl cl123 hc) rfl ?_
  rintro _ w7 ⟨v8, rfl, hb, hr9⟩
  refine ⟨_, rfl, fun fr r => ?_⟩
  have z_w7 := hb.size
  have h_b1 := keep hb h_b1
  have h_b4 := keep hb h_b4
  have hB := hB.trans (hb.mono hB.size)
  have zB := hB.size
  refine seq_upd (.cells v8.cells 54 (0, 0)) r (fun R => y_storep r hr9.shape rfl rfl h_b4 ts54 rfl) rfl fun fr w10 u11 r => ?_
  have z_w10 := u11.size
  have h_b1 := u11.keep h_b1 (by omega)
  have h_b4 := u11.at_
  have hB := u11.below hB (by omega)
  have zB := hB.size
  refine wpList_nil ?_
  refine wp_ret ?_
  have hd : D.free_Fresh j a0 = (D.free_fresh j a0 0) := rfl
  have hs := hr9.shape.cells
  refine ret_cell r rfl rfl h_b4 (k := 6) hs.1 ta54 ?_
  rw [← hs.2.2, hd]
  exact RepRes.fin hB hr9 u11 (by rintro b (h | ⟨h1, h2, _⟩); exact .inl h; exact .inr ⟨h1, h2⟩) (by rintro (h | ⟨_, _, h⟩); (have := hF _ h; omega); exact h rfl) (by omega) (by omega) (by omega)

end Go.Proofs.Ytphnnjiaiemkcaa

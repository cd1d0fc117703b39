/- Some of our texts, one behind the other. -/
import Derived.Test.YtbbipmelhmgmfaaRows
import Derived.Test.YtbbipmelhmgmfaaFmM2
import Derived.Test.YtbbipmelhmgmfaaFmMems
set_option linter.all false
/- within: are numbers in their bounds? -/
namespace Go.Proofs.Ytbbipmelhmgmfaa
open Go.RowKit
def D.plan_within (l : List Bound) : Bool := l.all fun b => !(decide (b.n < b.least)) && !(decide (b.n > b.most))

theorem within_no {l : List Bound} {k : Nat} (h : k < l.length) (hb : l[k].n < l[k].least ∨ l[k].n > l[k].most) : D.plan_within l = false := by
  unfold D.plan_within
  rw [List.all_eq_false]
  refine ⟨l[k], List.getElem_mem h, ?_⟩
  rcases hb with hb | hb <;> simp [hb]

theorem within_step {l : List Bound} {k : Nat} (h : k < l.length) (hw : D.plan_within (l.take k) = true) (h1 : ¬ l[k].n < l[k].least) (h2 : ¬ l[k].n > l[k].most) : D.plan_within (l.take (k + 1)) = true := by
  unfold D.plan_within at *
  rw [List.take_succ_eq_append_getElem h, List.all_append, hw]
  simp only [List.all_cons, List.all_nil, Bool.true_and, Bool.and_true, Bool.and_eq_true, Bool.not_eq_true', decide_eq_false_iff_not]
  exact ⟨h1, h2⟩

theorem tsb : sized Try.prog 98 3 = true := by kernel_rfl

theorem tab : tyA Try.prog 98 3 = true := by kernel_rfl

theorem tib : tyO Try.prog 3 = true := by kernel_rfl

theorem isb : isSlice Try.prog 107 = true := by kernel_rfl

theorem slb : sliceTy Try.prog 107 3 = true := by kernel_rfl

theorem zb : zeroOf Try.prog 98 = some (.agg #[.int .i64 0, .int .i64 0, .int .i64 0]) := by kernel_rfl

theorem fb0 : fieldOff Try.prog 98 0 0 = true := by kernel_rfl

theorem fb1 : fieldOff Try.prog 98 1 1 = true := by kernel_rfl

theorem fb2 : fieldOff Try.prog 98 2 2 = true := by kernel_rfl

set_option maxRecDepth 20000 in
set_option maxHeartbeats 1000000 in
theorem c_plan_within (w0 : World) (l : List Bound) {b : Nat} (hb : w0.heap[b]? = some (.cells (boundsC l).toArray 98 (0, 0))) (hl : l.length ≤ 8) : Calls Try.prog 49 #[.slice (some ⟨b, 0, none⟩) l.length l.length] w0 (PureRes (.bool (D.plan_within l)) w0) := by
  refine enter (l := [.slice (some ⟨b, 0, none⟩) l.length l.length]) Try.func49 rfl 24 rfl rfl fun a0 r => ?_
  refine wp_seq (wp_region_lit ?_)
  refine seq_val (.bool false) r (fun R => y_assign r rfl) rfl fun a0 r => wpList_nil ?_
  refine wp_seq (wp_seq (wp_region_lit ?_))
  refine seq_val (.slice (some ⟨b, 0, none⟩) l.length l.length) r (fun R => y_move r rfl) rfl fun a0 r => ?_
  refine seq_val (.int .i64 l.length) r (fun R => y_len r isb rfl) rfl fun a0 r => ?_
  refine seq_val (.int .i64 0) r (fun R => y_move r rfl) rfl fun a0 r => wpList_nil ?_
  refine wp_block ?_
  refine wp_loopF (X := Nat) (fun k => [(5, .slice (some ⟨b, 0, none⟩) l.length l.length), (6, .int .i64 l.length), (7, .int .i64 k)])
    (fun k w => k ≤ l.length ∧ Below w0.heap.size w0 w ∧ D.plan_within (l.take k) = true) (fun k => l.length - k) 0 r (hs_cons rfl (hs_cons rfl (hs_cons rfl hs_nil))) ⟨by omega, Below.refl _ _, by simp [D.plan_within]⟩ ?_
  rintro k a0 w g r ⟨hk, hB, hw⟩
  have hbw : w.heap[b]? = some (.cells (boundsC l).toArray 98 (0, 0)) := by rw [hB.block b (lt_of_block hb)]; exact hb
  refine wp_seq (wp_region_lit ?_)
  refine seq_val (.bool (decide ((k : Int) < l.length))) r (fun R => y_bin r (u := .int .i64 k) (u' := .int .i64 l.length) rfl rfl rfl rfl) rfl fun a0 r => wpList_nil ?_
  refine wp_seq (wp_cond_split (t := decide ((k : Int) < l.length)) (r.ev rfl) (fun h => ?_) (fun h => ?_))
  · have hkl : k < l.length := by simpa using h
    refine wp_skip ?_
    refine wp_seq (wp_block ?_)
    refine wp_seq (wp_region_lit ?_)
    refine seq_val (.pointer (some ⟨b, 0 + (k : Int).toNat * 3, none⟩)) r (fun R => y_indexAddr r slb rfl rfl (by omega) (by omega)) rfl fun a0 r => ?_
    refine seq_val (.agg (boundC l[k]).toArray) r (fun R => y_load_agg r (cs := boundC l[k]) (n := 3) rfl hbw tab (by have := flat_at (f := boundC) (n := 3) (fun _ => rfl) l k hkl; simpa [boundsC] using this)) rfl fun a0 r => ?_
    refine seq_new (.cells #[.int .i64 0, .int .i64 0, .int .i64 0] 98 (0, 0)) r (fun R => y_alloc zb) rfl fun a0 b1 w1 n1 r => ?_
    have e1 := n1.eq
    have z1 := n1.size
    have h1 := n1.at_
    have zB := hB.size
    have hB := hB.trans (n1.below.mono hB.size)
    refine seq_upd (.cells (boundC l[k]).toArray 98 (0, 0)) r (fun R => y_store r (v := .agg (boundC l[k]).toArray) rfl rfl h1 tsb (Nat.le_of_ble_eq_true rfl) rfl rfl) rfl fun a0 w2 u2 r => wpList_nil ?_
    have z2 := u2.size
    have h2 := u2.at_
    have hB := u2.below hB (by omega)
    refine wp_seq (wp_region_lit ?_)
    refine seq_val (.pointer (some ⟨b1, 0, none⟩)) r (fun R => y_fieldAddr r (o := 0) rfl fb0) rfl fun a0 r => ?_
    refine seq_val (.int .i64 l[k].n) r (fun R => y_load_one r rfl h2 tib rfl) rfl fun a0 r => ?_
    refine seq_val (.pointer (some ⟨b1, 1, none⟩)) r (fun R => y_fieldAddr r (o := 0) rfl fb1) rfl fun a0 r => ?_
    refine seq_val (.int .i64 l[k].least) r (fun R => y_load_one r rfl h2 tib rfl) rfl fun a0 r => ?_
    refine seq_val (.bool (decide (l[k].n < l[k].least))) r (fun R => y_bin r (u := .int .i64 l[k].n) (u' := .int .i64 l[k].least) rfl rfl rfl rfl) rfl fun a0 r => ?_
    refine seq_val (.bool (decide (l[k].n < l[k].least))) r (fun R => y_move r rfl) rfl fun a0 r => ?_
    have wi : IntKind.i64.wrap ((k : Int) + 1) = ((k + 1 : Nat) : Int) := by
      have : IntKind.i64.wrap ((k : Int) + 1) = (k : Int) + 1 := by simp only [IntKind.wrap]; simp [IntKind.signed, IntKind.bits]; omega
      rw [this]; omega
    refine seq_split (decide (l[k].n < l[k].least)) (fun h1 => ?_) (fun h1 => ?_)
    · have hn := within_no hkl (.inl (of_decide_eq_true h1))
      refine seq_skip r rfl rfl rfl (v := .bool true) (congrArg Value.bool h1) (by simp [boolOf]) fun a0 r => ?_
      refine seq_skip r rfl rfl rfl (v := .bool true) (congrArg Value.bool h1) (by simp [boolOf]) fun a0 r => ?_
      refine seq_skip r rfl rfl rfl (v := .bool true) (congrArg Value.bool h1) (by simp [boolOf]) fun a0 r => ?_
      refine seq_skip r rfl rfl rfl (v := .bool true) (congrArg Value.bool h1) (by simp [boolOf]) fun a0 r => ?_
      refine seq_skip r rfl rfl rfl (v := .bool true) (congrArg Value.bool h1) (by simp [boolOf]) fun a0 r => ?_
      refine seq_val (.bool true) r (fun R => y_pick r (b := true) (congrArg Value.bool h1) rfl) rfl fun a0 r => wpList_nil ?_
      refine wp_cond_split (t := true) (r.ev rfl) (fun _ => ?_) (fun h => by cases h)
      refine wp_seq (wp_region_lit ?_)
      refine seq_val (.bool false) r (fun R => y_assign r rfl) rfl fun a0 r => wpList_nil ?_
      refine wp_ret ?_
      refine ret_tmp r rfl (v := .bool false) rfl ?_
      rw [hn]
      exact ⟨rfl, hB⟩
    · refine seq_want r rfl rfl rfl (congrArg Value.bool h1) ?_
      refine seq_val (.pointer (some ⟨b1, 0, none⟩)) r (fun R => y_fieldAddr r (o := 0) rfl fb0) rfl fun a0 r => ?_
      refine seq_want r rfl rfl rfl (congrArg Value.bool h1) ?_
      refine seq_val (.int .i64 l[k].n) r (fun R => y_load_one r rfl h2 tib rfl) rfl fun a0 r => ?_
      refine seq_want r rfl rfl rfl (congrArg Value.bool h1) ?_
      refine seq_val (.pointer (some ⟨b1, 2, none⟩)) r (fun R => y_fieldAddr r (o := 0) rfl fb2) rfl fun a0 r => ?_
      refine seq_want r rfl rfl rfl (congrArg Value.bool h1) ?_
      refine seq_val (.int .i64 l[k].most) r (fun R => y_load_one r rfl h2 tib rfl) rfl fun a0 r => ?_
      refine seq_want r rfl rfl rfl (congrArg Value.bool h1) ?_
      refine seq_val (.bool (decide (l[k].n > l[k].most))) r (fun R => y_bin r (u := .int .i64 l[k].n) (u' := .int .i64 l[k].most) rfl rfl rfl rfl) rfl fun a0 r => ?_
      refine seq_val (.bool (decide (l[k].n > l[k].most))) r (fun R => y_pick r (b := false) (congrArg Value.bool h1) rfl) rfl fun a0 r => wpList_nil ?_
      refine wp_cond_split (t := decide (l[k].n > l[k].most)) (r.ev rfl) (fun h2' => ?_) (fun h2' => ?_)
      · have hn := within_no hkl (.inr (of_decide_eq_true h2'))
        refine wp_seq (wp_region_lit ?_)
        refine seq_val (.bool false) r (fun R => y_assign r rfl) rfl fun a0 r => wpList_nil ?_
        refine wp_ret ?_
        refine ret_tmp r rfl (v := .bool false) rfl ?_
        rw [hn]
        exact ⟨rfl, hB⟩
      · refine wp_skip ?_
        refine wp_region_lit ?_
        refine seq_val (.int .i64 ((k + 1 : Nat) : Int)) r (fun R => y_bin r (u := .int .i64 k) (u' := .int .i64 1) rfl rfl rfl (congrArg (fun z => Result.ok (Value.int .i64 z) _) wi)) rfl fun a0 r => ?_
        refine seq_val (.int .i64 ((k + 1 : Nat) : Int)) r (fun R => y_move r rfl) rfl fun a0 r => wpList_nil ?_
        exact ⟨k + 1, _, r, hs_cons rfl (hs_cons rfl (hs_cons rfl hs_nil)), ⟨hkl, hB, within_step hkl hw (of_decide_eq_false h1) (of_decide_eq_false h2')⟩, by omega⟩
  · have hkl : k = l.length := by have := of_decide_eq_false h; omega
    subst hkl
    refine wp_exit ?_
    refine wp_seq (wp_region_lit ?_)
    refine seq_val (.bool true) r (fun R => y_assign r rfl) rfl fun a0 r => wpList_nil ?_
    refine wp_ret ?_
    refine ret_tmp r rfl (v := .bool true) rfl ?_
    rw [List.take_length] at hw
    rw [hw]
    exact ⟨rfl, hB⟩

set_option maxRecDepth 20000 in
set_option maxHeartbeats 1000000 in
theorem c_plan_within_nil (w0 : World) : Calls Try.prog 49 #[.slice none 0 0] w0 (PureRes (.bool (D.plan_within [])) w0) := by
  refine enter (l := [.slice none 0 0]) Try.func49 rfl 24 rfl rfl fun a0 r => ?_
  refine wp_seq (wp_region_lit ?_)
  refine seq_val (.bool false) r (fun R => y_assign r rfl) rfl fun a0 r => wpList_nil ?_
  refine wp_seq (wp_seq (wp_region_lit ?_))
  refine seq_val (.slice none 0 0) r (fun R => y_move r rfl) rfl fun a0 r => ?_
  refine seq_val (.int .i64 ((0 : Nat) : Int)) r (fun R => y_len r isb rfl) rfl fun a0 r => ?_
  refine seq_val (.int .i64 0) r (fun R => y_move r rfl) rfl fun a0 r => wpList_nil ?_
  refine wp_block ?_
  refine wp_loopF (X := Unit) (fun _ => [(6, .int .i64 ((0 : Nat) : Int)), (7, .int .i64 0)]) (fun _ w => w = w0) (fun _ => 0) () r (hs_cons rfl (hs_cons rfl hs_nil)) rfl ?_
  rintro _ a0 w g r rfl
  refine wp_seq (wp_region_lit ?_)
  refine seq_val (.bool (decide ((0 : Int) < ((0 : Nat) : Int)))) r (fun R => y_bin r (u := .int .i64 0) (u' := .int .i64 ((0 : Nat) : Int)) rfl rfl rfl rfl) rfl fun a0 r => wpList_nil ?_
  refine wp_seq (wp_cond_split (t := decide ((0 : Int) < ((0 : Nat) : Int))) (r.ev rfl) (fun h => by cases h) (fun h => ?_))
  refine wp_exit ?_
  refine wp_seq (wp_region_lit ?_)
  refine seq_val (.bool true) r (fun R => y_assign r rfl) rfl fun a0 r => wpList_nil ?_
  refine wp_ret ?_
  refine ret_tmp r rfl (v := .bool true) rfl ?_
  exact ⟨rfl, Below.refl _ _⟩

end Go.Proofs.Ytbbipmelhmgmfaa

/- Written by a program of ours (wip/gen.py): plans -/
set_option linter.unusedVariables false
set_option maxRecDepth 20000
set_option maxHeartbeats 2000000
namespace Go.Proofs.Ytbbipmelhmgmfaa
open Go.RowKit
theorem cl26 : callable Try.prog 26 = true := by kernel_rfl

theorem cl27 : callable Try.prog 27 = true := by kernel_rfl

theorem cl47 : callable Try.prog 47 = true := by kernel_rfl

theorem cl48 : callable Try.prog 48 = true := by kernel_rfl

theorem cl49 : callable Try.prog 49 = true := by kernel_rfl

theorem cl50 : callable Try.prog 50 = true := by kernel_rfl

theorem cl6 : callable Try.prog 6 = true := by kernel_rfl

theorem cl60 : callable Try.prog 60 = true := by kernel_rfl

theorem cl66 : callable Try.prog 66 = true := by kernel_rfl

theorem fo23_0 : fieldOff Try.prog 23 0 0 = true := by kernel_rfl

theorem fo23_1 : fieldOff Try.prog 23 1 1 = true := by kernel_rfl

theorem fo23_2 : fieldOff Try.prog 23 2 2 = true := by kernel_rfl

theorem fo23_3 : fieldOff Try.prog 23 3 3 = true := by kernel_rfl

theorem fo23_4 : fieldOff Try.prog 23 4 4 = true := by kernel_rfl

theorem fo23_5 : fieldOff Try.prog 23 5 5 = true := by kernel_rfl

theorem ta23 : tyA Try.prog 23 6 = true := by kernel_rfl

theorem ta98 : tyA Try.prog 98 3 = true := by kernel_rfl

theorem ts98 : sized Try.prog 98 3 = true := by kernel_rfl

theorem tz98 : zeroOf Try.prog 98 = some (.agg (boundC (⟨0, 0, 0⟩ : Bound)).toArray) := by kernel_rfl

def D.plan_Plan_Formed (a0 : Plan) : Bool := (bif (D.plan_within ([(⟨a0.nodes, 1, 1048576⟩ : Bound), (⟨a0.threads, 1, 16⟩ : Bound), (⟨a0.domains, 0, 64⟩ : Bound), (⟨a0.buckets, 1, 256⟩ : Bound), (⟨a0.gen, 1, 1073741823⟩ : Bound)])) then (D.plan_within ([(⟨a0.retire, (IntKind.i64.wrap ((IntKind.i64.wrap (3 * a0.threads)) + 1)), 1024⟩ : Bound)])) else false)

theorem c_plan_Plan_Formed (w0 : World) 
    (a0 : Plan) :
    Calls Try.prog 26 #[.agg (planC a0).toArray] w0 (PureRes (.bool (D.plan_Plan_Formed a0)) w0) := by
 refine enter Try.func26 rfl 31 rfl rfl fun fr r => ?_
 have hB := Below.refl w0.heap.size w0
 refine wsr ?_
 refine seq_new (.cells ((planC a0)).toArray 23 (0, 0)) r (fun R => y_box r (v := (.agg (planC a0).toArray)) rfl) rfl fun fr b1 w2 n3 r => ?_
 obtain ⟨e_b1, z_w2, h_b1, hB, zB⟩ := n3.all hB
 refine seq_val (.bool false) r (fun R => y_assign r rfl) rfl fun fr r => ?_
 refine wn ?_
 refine wsr ?_
 refine seq_val _ r (fun R => y_fieldAddr r (o := 0) rfl fo23_0) rfl fun fr r => ?_
 refine seq_val (I a0.nodes) r (fun R => y_load_one r rfl h_b1 to3 rfl) rfl fun fr r => ?_
 refine seq_val (.agg (boundC (⟨a0.nodes, 1, 1048576⟩ : Bound)).toArray) r (fun R => y_build r (by kernel_rfl)) rfl fun fr r => ?_
 refine seq_val _ r (fun R => y_fieldAddr r (o := 0) rfl fo23_1) rfl fun fr r => ?_
 refine seq_val (I a0.threads) r (fun R => y_load_one r rfl h_b1 to3 rfl) rfl fun fr r => ?_
 refine seq_val (.agg (boundC (⟨a0.threads, 1, 16⟩ : Bound)).toArray) r (fun R => y_build r (by kernel_rfl)) rfl fun fr r => ?_
 refine seq_val _ r (fun R => y_fieldAddr r (o := 0) rfl fo23_3) rfl fun fr r => ?_
 refine seq_val (I a0.domains) r (fun R => y_load_one r rfl h_b1 to3 rfl) rfl fun fr r => ?_
 refine seq_val (.agg (boundC (⟨a0.domains, 0, 64⟩ : Bound)).toArray) r (fun R => y_build r (by kernel_rfl)) rfl fun fr r => ?_
 refine seq_val _ r (fun R => y_fieldAddr r (o := 0) rfl fo23_4) rfl fun fr r => ?_
 refine seq_val (I a0.buckets) r (fun R => y_load_one r rfl h_b1 to3 rfl) rfl fun fr r => ?_
 refine seq_val (.agg (boundC (⟨a0.buckets, 1, 256⟩ : Bound)).toArray) r (fun R => y_build r (by kernel_rfl)) rfl fun fr r => ?_
 refine seq_val _ r (fun R => y_fieldAddr r (o := 0) rfl fo23_5) rfl fun fr r => ?_
 refine seq_val (I a0.gen) r (fun R => y_load_one r rfl h_b1 to3 rfl) rfl fun fr r => ?_
 refine seq_val (.agg (boundC (⟨a0.gen, 1, 1073741823⟩ : Bound)).toArray) r (fun R => y_build r (by kernel_rfl)) rfl fun fr r => ?_
 refine seq_newS (.cells ((boundsC [(⟨a0.nodes, 1, 1048576⟩ : Bound), (⟨a0.threads, 1, 16⟩ : Bound), (⟨a0.domains, 0, 64⟩ : Bound), (⟨a0.buckets, 1, 256⟩ : Bound), (⟨a0.gen, 1, 1073741823⟩ : Bound)])).toArray 98 (0, 0)) 5 r (fun R => y_bslice r (by kernel_rfl)) rfl fun fr b4 w5 n6 r => ?_
 have h_b1 := keep n6.below h_b1
 obtain ⟨e_b4, z_w5, h_b4, hB, zB⟩ := n6.all hB
 refine seq_call r (c_plan_within w5 ([(⟨a0.nodes, 1, 1048576⟩ : Bound), (⟨a0.threads, 1, 16⟩ : Bound), (⟨a0.domains, 0, 64⟩ : Bound), (⟨a0.buckets, 1, 256⟩ : Bound), (⟨a0.gen, 1, 1073741823⟩ : Bound)]) h_b4 (by first | assumption | decide | exact guardI_eq (by assumption) | (simp; done))) (fun R hc => y_call r rfl cl49 hc) rfl ?_
 rintro _ w7 ⟨rfl, hb⟩
 refine ⟨_, rfl, fun fr r => ?_⟩
 have z_w7 := hb.size
 have h_b1 := keep hb h_b1
 have h_b4 := keep hb h_b4
 obtain ⟨hB, zB⟩ := bon hb hB
 refine seq_val (.bool (D.plan_within ([(⟨a0.nodes, 1, 1048576⟩ : Bound), (⟨a0.threads, 1, 16⟩ : Bound), (⟨a0.domains, 0, 64⟩ : Bound), (⟨a0.buckets, 1, 256⟩ : Bound), (⟨a0.gen, 1, 1073741823⟩ : Bound)]))) r (fun R => y_move r rfl) rfl fun fr r => ?_
 refine seq_split (D.plan_within ([(⟨a0.nodes, 1, 1048576⟩ : Bound), (⟨a0.threads, 1, 16⟩ : Bound), (⟨a0.domains, 0, 64⟩ : Bound), (⟨a0.buckets, 1, 256⟩ : Bound), (⟨a0.gen, 1, 1073741823⟩ : Bound)])) (fun h8 => ?_) (fun h8 => ?_)
 ·
  refine s1 r h8 ?_
  refine seq_val _ r (fun R => y_fieldAddr r (o := 0) rfl fo23_2) rfl fun fr r => ?_
  refine s1 r h8 ?_
  refine seq_val (I a0.retire) r (fun R => y_load_one r rfl h_b1 to3 rfl) rfl fun fr r => ?_
  refine s1 r h8 ?_
  refine seq_val _ r (fun R => y_fieldAddr r (o := 0) rfl fo23_1) rfl fun fr r => ?_
  refine s1 r h8 ?_
  refine seq_val (I a0.threads) r (fun R => y_load_one r rfl h_b1 to3 rfl) rfl fun fr r => ?_
  refine s1 r h8 ?_
  refine seq_val _ r (fun R => y_bin r rfl rfl rfl rfl) rfl fun fr r => ?_
  refine s1 r h8 ?_
  refine seq_val _ r (fun R => y_bin r rfl rfl rfl rfl) rfl fun fr r => ?_
  refine s1 r h8 ?_
  refine seq_val (.agg (boundC (⟨a0.retire, (W ((W (3 * a0.threads)) + 1)), 1024⟩ : Bound)).toArray) r (fun R => y_build r (by kernel_rfl)) rfl fun fr r => ?_
  refine s1 r h8 ?_
  refine seq_newS (.cells ((boundsC [(⟨a0.retire, (W ((W (3 * a0.threads)) + 1)), 1024⟩ : Bound)])).toArray 98 (0, 0)) 1 r (fun R => y_bslice r (by kernel_rfl)) rfl fun fr b9 w10 n11 r => ?_
  have h_b1 := keep n11.below h_b1
  have h_b4 := keep n11.below h_b4
  obtain ⟨e_b9, z_w10, h_b9, hB, zB⟩ := n11.all hB
  refine s1 r h8 ?_
  refine seq_call r (c_plan_within w10 ([(⟨a0.retire, (W ((W (3 * a0.threads)) + 1)), 1024⟩ : Bound)]) h_b9 (by first | assumption | decide | exact guardI_eq (by assumption) | (simp; done))) (fun R hc => y_call r rfl cl49 hc) rfl ?_
  rintro _ w12 ⟨rfl, hb⟩
  refine ⟨_, rfl, fun fr r => ?_⟩
  have z_w12 := hb.size
  have h_b1 := keep hb h_b1
  have h_b4 := keep hb h_b4
  have h_b9 := keep hb h_b9
  obtain ⟨hB, zB⟩ := bon hb hB
  refine seq_val (.bool (D.plan_within ([(⟨a0.retire, (W ((W (3 * a0.threads)) + 1)), 1024⟩ : Bound)]))) r (fun R => y_pick r (b := true) (congrArg Value.bool h8) rfl) rfl fun fr r => ?_
  refine seq_val (.bool (D.plan_within ([(⟨a0.retire, (W ((W (3 * a0.threads)) + 1)), 1024⟩ : Bound)]))) r (fun R => y_assign r rfl) rfl fun fr r => ?_
  refine wn ?_
  refine wp_ret ?_
  have hd : D.plan_Plan_Formed a0 = (D.plan_within ([(⟨a0.retire, (W ((W (3 * a0.threads)) + 1)), 1024⟩ : Bound)])) := (cond_t h8).trans (rfl)
  refine ret_tmp r rfl rfl ?_
  rw [hd]
  exact ⟨rfl, hB⟩
 ·
  refine s0 r h8 fun fr r => ?_
  refine s0 r h8 fun fr r => ?_
  refine s0 r h8 fun fr r => ?_
  refine s0 r h8 fun fr r => ?_
  refine s0 r h8 fun fr r => ?_
  refine s0 r h8 fun fr r => ?_
  refine s0 r h8 fun fr r => ?_
  refine s0 r h8 fun fr r => ?_
  refine s0 r h8 fun fr r => ?_
  refine seq_val (.bool false) r (fun R => y_pick r (b := false) (congrArg Value.bool h8) rfl) rfl fun fr r => ?_
  refine seq_val (.bool false) r (fun R => y_assign r rfl) rfl fun fr r => ?_
  refine wn ?_
  refine wp_ret ?_
  have hd : D.plan_Plan_Formed a0 = false := (cond_f h8).trans (rfl)
  refine ret_tmp r rfl rfl ?_
  rw [hd]
  exact ⟨rfl, hB⟩

def D.plan_Plan_cells (a0 : Plan) : Int := (maxI 2 a0.buckets)

theorem c_plan_Plan_cells (w0 : World) 
    (a0 : Plan) :
    Calls Try.prog 66 #[.agg (planC a0).toArray] w0 (PureRes (.int .i64 (D.plan_Plan_cells a0)) w0) := by
 refine enter Try.func66 rfl 6 rfl rfl fun fr r => ?_
 have hB := Below.refl w0.heap.size w0
 refine wsr ?_
 refine seq_new (.cells ((planC a0)).toArray 23 (0, 0)) r (fun R => y_box r (v := (.agg (planC a0).toArray)) rfl) rfl fun fr b1 w2 n3 r => ?_
 obtain ⟨e_b1, z_w2, h_b1, hB, zB⟩ := n3.all hB
 refine seq_val (I 0) r (fun R => y_assign r rfl) rfl fun fr r => ?_
 refine wn ?_
 refine wsr ?_
 refine seq_val _ r (fun R => y_fieldAddr r (o := 0) rfl fo23_4) rfl fun fr r => ?_
 refine seq_val (I a0.buckets) r (fun R => y_load_one r rfl h_b1 to3 rfl) rfl fun fr r => ?_
 refine seq_val (I (maxI 2 a0.buckets)) r (fun R => y_max r (m := 2) (n := a0.buckets) rfl rfl) rfl fun fr r => ?_
 refine seq_val (I (maxI 2 a0.buckets)) r (fun R => y_assign r rfl) rfl fun fr r => ?_
 refine wn ?_
 refine wp_ret ?_
 refine ret_tmp r rfl rfl ?_
 exact ⟨rfl, hB⟩

def D.plan_Plan_hazards (a0 : Plan) : Int := (IntKind.i64.wrap (1 + (IntKind.i64.wrap (a0.domains * (IntKind.i64.wrap (1 + (D.plan_Plan_cells a0)))))))

theorem c_plan_Plan_hazards (w0 : World) 
    (a0 : Plan) :
    Calls Try.prog 60 #[.agg (planC a0).toArray] w0 (PureRes (.int .i64 (D.plan_Plan_hazards a0)) w0) := by
 refine enter Try.func60 rfl 10 rfl rfl fun fr r => ?_
 have hB := Below.refl w0.heap.size w0
 refine wsr ?_
 refine seq_new (.cells ((planC a0)).toArray 23 (0, 0)) r (fun R => y_box r (v := (.agg (planC a0).toArray)) rfl) rfl fun fr b1 w2 n3 r => ?_
 obtain ⟨e_b1, z_w2, h_b1, hB, zB⟩ := n3.all hB
 refine seq_val (I 0) r (fun R => y_assign r rfl) rfl fun fr r => ?_
 refine wn ?_
 refine wp_seq ?_
 refine wp_drawnF 7 [.val (.pointer (some ⟨b1, 3, none⟩)), .val (I a0.domains), .val (.agg (planC a0).toArray), .val (I (D.plan_Plan_cells a0)), .val (I (W (1 + (D.plan_Plan_cells a0)))), .val (I (W (a0.domains * (W (1 + (D.plan_Plan_cells a0)))))), .val (I (W (1 + (W (a0.domains * (W (1 + (D.plan_Plan_cells a0))))))))] mixed r (by kernel_rfl) (within_cons (by exact trivial) (within_cons (by exact trivial) (within_cons (by exact trivial) (within_cons (by exact trivial) (within_cons (by exact trivial) (within_cons (by exact trivial) (within_cons (by exact trivial) within_nil))))))) ?_ ?_
 ·
  refine ec r (fun _ u _ b d s => y_fieldAddr s (b := b1) (o := 0) rfl fo23_3 bz) ?_
  refine ec r (fun _ u _ b d s => y_load_one s d.1 (keep b h_b1) to3 rfl bz) ?_
  refine ec r (fun _ u _ b d s => y_load_agg s (cs := (planC a0)) (n := 6) rfl (keep b h_b1) ta23 rfl bz) ?_
  refine ec r (fun fr1 u w' hb' hd r' => y_call r' (args := [(.agg (planC a0).toArray)]) (lc hd.1 l0) cl66 ((c_plan_Plan_cells _ a0).mono (by rintro _ w2 ⟨rfl, hb2⟩; exact ⟨_, rfl, hb2, rfl⟩))) ?_
  refine ec r (fun _ u _ b d s => y_bin s rfl d.1 rfl rfl bz) ?_
  refine ec r (fun _ u _ b d s => y_bin s d.1 d.2.1 rfl rfl bz) ?_
  refine ec r (fun _ u _ b d s => y_bin s rfl d.1 rfl rfl bz) ?_
  exact each_nil
 ·
  intro fr u w4 hb hΦ hne r
  have r := r.congr (sc (hΦ 6 (by decide)) (sc (hΦ 5 (by decide)) (sc (hΦ 4 (by decide)) (sc (hΦ 3 (by decide)) (sc (hΦ 2 (by decide)) (sc (hΦ 1 (by decide)) (sc (hΦ 0 (by decide)) rfl)))))))
  have z_w4 := hb.size
  have h_b1 := keep hb h_b1
  obtain ⟨hB, zB⟩ := bon hb hB
  refine seq_val (I (W (1 + (W (a0.domains * (W (1 + (D.plan_Plan_cells a0)))))))) r (fun R => y_assign r rfl) rfl fun fr r => ?_
  refine wn ?_
  refine wp_ret ?_
  refine ret_tmp r rfl rfl ?_
  exact ⟨rfl, hB⟩

def D.plan_Plan_counts (a0 : Plan) : Int := (IntKind.i64.wrap ((D.plan_Plan_hazards a0) + (IntKind.i64.wrap (a0.threads * 3))))

theorem c_plan_Plan_counts (w0 : World) 
    (a0 : Plan) :
    Calls Try.prog 50 #[.agg (planC a0).toArray] w0 (PureRes (.int .i64 (D.plan_Plan_counts a0)) w0) := by
 refine enter Try.func50 rfl 9 rfl rfl fun fr r => ?_
 have hB := Below.refl w0.heap.size w0
 refine wsr ?_
 refine seq_new (.cells ((planC a0)).toArray 23 (0, 0)) r (fun R => y_box r (v := (.agg (planC a0).toArray)) rfl) rfl fun fr b1 w2 n3 r => ?_
 obtain ⟨e_b1, z_w2, h_b1, hB, zB⟩ := n3.all hB
 refine seq_val (I 0) r (fun R => y_assign r rfl) rfl fun fr r => ?_
 refine wn ?_
 refine wp_seq ?_
 refine wp_drawnF 6 [.val (.agg (planC a0).toArray), .val (I (D.plan_Plan_hazards a0)), .val (.pointer (some ⟨b1, 1, none⟩)), .val (I a0.threads), .val (I (W (a0.threads * 3))), .val (I (W ((D.plan_Plan_hazards a0) + (W (a0.threads * 3)))))] mixed r (by kernel_rfl) (within_cons (by exact trivial) (within_cons (by exact trivial) (within_cons (by exact trivial) (within_cons (by exact trivial) (within_cons (by exact trivial) (within_cons (by exact trivial) within_nil)))))) ?_ ?_
 ·
  refine ec r (fun _ u _ b d s => y_load_agg s (cs := (planC a0)) (n := 6) rfl (keep b h_b1) ta23 rfl bz) ?_
  refine ec r (fun fr1 u w' hb' hd r' => y_call r' (args := [(.agg (planC a0).toArray)]) (lc hd.1 l0) cl60 ((c_plan_Plan_hazards _ a0).mono (by rintro _ w2 ⟨rfl, hb2⟩; exact ⟨_, rfl, hb2, rfl⟩))) ?_
  refine ec r (fun _ u _ b d s => y_fieldAddr s (b := b1) (o := 0) rfl fo23_1 bz) ?_
  refine ec r (fun _ u _ b d s => y_load_one s d.1 (keep b h_b1) to3 rfl bz) ?_
  refine ec r (fun _ u _ b d s => y_bin s d.1 rfl rfl rfl bz) ?_
  refine ec r (fun _ u _ b d s => y_bin s d.1 d.2.1 rfl rfl bz) ?_
  exact each_nil
 ·
  intro fr u w4 hb hΦ hne r
  have r := r.congr (sc (hΦ 5 (by decide)) (sc (hΦ 4 (by decide)) (sc (hΦ 3 (by decide)) (sc (hΦ 2 (by decide)) (sc (hΦ 1 (by decide)) (sc (hΦ 0 (by decide)) rfl))))))
  have z_w4 := hb.size
  have h_b1 := keep hb h_b1
  obtain ⟨hB, zB⟩ := bon hb hB
  refine seq_val (I (W ((D.plan_Plan_hazards a0) + (W (a0.threads * 3))))) r (fun R => y_assign r rfl) rfl fun fr r => ?_
  refine wn ?_
  refine wp_ret ?_
  refine ret_tmp r rfl rfl ?_
  exact ⟨rfl, hB⟩

def D.plan_Plan_nodes (a0 : Plan) : Int := (IntKind.i64.wrap ((D.plan_Plan_counts a0) + (IntKind.i64.wrap (a0.threads * (IntKind.i64.wrap (1 + a0.retire))))))

theorem c_plan_Plan_nodes (w0 : World) 
    (a0 : Plan) :
    Calls Try.prog 27 #[.agg (planC a0).toArray] w0 (PureRes (.int .i64 (D.plan_Plan_nodes a0)) w0) := by
 refine enter Try.func27 rfl 12 rfl rfl fun fr r => ?_
 have hB := Below.refl w0.heap.size w0
 refine wsr ?_
 refine seq_new (.cells ((planC a0)).toArray 23 (0, 0)) r (fun R => y_box r (v := (.agg (planC a0).toArray)) rfl) rfl fun fr b1 w2 n3 r => ?_
 obtain ⟨e_b1, z_w2, h_b1, hB, zB⟩ := n3.all hB
 refine seq_val (I 0) r (fun R => y_assign r rfl) rfl fun fr r => ?_
 refine wn ?_
 refine wp_seq ?_
 refine wp_drawnF 9 [.val (.agg (planC a0).toArray), .val (I (D.plan_Plan_counts a0)), .val (.pointer (some ⟨b1, 1, none⟩)), .val (I a0.threads), .val (.pointer (some ⟨b1, 2, none⟩)), .val (I a0.retire), .val (I (W (1 + a0.retire))), .val (I (W (a0.threads * (W (1 + a0.retire))))), .val (I (W ((D.plan_Plan_counts a0) + (W (a0.threads * (W (1 + a0.retire)))))))] mixed r (by kernel_rfl) (within_cons (by exact trivial) (within_cons (by exact trivial) (within_cons (by exact trivial) (within_cons (by exact trivial) (within_cons (by exact trivial) (within_cons (by exact trivial) (within_cons (by exact trivial) (within_cons (by exact trivial) (within_cons (by exact trivial) within_nil))))))))) ?_ ?_
 ·
  refine ec r (fun _ u _ b d s => y_load_agg s (cs := (planC a0)) (n := 6) rfl (keep b h_b1) ta23 rfl bz) ?_
  refine ec r (fun fr1 u w' hb' hd r' => y_call r' (args := [(.agg (planC a0).toArray)]) (lc hd.1 l0) cl50 ((c_plan_Plan_counts _ a0).mono (by rintro _ w2 ⟨rfl, hb2⟩; exact ⟨_, rfl, hb2, rfl⟩))) ?_
  refine ec r (fun _ u _ b d s => y_fieldAddr s (b := b1) (o := 0) rfl fo23_1 bz) ?_
  refine ec r (fun _ u _ b d s => y_load_one s d.1 (keep b h_b1) to3 rfl bz) ?_
  refine ec r (fun _ u _ b d s => y_fieldAddr s (b := b1) (o := 0) rfl fo23_2 bz) ?_
  refine ec r (fun _ u _ b d s => y_load_one s d.1 (keep b h_b1) to3 rfl bz) ?_
  refine ec r (fun _ u _ b d s => y_bin s rfl d.1 rfl rfl bz) ?_
  refine ec r (fun _ u _ b d s => y_bin s d.1 d.2.1 rfl rfl bz) ?_
  refine ec r (fun _ u _ b d s => y_bin s d.1 d.2.1 rfl rfl bz) ?_
  exact each_nil
 ·
  intro fr u w4 hb hΦ hne r
  have r := r.congr (sc (hΦ 8 (by decide)) (sc (hΦ 7 (by decide)) (sc (hΦ 6 (by decide)) (sc (hΦ 5 (by decide)) (sc (hΦ 4 (by decide)) (sc (hΦ 3 (by decide)) (sc (hΦ 2 (by decide)) (sc (hΦ 1 (by decide)) (sc (hΦ 0 (by decide)) rfl)))))))))
  have z_w4 := hb.size
  have h_b1 := keep hb h_b1
  obtain ⟨hB, zB⟩ := bon hb hB
  refine seq_val (I (W ((D.plan_Plan_counts a0) + (W (a0.threads * (W (1 + a0.retire))))))) r (fun R => y_assign r rfl) rfl fun fr r => ?_
  refine wn ?_
  refine wp_ret ?_
  refine ret_tmp r rfl rfl ?_
  exact ⟨rfl, hB⟩

def D.plan_Plan_Size (a0 : Plan) : Int := (bif (!(D.plan_Plan_Formed a0)) then 0 else (IntKind.i64.wrap ((D.plan_Plan_nodes a0) + (IntKind.i64.wrap (a0.nodes * 5)))))

theorem c_plan_Plan_Size (w0 : World) 
    (a0 : Plan) :
    Calls Try.prog 13 #[.agg (planC a0).toArray] w0 (PureRes (.int .i64 (D.plan_Plan_Size a0)) w0) := by
 refine enter Try.func13 rfl 12 rfl rfl fun fr r => ?_
 have hB := Below.refl w0.heap.size w0
 refine wsr ?_
 refine seq_new (.cells ((planC a0)).toArray 23 (0, 0)) r (fun R => y_box r (v := (.agg (planC a0).toArray)) rfl) rfl fun fr b1 w2 n3 r => ?_
 obtain ⟨e_b1, z_w2, h_b1, hB, zB⟩ := n3.all hB
 refine seq_val (I 0) r (fun R => y_assign r rfl) rfl fun fr r => ?_
 refine wn ?_
 refine wp_seq ?_
 refine wsr ?_
 refine seq_val (.agg (planC a0).toArray) r (fun R => y_load_agg r (cs := (planC a0)) (n := 6) rfl h_b1 ta23 rfl) rfl fun fr r => ?_
 refine seq_call r (c_plan_Plan_Formed w2 a0) (fun R hc => y_call r rfl cl26 hc) rfl ?_
 rintro _ w4 ⟨rfl, hb⟩
 refine ⟨_, rfl, fun fr r => ?_⟩
 have z_w4 := hb.size
 have h_b1 := keep hb h_b1
 obtain ⟨hB, zB⟩ := bon hb hB
 refine seq_val (.bool (!(D.plan_Plan_Formed a0))) r (fun R => y_un r (u := (.bool (D.plan_Plan_Formed a0))) rfl rfl) rfl fun fr r => ?_
 refine wn ?_
 refine wp_cond_split (t := (!(D.plan_Plan_Formed a0))) (r.ev rfl) (fun h5 => ?_) (fun h5 => ?_)
 ·
  refine wsr ?_
  refine seq_val (I 0) r (fun R => y_assign r rfl) rfl fun fr r => ?_
  refine wn ?_
  refine wp_ret ?_
  have hd : D.plan_Plan_Size a0 = 0 := (cond_t h5).trans (rfl)
  refine ret_tmp r rfl rfl ?_
  rw [hd]
  exact ⟨rfl, hB⟩
 ·
  refine wp_skip ?_
  refine wp_seq ?_
  refine wp_drawnF 6 [.val (.agg (planC a0).toArray), .val (I (D.plan_Plan_nodes a0)), .val (.pointer (some ⟨b1, 0, none⟩)), .val (I a0.nodes), .val (I (W (a0.nodes * 5))), .val (I (W ((D.plan_Plan_nodes a0) + (W (a0.nodes * 5)))))] mixed r (by kernel_rfl) (within_cons (by exact trivial) (within_cons (by exact trivial) (within_cons (by exact trivial) (within_cons (by exact trivial) (within_cons (by exact trivial) (within_cons (by exact trivial) within_nil)))))) ?_ ?_
  ·
   refine ec r (fun _ u _ b d s => y_load_agg s (cs := (planC a0)) (n := 6) rfl (keep b h_b1) ta23 rfl bz) ?_
   refine ec r (fun fr1 u w' hb' hd r' => y_call r' (args := [(.agg (planC a0).toArray)]) (lc hd.1 l0) cl27 ((c_plan_Plan_nodes _ a0).mono (by rintro _ w2 ⟨rfl, hb2⟩; exact ⟨_, rfl, hb2, rfl⟩))) ?_
   refine ec r (fun _ u _ b d s => y_fieldAddr s (b := b1) (o := 0) rfl fo23_0 bz) ?_
   refine ec r (fun _ u _ b d s => y_load_one s d.1 (keep b h_b1) to3 rfl bz) ?_
   refine ec r (fun _ u _ b d s => y_bin s d.1 rfl rfl rfl bz) ?_
   refine ec r (fun _ u _ b d s => y_bin s d.1 d.2.1 rfl rfl bz) ?_
   exact each_nil
  ·
   intro fr u w6 hb hΦ hne r
   have r := r.congr (sc (hΦ 5 (by decide)) (sc (hΦ 4 (by decide)) (sc (hΦ 3 (by decide)) (sc (hΦ 2 (by decide)) (sc (hΦ 1 (by decide)) (sc (hΦ 0 (by decide)) rfl))))))
   have z_w6 := hb.size
   have h_b1 := keep hb h_b1
   obtain ⟨hB, zB⟩ := bon hb hB
   refine seq_val (I (W ((D.plan_Plan_nodes a0) + (W (a0.nodes * 5))))) r (fun R => y_assign r rfl) rfl fun fr r => ?_
   refine wn ?_
   refine wp_ret ?_
   have hd : D.plan_Plan_Size a0 = (W ((D.plan_Plan_nodes a0) + (W (a0.nodes * 5)))) := (cond_f h5).trans (rfl)
   refine ret_tmp r rfl rfl ?_
   rw [hd]
   exact ⟨rfl, hB⟩

def D.plan_Plan_place (a0 : Plan) (a1 : Int) (a2 : List Bound) : Int := (bif (!(D.plan_Plan_Formed a0)) then (-1) else (bif (!(D.plan_within a2)) then (-1) else a1))

theorem c_plan_Plan_place (w0 : World) 
    (a0 : Plan) (a1 : Int) (a2 : List Bound) {a2_b : Nat} (a2_h : w0.heap[a2_b]? = some (.cells ((boundsC a2)).toArray 98 (0, 0))) (pre0 : a2.length ≤ 8) :
    Calls Try.prog 47 #[.agg (planC a0).toArray, .int .i64 a1, .slice (some ⟨a2_b, 0, none⟩) a2.length a2.length] w0 (PureRes (.int .i64 (D.plan_Plan_place a0 a1 a2)) w0) := by
 refine enter Try.func47 rfl 16 rfl rfl fun fr r => ?_
 have hB := Below.refl w0.heap.size w0
 have l_a2_b := lt_of_block a2_h
 refine wsr ?_
 refine seq_new (.cells ((planC a0)).toArray 23 (0, 0)) r (fun R => y_box r (v := (.agg (planC a0).toArray)) rfl) rfl fun fr b1 w2 n3 r => ?_
 have a2_h := keep n3.below a2_h
 obtain ⟨e_b1, z_w2, h_b1, hB, zB⟩ := n3.all hB
 refine seq_val (I 0) r (fun R => y_assign r rfl) rfl fun fr r => ?_
 refine wn ?_
 refine wp_seq ?_
 refine wsr ?_
 refine seq_val (.agg (planC a0).toArray) r (fun R => y_load_agg r (cs := (planC a0)) (n := 6) rfl h_b1 ta23 rfl) rfl fun fr r => ?_
 refine seq_call r (c_plan_Plan_Formed w2 a0) (fun R hc => y_call r rfl cl26 hc) rfl ?_
 rintro _ w4 ⟨rfl, hb⟩
 refine ⟨_, rfl, fun fr r => ?_⟩
 have z_w4 := hb.size
 have a2_h := keep hb a2_h
 have h_b1 := keep hb h_b1
 obtain ⟨hB, zB⟩ := bon hb hB
 refine seq_val (.bool (!(D.plan_Plan_Formed a0))) r (fun R => y_un r (u := (.bool (D.plan_Plan_Formed a0))) rfl rfl) rfl fun fr r => ?_
 refine seq_val (.bool (!(D.plan_Plan_Formed a0))) r (fun R => y_move r rfl) rfl fun fr r => ?_
 refine seq_split (!(D.plan_Plan_Formed a0)) (fun h5 => ?_) (fun h5 => ?_)
 ·
  refine s0 r h5 fun fr r => ?_
  refine s0 r h5 fun fr r => ?_
  refine s0 r h5 fun fr r => ?_
  refine seq_val (.bool true) r (fun R => y_pick r (b := true) (congrArg Value.bool h5) rfl) rfl fun fr r => ?_
  refine wn ?_
  refine wp_cond_split (t := true) (r.ev rfl) (fun _ => ?_) (fun h => absurd ((rfl : true = _).symm.trans h) (by decide))
  refine wsr ?_
  refine seq_val (I (-1)) r (fun R => y_assign r rfl) rfl fun fr r => ?_
  refine wn ?_
  refine wp_ret ?_
  have hd : D.plan_Plan_place a0 a1 a2 = (-1) := (cond_t h5).trans (rfl)
  refine ret_tmp r rfl rfl ?_
  rw [hd]
  exact ⟨rfl, hB⟩
 ·
  refine s1 r h5 ?_
  refine seq_val (.slice (some ⟨a2_b, 0, none⟩) a2.length a2.length) r (fun R => y_move r rfl) rfl fun fr r => ?_
  refine s1 r h5 ?_
  refine seq_call r (c_plan_within w4 a2 a2_h (by first | assumption | decide | exact guardI_eq (by assumption) | (simp; done))) (fun R hc => y_call r rfl cl49 hc) rfl ?_
  rintro _ w6 ⟨rfl, hb⟩
  refine ⟨_, rfl, fun fr r => ?_⟩
  have z_w6 := hb.size
  have a2_h := keep hb a2_h
  have h_b1 := keep hb h_b1
  obtain ⟨hB, zB⟩ := bon hb hB
  refine s1 r h5 ?_
  refine seq_val (.bool (!(D.plan_within a2))) r (fun R => y_un r (u := (.bool (D.plan_within a2))) rfl rfl) rfl fun fr r => ?_
  refine seq_val (.bool (!(D.plan_within a2))) r (fun R => y_pick r (b := false) (congrArg Value.bool h5) rfl) rfl fun fr r => ?_
  refine wn ?_
  refine wp_cond_split (t := (!(D.plan_within a2))) (r.ev rfl) (fun h7 => ?_) (fun h7 => ?_)
  ·
   refine wsr ?_
   refine seq_val (I (-1)) r (fun R => y_assign r rfl) rfl fun fr r => ?_
   refine wn ?_
   refine wp_ret ?_
   have hd : D.plan_Plan_place a0 a1 a2 = (-1) := (cond_f h5).trans ((cond_t h7).trans (rfl))
   refine ret_tmp r rfl rfl ?_
   rw [hd]
   exact ⟨rfl, hB⟩
  ·
   refine wp_skip ?_
   refine wsr ?_
   refine seq_val (I a1) r (fun R => y_move r rfl) rfl fun fr r => ?_
   refine seq_val (I a1) r (fun R => y_assign r rfl) rfl fun fr r => ?_
   refine wn ?_
   refine wp_ret ?_
   have hd : D.plan_Plan_place a0 a1 a2 = a1 := (cond_f h5).trans ((cond_f h7).trans (rfl))
   refine ret_tmp r rfl rfl ?_
   rw [hd]
   exact ⟨rfl, hB⟩

theorem c_plan_Plan_place_nil (w0 : World) 
    (a0 : Plan) (a1 : Int) :
    Calls Try.prog 47 #[.agg (planC a0).toArray, .int .i64 a1, .slice none 0 0] w0 (PureRes (.int .i64 (D.plan_Plan_place a0 a1 ([]))) w0) := by
 refine enter Try.func47 rfl 16 rfl rfl fun fr r => ?_
 have hB := Below.refl w0.heap.size w0
 refine wsr ?_
 refine seq_new (.cells ((planC a0)).toArray 23 (0, 0)) r (fun R => y_box r (v := (.agg (planC a0).toArray)) rfl) rfl fun fr b1 w2 n3 r => ?_
 obtain ⟨e_b1, z_w2, h_b1, hB, zB⟩ := n3.all hB
 refine seq_val (I 0) r (fun R => y_assign r rfl) rfl fun fr r => ?_
 refine wn ?_
 refine wp_seq ?_
 refine wsr ?_
 refine seq_val (.agg (planC a0).toArray) r (fun R => y_load_agg r (cs := (planC a0)) (n := 6) rfl h_b1 ta23 rfl) rfl fun fr r => ?_
 refine seq_call r (c_plan_Plan_Formed w2 a0) (fun R hc => y_call r rfl cl26 hc) rfl ?_
 rintro _ w4 ⟨rfl, hb⟩
 refine ⟨_, rfl, fun fr r => ?_⟩
 have z_w4 := hb.size
 have h_b1 := keep hb h_b1
 obtain ⟨hB, zB⟩ := bon hb hB
 refine seq_val (.bool (!(D.plan_Plan_Formed a0))) r (fun R => y_un r (u := (.bool (D.plan_Plan_Formed a0))) rfl rfl) rfl fun fr r => ?_
 refine seq_val (.bool (!(D.plan_Plan_Formed a0))) r (fun R => y_move r rfl) rfl fun fr r => ?_
 refine seq_split (!(D.plan_Plan_Formed a0)) (fun h5 => ?_) (fun h5 => ?_)
 ·
  refine s0 r h5 fun fr r => ?_
  refine s0 r h5 fun fr r => ?_
  refine s0 r h5 fun fr r => ?_
  refine seq_val (.bool true) r (fun R => y_pick r (b := true) (congrArg Value.bool h5) rfl) rfl fun fr r => ?_
  refine wn ?_
  refine wp_cond_split (t := true) (r.ev rfl) (fun _ => ?_) (fun h => absurd ((rfl : true = _).symm.trans h) (by decide))
  refine wsr ?_
  refine seq_val (I (-1)) r (fun R => y_assign r rfl) rfl fun fr r => ?_
  refine wn ?_
  refine wp_ret ?_
  have hd : D.plan_Plan_place a0 a1 [] = (-1) := (cond_t h5).trans (rfl)
  refine ret_tmp r rfl rfl ?_
  rw [hd]
  exact ⟨rfl, hB⟩
 ·
  refine s1 r h5 ?_
  refine seq_val (.slice none 0 0) r (fun R => y_move r rfl) rfl fun fr r => ?_
  refine s1 r h5 ?_
  refine seq_call r (c_plan_within_nil w4 ) (fun R hc => y_call r rfl cl49 hc) rfl ?_
  rintro _ w6 ⟨rfl, hb⟩
  refine ⟨_, rfl, fun fr r => ?_⟩
  have z_w6 := hb.size
  have h_b1 := keep hb h_b1
  obtain ⟨hB, zB⟩ := bon hb hB
  refine s1 r h5 ?_
  refine seq_val (.bool (!(D.plan_within ([])))) r (fun R => y_un r (u := (.bool (D.plan_within ([])))) rfl rfl) rfl fun fr r => ?_
  refine seq_val (.bool (!(D.plan_within ([])))) r (fun R => y_pick r (b := false) (congrArg Value.bool h5) rfl) rfl fun fr r => ?_
  refine wn ?_
  refine wp_cond_split (t := (!(D.plan_within ([])))) (r.ev rfl) (fun h7 => ?_) (fun h7 => ?_)
  ·
   refine wsr ?_
   refine seq_val (I (-1)) r (fun R => y_assign r rfl) rfl fun fr r => ?_
   refine wn ?_
   refine wp_ret ?_
   have hd : D.plan_Plan_place a0 a1 [] = (-1) := (cond_f h5).trans ((cond_t h7).trans (rfl))
   refine ret_tmp r rfl rfl ?_
   rw [hd]
   exact ⟨rfl, hB⟩
  ·
   refine wp_skip ?_
   refine wsr ?_
   refine seq_val (I a1) r (fun R => y_move r rfl) rfl fun fr r => ?_
   refine seq_val (I a1) r (fun R => y_assign r rfl) rfl fun fr r => ?_
   refine wn ?_
   refine wp_ret ?_
   have hd : D.plan_Plan_place a0 a1 [] = a1 := (cond_f h5).trans ((cond_f h7).trans (rfl))
   refine ret_tmp r rfl rfl ?_
   rw [hd]
   exact ⟨rfl, hB⟩

def D.plan_Plan_Head (a0 : Plan) : Int := (D.plan_Plan_place a0 0 ([]))

theorem c_plan_Plan_Head (w0 : World) 
    (a0 : Plan) :
    Calls Try.prog 24 #[.agg (planC a0).toArray] w0 (PureRes (.int .i64 (D.plan_Plan_Head a0)) w0) := by
 refine enter Try.func24 rfl 5 rfl rfl fun fr r => ?_
 have hB := Below.refl w0.heap.size w0
 refine wsr ?_
 refine seq_new (.cells ((planC a0)).toArray 23 (0, 0)) r (fun R => y_box r (v := (.agg (planC a0).toArray)) rfl) rfl fun fr b1 w2 n3 r => ?_
 obtain ⟨e_b1, z_w2, h_b1, hB, zB⟩ := n3.all hB
 refine seq_val (I 0) r (fun R => y_assign r rfl) rfl fun fr r => ?_
 refine wn ?_
 refine wsr ?_
 refine seq_val (.agg (planC a0).toArray) r (fun R => y_load_agg r (cs := (planC a0)) (n := 6) rfl h_b1 ta23 rfl) rfl fun fr r => ?_
 refine seq_call r (c_plan_Plan_place_nil w2 a0 0) (fun R hc => y_call r rfl cl47 hc) rfl ?_
 rintro _ w4 ⟨rfl, hb⟩
 refine ⟨_, rfl, fun fr r => ?_⟩
 have z_w4 := hb.size
 have h_b1 := keep hb h_b1
 obtain ⟨hB, zB⟩ := bon hb hB
 refine seq_val (I (D.plan_Plan_place a0 0 ([]))) r (fun R => y_assign r rfl) rfl fun fr r => ?_
 refine wn ?_
 refine wp_ret ?_
 refine ret_tmp r rfl rfl ?_
 exact ⟨rfl, hB⟩

def D.plan_Plan_node (a0 : Plan) (a1 : Int) : Bound := (⟨a1, 0, (IntKind.i64.wrap (a0.nodes - 1))⟩ : Bound)

theorem c_plan_Plan_node (w0 : World) 
    (a0 : Plan) (a1 : Int) :
    Calls Try.prog 48 #[.agg (planC a0).toArray, .int .i64 a1] w0 (PureRes (.agg (boundC (D.plan_Plan_node a0 a1)).toArray) w0) := by
 refine enter Try.func48 rfl 10 rfl rfl fun fr r => ?_
 have hB := Below.refl w0.heap.size w0
 refine wsr ?_
 refine seq_new (.cells ((planC a0)).toArray 23 (0, 0)) r (fun R => y_box r (v := (.agg (planC a0).toArray)) rfl) rfl fun fr b1 w2 n3 r => ?_
 obtain ⟨e_b1, z_w2, h_b1, hB, zB⟩ := n3.all hB
 refine seq_new (.cells ((boundC (⟨0, 0, 0⟩ : Bound))).toArray 98 (0, 0)) r (fun R => y_alloc tz98) rfl fun fr b4 w5 n6 r => ?_
 have h_b1 := keep n6.below h_b1
 obtain ⟨e_b4, z_w5, h_b4, hB, zB⟩ := n6.all hB
 refine wn ?_
 refine wsr ?_
 refine seq_val (I a1) r (fun R => y_move r rfl) rfl fun fr r => ?_
 refine seq_val _ r (fun R => y_fieldAddr r (o := 0) rfl fo23_0) rfl fun fr r => ?_
 refine seq_val (I a0.nodes) r (fun R => y_load_one r rfl h_b1 to3 rfl) rfl fun fr r => ?_
 refine seq_val _ r (fun R => y_bin r rfl rfl rfl rfl) rfl fun fr r => ?_
 refine seq_val (.agg (boundC (⟨a1, 0, (W (a0.nodes - 1))⟩ : Bound)).toArray) r (fun R => y_build r (by kernel_rfl)) rfl fun fr r => ?_
 refine seq_upd (.cells ((boundC (⟨a1, 0, (W (a0.nodes - 1))⟩ : Bound))).toArray 98 (0, 0)) r (fun R => y_store r (o := 0) (v := (.agg (boundC (⟨a1, 0, (W (a0.nodes - 1))⟩ : Bound)).toArray)) rfl rfl h_b4 ts98 (Nat.le_of_ble_eq_true rfl) rfl rfl) rfl fun fr w7 u8 r => ?_
 have z_w7 := u8.size
 have h_b1 := u8.keep h_b1 (by omega)
 have h_b4 := u8.at_
 obtain ⟨hB, zB⟩ := u8.on hB (by omega)
 refine wn ?_
 refine wp_ret ?_
 refine ret_cell r rfl rfl h_b4 (k := 3) rfl ta98 ?_
 exact ⟨rfl, hB⟩

def D.plan_Plan_Next (a0 : Plan) (a1 : Int) : Int := (D.plan_Plan_place a0 (IntKind.i64.wrap ((IntKind.i64.wrap ((D.plan_Plan_nodes a0) + (IntKind.i64.wrap (a1 * 5)))) + 1)) ([(D.plan_Plan_node a0 a1)]))

theorem c_plan_Plan_Next (w0 : World) 
    (a0 : Plan) (a1 : Int) :
    Calls Try.prog 25 #[.agg (planC a0).toArray, .int .i64 a1] w0 (PureRes (.int .i64 (D.plan_Plan_Next a0 a1)) w0) := by
 refine enter Try.func25 rfl 17 rfl rfl fun fr r => ?_
 have hB := Below.refl w0.heap.size w0
 refine wsr ?_
 refine seq_new (.cells ((planC a0)).toArray 23 (0, 0)) r (fun R => y_box r (v := (.agg (planC a0).toArray)) rfl) rfl fun fr b1 w2 n3 r => ?_
 obtain ⟨e_b1, z_w2, h_b1, hB, zB⟩ := n3.all hB
 refine seq_val (I 0) r (fun R => y_assign r rfl) rfl fun fr r => ?_
 refine wn ?_
 refine wp_seq ?_
 refine wp_drawnF 12 [.val (.agg (planC a0).toArray), .val (.agg (planC a0).toArray), .val (I (D.plan_Plan_nodes a0)), .val (I a1), .val (I (W (a1 * 5))), .val (I (W ((D.plan_Plan_nodes a0) + (W (a1 * 5))))), .val (I (W ((W ((D.plan_Plan_nodes a0) + (W (a1 * 5)))) + 1))), .val (.agg (planC a0).toArray), .val (I a1), .val (.agg (boundC (D.plan_Plan_node a0 a1)).toArray), .slice w2.heap.size (.cells ((boundsC [(D.plan_Plan_node a0 a1)])).toArray 98 (0, 0)) 1, .val (I (D.plan_Plan_place a0 (W ((W ((D.plan_Plan_nodes a0) + (W (a1 * 5)))) + 1)) ([(D.plan_Plan_node a0 a1)])))] mixed r (by kernel_rfl) (within_cons (by exact trivial) (within_cons (by exact trivial) (within_cons (by exact trivial) (within_cons (by exact trivial) (within_cons (by exact trivial) (within_cons (by exact trivial) (within_cons (by exact trivial) (within_cons (by exact trivial) (within_cons (by exact trivial) (within_cons (by exact trivial) (within_cons (Nat.le_refl _) (within_cons (by exact trivial) within_nil)))))))))))) ?_ ?_
 ·
  refine ec r (fun _ u _ b d s => y_load_agg s (cs := (planC a0)) (n := 6) rfl (keep b h_b1) ta23 rfl bz) ?_
  refine ec r (fun _ u _ b d s => y_load_agg s (cs := (planC a0)) (n := 6) rfl (keep b h_b1) ta23 rfl bz) ?_
  refine ec r (fun fr1 u w' hb' hd r' => y_call r' (args := [(.agg (planC a0).toArray)]) (lc hd.1 l0) cl27 ((c_plan_Plan_nodes _ a0).mono (by rintro _ w2 ⟨rfl, hb2⟩; exact ⟨_, rfl, hb2, rfl⟩))) ?_
  refine ec r (fun _ u _ b d s => y_move s rfl bz) ?_
  refine ec r (fun _ u _ b d s => y_bin s d.1 rfl rfl rfl bz) ?_
  refine ec r (fun _ u _ b d s => y_bin s d.1 d.2.1 rfl rfl bz) ?_
  refine ec r (fun _ u _ b d s => y_bin s d.1 rfl rfl rfl bz) ?_
  refine ec r (fun _ u _ b d s => y_load_agg s (cs := (planC a0)) (n := 6) rfl (keep b h_b1) ta23 rfl bz) ?_
  refine ec r (fun _ u _ b d s => y_move s rfl bz) ?_
  refine ec r (fun fr1 u w' hb' hd r' => y_call r' (args := [(.agg (planC a0).toArray), (I a1)]) (lc hd.1 (lc hd.2.1 l0)) cl48 ((c_plan_Plan_node _ a0 a1).mono (by rintro _ w2 ⟨rfl, hb2⟩; exact ⟨_, rfl, hb2, rfl⟩))) ?_
  refine ec r (fun fr1 u w' hb' hd r' => y_bslice r' (c := ((boundsC [(D.plan_Plan_node a0 a1)])).toArray) (E := 98) (bs1 (congrArg (fun z => (0, z)) hd.1) (by kernel_rfl)) (fun b w2 n2 => ⟨n2.below, b, rfl, Nat.le_of_eq n2.eq.symm, n2.at_⟩)) ?_
  refine each_consF r rfl (fun fr1 u w' hb' hd r' => ?_) ?_
  · obtain ⟨d0, d1, d2, d3, _⟩ := hd; obtain ⟨q2, hq2, _, hr2⟩ := d2; exact y_call r' (args := [(.agg (planC a0).toArray), (I (W ((W ((D.plan_Plan_nodes a0) + (W (a1 * 5)))) + 1))), (.slice (some ⟨q2, 0, none⟩) 1 1)]) (lc d0 (lc d1 (lc hq2 l0))) cl47 ((c_plan_Plan_place _ a0 (W ((W ((D.plan_Plan_nodes a0) + (W (a1 * 5)))) + 1)) ([(D.plan_Plan_node a0 a1)]) hr2 (by first | assumption | decide | exact guardI_eq (by assumption) | (simp; done))).mono (by rintro _ w2 ⟨rfl, hb2⟩; exact ⟨_, rfl, hb2, rfl⟩))
  exact each_nil
 ·
  intro fr u w4 hb hΦ hne r
  obtain ⟨b5, g10, e_b5, h_b5⟩ := hΦ 10 (by decide)
  have l_b5 := lt_of_block h_b5
  have r := r.congr (sc (hΦ 11 (by decide)) (sc g10 (sc (hΦ 9 (by decide)) (sc (hΦ 8 (by decide)) (sc (hΦ 7 (by decide)) (sc (hΦ 6 (by decide)) (sc (hΦ 5 (by decide)) (sc (hΦ 4 (by decide)) (sc (hΦ 3 (by decide)) (sc (hΦ 2 (by decide)) (sc (hΦ 1 (by decide)) (sc (hΦ 0 (by decide)) rfl))))))))))))
  have z_w4 := hb.size
  have h_b1 := keep hb h_b1
  obtain ⟨hB, zB⟩ := bon hb hB
  refine seq_val (I (D.plan_Plan_place a0 (W ((W ((D.plan_Plan_nodes a0) + (W (a1 * 5)))) + 1)) ([(D.plan_Plan_node a0 a1)]))) r (fun R => y_assign r rfl) rfl fun fr r => ?_
  refine wn ?_
  refine wp_ret ?_
  refine ret_tmp r rfl rfl ?_
  exact ⟨rfl, hB⟩

def D.cubicleref06_Formed (a0 : Plan) : Bool := (bif (decide (a0.nodes < 1)) then false else (bif (decide (a0.nodes > 1048576)) then false else (bif (decide (a0.threads < 1)) then false else (bif (decide (a0.threads > 16)) then false else (bif (decide (a0.domains < 0)) then false else (bif (decide (a0.domains > 64)) then false else (bif (decide (a0.buckets ≥ 1)) then (bif (decide (a0.buckets ≤ 256)) then (bif (decide (a0.gen ≥ 1)) then (bif (decide (a0.gen ≤ 1073741823)) then (bif (decide (a0.retire > (IntKind.i64.wrap (3 * a0.threads)))) then (decide (a0.retire ≤ 1024)) else false) else false) else false) else false) else false)))))))

theorem c_cubicleref06_Formed (w0 : World) 
    (a0 : Plan) :
    Calls Try.prog 6 #[.agg (planC a0).toArray] w0 (PureRes (.bool (D.cubicleref06_Formed a0)) w0) := by
 refine enter Try.func6 rfl 62 rfl rfl fun fr r => ?_
 have hB := Below.refl w0.heap.size w0
 refine wsr ?_
 refine seq_new (.cells ((planC a0)).toArray 23 (0, 0)) r (fun R => y_box r (v := (.agg (planC a0).toArray)) rfl) rfl fun fr b1 w2 n3 r => ?_
 obtain ⟨e_b1, z_w2, h_b1, hB, zB⟩ := n3.all hB
 refine seq_val (.bool false) r (fun R => y_assign r rfl) rfl fun fr r => ?_
 refine wn ?_
 refine wp_seq ?_
 refine wsr ?_
 refine seq_val _ r (fun R => y_fieldAddr r (o := 0) rfl fo23_0) rfl fun fr r => ?_
 refine seq_val (I a0.nodes) r (fun R => y_load_one r rfl h_b1 to3 rfl) rfl fun fr r => ?_
 refine seq_val _ r (fun R => y_bin r rfl rfl rfl rfl) rfl fun fr r => ?_
 refine seq_val (.bool (decide (a0.nodes < 1))) r (fun R => y_move r rfl) rfl fun fr r => ?_
 refine seq_split (decide (a0.nodes < 1)) (fun h4 => ?_) (fun h4 => ?_)
 ·
  refine s0 r h4 fun fr r => ?_
  refine s0 r h4 fun fr r => ?_
  refine s0 r h4 fun fr r => ?_
  refine seq_val (.bool true) r (fun R => y_pick r (b := true) (congrArg Value.bool h4) rfl) rfl fun fr r => ?_
  refine seq_val (.bool true) r (fun R => y_move r rfl) rfl fun fr r => ?_
  refine s0 r (rfl : true = _) fun fr r => ?_
  refine s0 r (rfl : true = _) fun fr r => ?_
  refine s0 r (rfl : true = _) fun fr r => ?_
  refine seq_val (.bool true) r (fun R => y_pick r (b := true) (congrArg Value.bool (rfl : true = _)) rfl) rfl fun fr r => ?_
  refine seq_val (.bool true) r (fun R => y_move r rfl) rfl fun fr r => ?_
  refine s0 r (rfl : true = _) fun fr r => ?_
  refine s0 r (rfl : true = _) fun fr r => ?_
  refine s0 r (rfl : true = _) fun fr r => ?_
  refine seq_val (.bool true) r (fun R => y_pick r (b := true) (congrArg Value.bool (rfl : true = _)) rfl) rfl fun fr r => ?_
  refine seq_val (.bool true) r (fun R => y_move r rfl) rfl fun fr r => ?_
  refine s0 r (rfl : true = _) fun fr r => ?_
  refine s0 r (rfl : true = _) fun fr r => ?_
  refine s0 r (rfl : true = _) fun fr r => ?_
  refine seq_val (.bool true) r (fun R => y_pick r (b := true) (congrArg Value.bool (rfl : true = _)) rfl) rfl fun fr r => ?_
  refine seq_val (.bool true) r (fun R => y_move r rfl) rfl fun fr r => ?_
  refine s0 r (rfl : true = _) fun fr r => ?_
  refine s0 r (rfl : true = _) fun fr r => ?_
  refine s0 r (rfl : true = _) fun fr r => ?_
  refine seq_val (.bool true) r (fun R => y_pick r (b := true) (congrArg Value.bool (rfl : true = _)) rfl) rfl fun fr r => ?_
  refine wn ?_
  refine wp_cond_split (t := true) (r.ev rfl) (fun _ => ?_) (fun h => absurd ((rfl : true = _).symm.trans h) (by decide))
  refine wsr ?_
  refine seq_val (.bool false) r (fun R => y_assign r rfl) rfl fun fr r => ?_
  refine wn ?_
  refine wp_ret ?_
  have hd : D.cubicleref06_Formed a0 = false := (cond_t h4).trans (rfl)
  refine ret_tmp r rfl rfl ?_
  rw [hd]
  exact ⟨rfl, hB⟩
 ·
  refine s1 r h4 ?_
  refine seq_val _ r (fun R => y_fieldAddr r (o := 0) rfl fo23_0) rfl fun fr r => ?_
  refine s1 r h4 ?_
  refine seq_val (I a0.nodes) r (fun R => y_load_one r rfl h_b1 to3 rfl) rfl fun fr r => ?_
  refine s1 r h4 ?_
  refine seq_val _ r (fun R => y_bin r rfl rfl rfl rfl) rfl fun fr r => ?_
  refine seq_val (.bool (decide (a0.nodes > 1048576))) r (fun R => y_pick r (b := false) (congrArg Value.bool h4) rfl) rfl fun fr r => ?_
  refine seq_val (.bool (decide (a0.nodes > 1048576))) r (fun R => y_move r rfl) rfl fun fr r => ?_
  refine seq_split (decide (a0.nodes > 1048576)) (fun h5 => ?_) (fun h5 => ?_)
  ·
   refine s0 r h5 fun fr r => ?_
   refine s0 r h5 fun fr r => ?_
   refine s0 r h5 fun fr r => ?_
   refine seq_val (.bool true) r (fun R => y_pick r (b := true) (congrArg Value.bool h5) rfl) rfl fun fr r => ?_
   refine seq_val (.bool true) r (fun R => y_move r rfl) rfl fun fr r => ?_
   refine s0 r (rfl : true = _) fun fr r => ?_
   refine s0 r (rfl : true = _) fun fr r => ?_
   refine s0 r (rfl : true = _) fun fr r => ?_
   refine seq_val (.bool true) r (fun R => y_pick r (b := true) (congrArg Value.bool (rfl : true = _)) rfl) rfl fun fr r => ?_
   refine seq_val (.bool true) r (fun R => y_move r rfl) rfl fun fr r => ?_
   refine s0 r (rfl : true = _) fun fr r => ?_
   refine s0 r (rfl : true = _) fun fr r => ?_
   refine s0 r (rfl : true = _) fun fr r => ?_
   refine seq_val (.bool true) r (fun R => y_pick r (b := true) (congrArg Value.bool (rfl : true = _)) rfl) rfl fun fr r => ?_
   refine seq_val (.bool true) r (fun R => y_move r rfl) rfl fun fr r => ?_
   refine s0 r (rfl : true = _) fun fr r => ?_
   refine s0 r (rfl : true = _) fun fr r => ?_
   refine s0 r (rfl : true = _) fun fr r => ?_
   refine seq_val (.bool true) r (fun R => y_pick r (b := true) (congrArg Value.bool (rfl : true = _)) rfl) rfl fun fr r => ?_
   refine wn ?_
   refine wp_cond_split (t := true) (r.ev rfl) (fun _ => ?_) (fun h => absurd ((rfl : true = _).symm.trans h) (by decide))
   refine wsr ?_
   refine seq_val (.bool false) r (fun R => y_assign r rfl) rfl fun fr r => ?_
   refine wn ?_
   refine wp_ret ?_
   have hd : D.cubicleref06_Formed a0 = false := (cond_f h4).trans ((cond_t h5).trans (rfl))
   refine ret_tmp r rfl rfl ?_
   rw [hd]
   exact ⟨rfl, hB⟩
  ·
   refine s1 r h5 ?_
   refine seq_val _ r (fun R => y_fieldAddr r (o := 0) rfl fo23_1) rfl fun fr r => ?_
   refine s1 r h5 ?_
   refine seq_val (I a0.threads) r (fun R => y_load_one r rfl h_b1 to3 rfl) rfl fun fr r => ?_
   refine s1 r h5 ?_
   refine seq_val _ r (fun R => y_bin r rfl rfl rfl rfl) rfl fun fr r => ?_
   refine seq_val (.bool (decide (a0.threads < 1))) r (fun R => y_pick r (b := false) (congrArg Value.bool h5) rfl) rfl fun fr r => ?_
   refine seq_val (.bool (decide (a0.threads < 1))) r (fun R => y_move r rfl) rfl fun fr r => ?_
   refine seq_split (decide (a0.threads < 1)) (fun h6 => ?_) (fun h6 => ?_)
   ·
    refine s0 r h6 fun fr r => ?_
    refine s0 r h6 fun fr r => ?_
    refine s0 r h6 fun fr r => ?_
    refine seq_val (.bool true) r (fun R => y_pick r (b := true) (congrArg Value.bool h6) rfl) rfl fun fr r => ?_
    refine seq_val (.bool true) r (fun R => y_move r rfl) rfl fun fr r => ?_
    refine s0 r (rfl : true = _) fun fr r => ?_
    refine s0 r (rfl : true = _) fun fr r => ?_
    refine s0 r (rfl : true = _) fun fr r => ?_
    refine seq_val (.bool true) r (fun R => y_pick r (b := true) (congrArg Value.bool (rfl : true = _)) rfl) rfl fun fr r => ?_
    refine seq_val (.bool true) r (fun R => y_move r rfl) rfl fun fr r => ?_
    refine s0 r (rfl : true = _) fun fr r => ?_
    refine s0 r (rfl : true = _) fun fr r => ?_
    refine s0 r (rfl : true = _) fun fr r => ?_
    refine seq_val (.bool true) r (fun R => y_pick r (b := true) (congrArg Value.bool (rfl : true = _)) rfl) rfl fun fr r => ?_
    refine wn ?_
    refine wp_cond_split (t := true) (r.ev rfl) (fun _ => ?_) (fun h => absurd ((rfl : true = _).symm.trans h) (by decide))
    refine wsr ?_
    refine seq_val (.bool false) r (fun R => y_assign r rfl) rfl fun fr r => ?_
    refine wn ?_
    refine wp_ret ?_
    have hd : D.cubicleref06_Formed a0 = false := (cond_f h4).trans ((cond_f h5).trans ((cond_t h6).trans (rfl)))
    refine ret_tmp r rfl rfl ?_
    rw [hd]
    exact ⟨rfl, hB⟩
   ·
    refine s1 r h6 ?_
    refine seq_val _ r (fun R => y_fieldAddr r (o := 0) rfl fo23_1) rfl fun fr r => ?_
    refine s1 r h6 ?_
    refine seq_val (I a0.threads) r (fun R => y_load_one r rfl h_b1 to3 rfl) rfl fun fr r => ?_
    refine s1 r h6 ?_
    refine seq_val _ r (fun R => y_bin r rfl rfl rfl rfl) rfl fun fr r => ?_
    refine seq_val (.bool (decide (a0.threads > 16))) r (fun R => y_pick r (b := false) (congrArg Value.bool h6) rfl) rfl fun fr r => ?_
    refine seq_val (.bool (decide (a0.threads > 16))) r (fun R => y_move r rfl) rfl fun fr r => ?_
    refine seq_split (decide (a0.threads > 16)) (fun h7 => ?_) (fun h7 => ?_)
    ·
     refine s0 r h7 fun fr r => ?_
     refine s0 r h7 fun fr r => ?_
     refine s0 r h7 fun fr r => ?_
     refine seq_val (.bool true) r (fun R => y_pick r (b := true) (congrArg Value.bool h7) rfl) rfl fun fr r => ?_
     refine seq_val (.bool true) r (fun R => y_move r rfl) rfl fun fr r => ?_
     refine s0 r (rfl : true = _) fun fr r => ?_
     refine s0 r (rfl : true = _) fun fr r => ?_
     refine s0 r (rfl : true = _) fun fr r => ?_
     refine seq_val (.bool true) r (fun R => y_pick r (b := true) (congrArg Value.bool (rfl : true = _)) rfl) rfl fun fr r => ?_
     refine wn ?_
     refine wp_cond_split (t := true) (r.ev rfl) (fun _ => ?_) (fun h => absurd ((rfl : true = _).symm.trans h) (by decide))
     refine wsr ?_
     refine seq_val (.bool false) r (fun R => y_assign r rfl) rfl fun fr r => ?_
     refine wn ?_
     refine wp_ret ?_
     have hd : D.cubicleref06_Formed a0 = false := (cond_f h4).trans ((cond_f h5).trans ((cond_f h6).trans ((cond_t h7).trans (rfl))))
     refine ret_tmp r rfl rfl ?_
     rw [hd]
     exact ⟨rfl, hB⟩
    ·
     refine s1 r h7 ?_
     refine seq_val _ r (fun R => y_fieldAddr r (o := 0) rfl fo23_3) rfl fun fr r => ?_
     refine s1 r h7 ?_
     refine seq_val (I a0.domains) r (fun R => y_load_one r rfl h_b1 to3 rfl) rfl fun fr r => ?_
     refine s1 r h7 ?_
     refine seq_val _ r (fun R => y_bin r rfl rfl rfl rfl) rfl fun fr r => ?_
     refine seq_val (.bool (decide (a0.domains < 0))) r (fun R => y_pick r (b := false) (congrArg Value.bool h7) rfl) rfl fun fr r => ?_
     refine seq_val (.bool (decide (a0.domains < 0))) r (fun R => y_move r rfl) rfl fun fr r => ?_
     refine seq_split (decide (a0.domains < 0)) (fun h8 => ?_) (fun h8 => ?_)
     ·
      refine s0 r h8 fun fr r => ?_
      refine s0 r h8 fun fr r => ?_
      refine s0 r h8 fun fr r => ?_
      refine seq_val (.bool true) r (fun R => y_pick r (b := true) (congrArg Value.bool h8) rfl) rfl fun fr r => ?_
      refine wn ?_
      refine wp_cond_split (t := true) (r.ev rfl) (fun _ => ?_) (fun h => absurd ((rfl : true = _).symm.trans h) (by decide))
      refine wsr ?_
      refine seq_val (.bool false) r (fun R => y_assign r rfl) rfl fun fr r => ?_
      refine wn ?_
      refine wp_ret ?_
      have hd : D.cubicleref06_Formed a0 = false := (cond_f h4).trans ((cond_f h5).trans ((cond_f h6).trans ((cond_f h7).trans ((cond_t h8).trans (rfl)))))
      refine ret_tmp r rfl rfl ?_
      rw [hd]
      exact ⟨rfl, hB⟩
     ·
      refine s1 r h8 ?_
      refine seq_val _ r (fun R => y_fieldAddr r (o := 0) rfl fo23_3) rfl fun fr r => ?_
      refine s1 r h8 ?_
      refine seq_val (I a0.domains) r (fun R => y_load_one r rfl h_b1 to3 rfl) rfl fun fr r => ?_
      refine s1 r h8 ?_
      refine seq_val _ r (fun R => y_bin r rfl rfl rfl rfl) rfl fun fr r => ?_
      refine seq_val (.bool (decide (a0.domains > 64))) r (fun R => y_pick r (b := false) (congrArg Value.bool h8) rfl) rfl fun fr r => ?_
      refine wn ?_
      refine wp_cond_split (t := (decide (a0.domains > 64))) (r.ev rfl) (fun h9 => ?_) (fun h9 => ?_)
      ·
       refine wsr ?_
       refine seq_val (.bool false) r (fun R => y_assign r rfl) rfl fun fr r => ?_
       refine wn ?_
       refine wp_ret ?_
       have hd : D.cubicleref06_Formed a0 = false := (cond_f h4).trans ((cond_f h5).trans ((cond_f h6).trans ((cond_f h7).trans ((cond_f h8).trans ((cond_t h9).trans (rfl))))))
       refine ret_tmp r rfl rfl ?_
       rw [hd]
       exact ⟨rfl, hB⟩
      ·
       refine wp_skip ?_
       refine wsr ?_
       refine seq_val _ r (fun R => y_fieldAddr r (o := 0) rfl fo23_4) rfl fun fr r => ?_
       refine seq_val (I a0.buckets) r (fun R => y_load_one r rfl h_b1 to3 rfl) rfl fun fr r => ?_
       refine seq_val _ r (fun R => y_bin r rfl rfl rfl rfl) rfl fun fr r => ?_
       refine seq_val (.bool (decide (a0.buckets ≥ 1))) r (fun R => y_move r rfl) rfl fun fr r => ?_
       refine seq_split (decide (a0.buckets ≥ 1)) (fun h10 => ?_) (fun h10 => ?_)
       ·
        refine s1 r h10 ?_
        refine seq_val _ r (fun R => y_fieldAddr r (o := 0) rfl fo23_4) rfl fun fr r => ?_
        refine s1 r h10 ?_
        refine seq_val (I a0.buckets) r (fun R => y_load_one r rfl h_b1 to3 rfl) rfl fun fr r => ?_
        refine s1 r h10 ?_
        refine seq_val _ r (fun R => y_bin r rfl rfl rfl rfl) rfl fun fr r => ?_
        refine seq_val (.bool (decide (a0.buckets ≤ 256))) r (fun R => y_pick r (b := true) (congrArg Value.bool h10) rfl) rfl fun fr r => ?_
        refine seq_val (.bool (decide (a0.buckets ≤ 256))) r (fun R => y_move r rfl) rfl fun fr r => ?_
        refine seq_split (decide (a0.buckets ≤ 256)) (fun h11 => ?_) (fun h11 => ?_)
        ·
         refine s1 r h11 ?_
         refine seq_val _ r (fun R => y_fieldAddr r (o := 0) rfl fo23_5) rfl fun fr r => ?_
         refine s1 r h11 ?_
         refine seq_val (I a0.gen) r (fun R => y_load_one r rfl h_b1 to3 rfl) rfl fun fr r => ?_
         refine s1 r h11 ?_
         refine seq_val _ r (fun R => y_bin r rfl rfl rfl rfl) rfl fun fr r => ?_
         refine seq_val (.bool (decide (a0.gen ≥ 1))) r (fun R => y_pick r (b := true) (congrArg Value.bool h11) rfl) rfl fun fr r => ?_
         refine seq_val (.bool (decide (a0.gen ≥ 1))) r (fun R => y_move r rfl) rfl fun fr r => ?_
         refine seq_split (decide (a0.gen ≥ 1)) (fun h12 => ?_) (fun h12 => ?_)
         ·
          refine s1 r h12 ?_
          refine seq_val _ r (fun R => y_fieldAddr r (o := 0) rfl fo23_5) rfl fun fr r => ?_
          refine s1 r h12 ?_
          refine seq_val (I a0.gen) r (fun R => y_load_one r rfl h_b1 to3 rfl) rfl fun fr r => ?_
          refine s1 r h12 ?_
          refine seq_val _ r (fun R => y_bin r rfl rfl rfl rfl) rfl fun fr r => ?_
          refine seq_val (.bool (decide (a0.gen ≤ 1073741823))) r (fun R => y_pick r (b := true) (congrArg Value.bool h12) rfl) rfl fun fr r => ?_
          refine seq_val (.bool (decide (a0.gen ≤ 1073741823))) r (fun R => y_move r rfl) rfl fun fr r => ?_
          refine seq_split (decide (a0.gen ≤ 1073741823)) (fun h13 => ?_) (fun h13 => ?_)
          ·
           refine s1 r h13 ?_
           refine seq_val _ r (fun R => y_fieldAddr r (o := 0) rfl fo23_2) rfl fun fr r => ?_
           refine s1 r h13 ?_
           refine seq_val (I a0.retire) r (fun R => y_load_one r rfl h_b1 to3 rfl) rfl fun fr r => ?_
           refine s1 r h13 ?_
           refine seq_val _ r (fun R => y_fieldAddr r (o := 0) rfl fo23_1) rfl fun fr r => ?_
           refine s1 r h13 ?_
           refine seq_val (I a0.threads) r (fun R => y_load_one r rfl h_b1 to3 rfl) rfl fun fr r => ?_
           refine s1 r h13 ?_
           refine seq_val _ r (fun R => y_bin r rfl rfl rfl rfl) rfl fun fr r => ?_
           refine s1 r h13 ?_
           refine seq_val _ r (fun R => y_bin r rfl rfl rfl rfl) rfl fun fr r => ?_
           refine seq_val (.bool (decide (a0.retire > (W (3 * a0.threads))))) r (fun R => y_pick r (b := true) (congrArg Value.bool h13) rfl) rfl fun fr r => ?_
           refine seq_val (.bool (decide (a0.retire > (W (3 * a0.threads))))) r (fun R => y_move r rfl) rfl fun fr r => ?_
           refine seq_split (decide (a0.retire > (W (3 * a0.threads)))) (fun h14 => ?_) (fun h14 => ?_)
           ·
            refine s1 r h14 ?_
            refine seq_val _ r (fun R => y_fieldAddr r (o := 0) rfl fo23_2) rfl fun fr r => ?_
            refine s1 r h14 ?_
            refine seq_val (I a0.retire) r (fun R => y_load_one r rfl h_b1 to3 rfl) rfl fun fr r => ?_
            refine s1 r h14 ?_
            refine seq_val _ r (fun R => y_bin r rfl rfl rfl rfl) rfl fun fr r => ?_
            refine seq_val (.bool (decide (a0.retire ≤ 1024))) r (fun R => y_pick r (b := true) (congrArg Value.bool h14) rfl) rfl fun fr r => ?_
            refine seq_val (.bool (decide (a0.retire ≤ 1024))) r (fun R => y_assign r rfl) rfl fun fr r => ?_
            refine wn ?_
            refine wp_ret ?_
            have hd : D.cubicleref06_Formed a0 = (decide (a0.retire ≤ 1024)) := (cond_f h4).trans ((cond_f h5).trans ((cond_f h6).trans ((cond_f h7).trans ((cond_f h8).trans ((cond_f h9).trans ((cond_t h10).trans ((cond_t h11).trans ((cond_t h12).trans ((cond_t h13).trans ((cond_t h14).trans (rfl)))))))))))
            refine ret_tmp r rfl rfl ?_
            rw [hd]
            exact ⟨rfl, hB⟩
           ·
            refine s0 r h14 fun fr r => ?_
            refine s0 r h14 fun fr r => ?_
            refine s0 r h14 fun fr r => ?_
            refine seq_val (.bool false) r (fun R => y_pick r (b := false) (congrArg Value.bool h14) rfl) rfl fun fr r => ?_
            refine seq_val (.bool false) r (fun R => y_assign r rfl) rfl fun fr r => ?_
            refine wn ?_
            refine wp_ret ?_
            have hd : D.cubicleref06_Formed a0 = false := (cond_f h4).trans ((cond_f h5).trans ((cond_f h6).trans ((cond_f h7).trans ((cond_f h8).trans ((cond_f h9).trans ((cond_t h10).trans ((cond_t h11).trans ((cond_t h12).trans ((cond_t h13).trans ((cond_f h14).trans (rfl)))))))))))
            refine ret_tmp r rfl rfl ?_
            rw [hd]
            exact ⟨rfl, hB⟩
          ·
           refine s0 r h13 fun fr r => ?_
           refine s0 r h13 fun fr r => ?_
           refine s0 r h13 fun fr r => ?_
           refine s0 r h13 fun fr r => ?_
           refine s0 r h13 fun fr r => ?_
           refine s0 r h13 fun fr r => ?_
           refine seq_val (.bool false) r (fun R => y_pick r (b := false) (congrArg Value.bool h13) rfl) rfl fun fr r => ?_
           refine seq_val (.bool false) r (fun R => y_move r rfl) rfl fun fr r => ?_
           refine s0 r (rfl : false = _) fun fr r => ?_
           refine s0 r (rfl : false = _) fun fr r => ?_
           refine s0 r (rfl : false = _) fun fr r => ?_
           refine seq_val (.bool false) r (fun R => y_pick r (b := false) (congrArg Value.bool (rfl : false = _)) rfl) rfl fun fr r => ?_
           refine seq_val (.bool false) r (fun R => y_assign r rfl) rfl fun fr r => ?_
           refine wn ?_
           refine wp_ret ?_
           have hd : D.cubicleref06_Formed a0 = false := (cond_f h4).trans ((cond_f h5).trans ((cond_f h6).trans ((cond_f h7).trans ((cond_f h8).trans ((cond_f h9).trans ((cond_t h10).trans ((cond_t h11).trans ((cond_t h12).trans ((cond_f h13).trans (rfl))))))))))
           refine ret_tmp r rfl rfl ?_
           rw [hd]
           exact ⟨rfl, hB⟩
         ·
          refine s0 r h12 fun fr r => ?_
          refine s0 r h12 fun fr r => ?_
          refine s0 r h12 fun fr r => ?_
          refine seq_val (.bool false) r (fun R => y_pick r (b := false) (congrArg Value.bool h12) rfl) rfl fun fr r => ?_
          refine seq_val (.bool false) r (fun R => y_move r rfl) rfl fun fr r => ?_
          refine s0 r (rfl : false = _) fun fr r => ?_
          refine s0 r (rfl : false = _) fun fr r => ?_
          refine s0 r (rfl : false = _) fun fr r => ?_
          refine s0 r (rfl : false = _) fun fr r => ?_
          refine s0 r (rfl : false = _) fun fr r => ?_
          refine s0 r (rfl : false = _) fun fr r => ?_
          refine seq_val (.bool false) r (fun R => y_pick r (b := false) (congrArg Value.bool (rfl : false = _)) rfl) rfl fun fr r => ?_
          refine seq_val (.bool false) r (fun R => y_move r rfl) rfl fun fr r => ?_
          refine s0 r (rfl : false = _) fun fr r => ?_
          refine s0 r (rfl : false = _) fun fr r => ?_
          refine s0 r (rfl : false = _) fun fr r => ?_
          refine seq_val (.bool false) r (fun R => y_pick r (b := false) (congrArg Value.bool (rfl : false = _)) rfl) rfl fun fr r => ?_
          refine seq_val (.bool false) r (fun R => y_assign r rfl) rfl fun fr r => ?_
          refine wn ?_
          refine wp_ret ?_
          have hd : D.cubicleref06_Formed a0 = false := (cond_f h4).trans ((cond_f h5).trans ((cond_f h6).trans ((cond_f h7).trans ((cond_f h8).trans ((cond_f h9).trans ((cond_t h10).trans ((cond_t h11).trans ((cond_f h12).trans (rfl)))))))))
          refine ret_tmp r rfl rfl ?_
          rw [hd]
          exact ⟨rfl, hB⟩
        ·
         refine s0 r h11 fun fr r => ?_
         refine s0 r h11 fun fr r => ?_
         refine s0 r h11 fun fr r => ?_
         refine seq_val (.bool false) r (fun R => y_pick r (b := false) (congrArg Value.bool h11) rfl) rfl fun fr r => ?_
         refine seq_val (.bool false) r (fun R => y_move r rfl) rfl fun fr r => ?_
         refine s0 r (rfl : false = _) fun fr r => ?_
         refine s0 r (rfl : false = _) fun fr r => ?_
         refine s0 r (rfl : false = _) fun fr r => ?_
         refine seq_val (.bool false) r (fun R => y_pick r (b := false) (congrArg Value.bool (rfl : false = _)) rfl) rfl fun fr r => ?_
         refine seq_val (.bool false) r (fun R => y_move r rfl) rfl fun fr r => ?_
         refine s0 r (rfl : false = _) fun fr r => ?_
         refine s0 r (rfl : false = _) fun fr r => ?_
         refine s0 r (rfl : false = _) fun fr r => ?_
         refine s0 r (rfl : false = _) fun fr r => ?_
         refine s0 r (rfl : false = _) fun fr r => ?_
         refine s0 r (rfl : false = _) fun fr r => ?_
         refine seq_val (.bool false) r (fun R => y_pick r (b := false) (congrArg Value.bool (rfl : false = _)) rfl) rfl fun fr r => ?_
         refine seq_val (.bool false) r (fun R => y_move r rfl) rfl fun fr r => ?_
         refine s0 r (rfl : false = _) fun fr r => ?_
         refine s0 r (rfl : false = _) fun fr r => ?_
         refine s0 r (rfl : false = _) fun fr r => ?_
         refine seq_val (.bool false) r (fun R => y_pick r (b := false) (congrArg Value.bool (rfl : false = _)) rfl) rfl fun fr r => ?_
         refine seq_val (.bool false) r (fun R => y_assign r rfl) rfl fun fr r => ?_
         refine wn ?_
         refine wp_ret ?_
         have hd : D.cubicleref06_Formed a0 = false := (cond_f h4).trans ((cond_f h5).trans ((cond_f h6).trans ((cond_f h7).trans ((cond_f h8).trans ((cond_f h9).trans ((cond_t h10).trans ((cond_f h11).trans (rfl))))))))
         refine ret_tmp r rfl rfl ?_
         rw [hd]
         exact ⟨rfl, hB⟩
       ·
        refine s0 r h10 fun fr r => ?_
        refine s0 r h10 fun fr r => ?_
        refine s0 r h10 fun fr r => ?_
        refine seq_val (.bool false) r (fun R => y_pick r (b := false) (congrArg Value.bool h10) rfl) rfl fun fr r => ?_
        refine seq_val (.bool false) r (fun R => y_move r rfl) rfl fun fr r => ?_
        refine s0 r (rfl : false = _) fun fr r => ?_
        refine s0 r (rfl : false = _) fun fr r => ?_
        refine s0 r (rfl : false = _) fun fr r => ?_
        refine seq_val (.bool false) r (fun R => y_pick r (b := false) (congrArg Value.bool (rfl : false = _)) rfl) rfl fun fr r => ?_
        refine seq_val (.bool false) r (fun R => y_move r rfl) rfl fun fr r => ?_
        refine s0 r (rfl : false = _) fun fr r => ?_
        refine s0 r (rfl : false = _) fun fr r => ?_
        refine s0 r (rfl : false = _) fun fr r => ?_
        refine seq_val (.bool false) r (fun R => y_pick r (b := false) (congrArg Value.bool (rfl : false = _)) rfl) rfl fun fr r => ?_
        refine seq_val (.bool false) r (fun R => y_move r rfl) rfl fun fr r => ?_
        refine s0 r (rfl : false = _) fun fr r => ?_
        refine s0 r (rfl : false = _) fun fr r => ?_
        refine s0 r (rfl : false = _) fun fr r => ?_
        refine s0 r (rfl : false = _) fun fr r => ?_
        refine s0 r (rfl : false = _) fun fr r => ?_
        refine s0 r (rfl : false = _) fun fr r => ?_
        refine seq_val (.bool false) r (fun R => y_pick r (b := false) (congrArg Value.bool (rfl : false = _)) rfl) rfl fun fr r => ?_
        refine seq_val (.bool false) r (fun R => y_move r rfl) rfl fun fr r => ?_
        refine s0 r (rfl : false = _) fun fr r => ?_
        refine s0 r (rfl : false = _) fun fr r => ?_
        refine s0 r (rfl : false = _) fun fr r => ?_
        refine seq_val (.bool false) r (fun R => y_pick r (b := false) (congrArg Value.bool (rfl : false = _)) rfl) rfl fun fr r => ?_
        refine seq_val (.bool false) r (fun R => y_assign r rfl) rfl fun fr r => ?_
        refine wn ?_
        refine wp_ret ?_
        have hd : D.cubicleref06_Formed a0 = false := (cond_f h4).trans ((cond_f h5).trans ((cond_f h6).trans ((cond_f h7).trans ((cond_f h8).trans ((cond_f h9).trans ((cond_f h10).trans (rfl)))))))
        refine ret_tmp r rfl rfl ?_
        rw [hd]
        exact ⟨rfl, hB⟩

def D.cubicleref06_Few (a0 : Plan) : Bool := (bif (!(D.cubicleref06_Formed a0)) then true else (bif (decide (a0.nodes ≤ 40)) then (bif (decide (a0.retire ≤ 40)) then (bif (decide (a0.domains ≤ 6)) then (decide (a0.buckets ≤ 10)) else false) else false) else false))

theorem c_cubicleref06_Few (w0 : World) 
    (a0 : Plan) :
    Calls Try.prog 5 #[.agg (planC a0).toArray] w0 (PureRes (.bool (D.cubicleref06_Few a0)) w0) := by
 refine enter Try.func5 rfl 26 rfl rfl fun fr r => ?_
 have hB := Below.refl w0.heap.size w0
 refine wsr ?_
 refine seq_new (.cells ((planC a0)).toArray 23 (0, 0)) r (fun R => y_box r (v := (.agg (planC a0).toArray)) rfl) rfl fun fr b1 w2 n3 r => ?_
 obtain ⟨e_b1, z_w2, h_b1, hB, zB⟩ := n3.all hB
 refine seq_val (.bool false) r (fun R => y_assign r rfl) rfl fun fr r => ?_
 refine wn ?_
 refine wsr ?_
 refine seq_val (.agg (planC a0).toArray) r (fun R => y_load_agg r (cs := (planC a0)) (n := 6) rfl h_b1 ta23 rfl) rfl fun fr r => ?_
 refine seq_call r (c_cubicleref06_Formed w2 a0) (fun R hc => y_call r rfl cl6 hc) rfl ?_
 rintro _ w4 ⟨rfl, hb⟩
 refine ⟨_, rfl, fun fr r => ?_⟩
 have z_w4 := hb.size
 have h_b1 := keep hb h_b1
 obtain ⟨hB, zB⟩ := bon hb hB
 refine seq_val (.bool (!(D.cubicleref06_Formed a0))) r (fun R => y_un r (u := (.bool (D.cubicleref06_Formed a0))) rfl rfl) rfl fun fr r => ?_
 refine seq_val (.bool (!(D.cubicleref06_Formed a0))) r (fun R => y_move r rfl) rfl fun fr r => ?_
 refine seq_split (!(D.cubicleref06_Formed a0)) (fun h5 => ?_) (fun h5 => ?_)
 ·
  refine s0 r h5 fun fr r => ?_
  refine s0 r h5 fun fr r => ?_
  refine s0 r h5 fun fr r => ?_
  refine s0 r h5 fun fr r => ?_
  refine seq_skip r rfl rfl rfl (v := undef) rfl (by simp [boolOf, undef]) fun fr r => ?_
  refine seq_skip r rfl rfl rfl (v := undef) rfl (by simp [boolOf, undef]) fun fr r => ?_
  refine seq_skip r rfl rfl rfl (v := undef) rfl (by simp [boolOf, undef]) fun fr r => ?_
  refine s0 r h5 fun fr r => ?_
  refine s0 r h5 fun fr r => ?_
  refine seq_skip r rfl rfl rfl (v := undef) rfl (by simp [boolOf, undef]) fun fr r => ?_
  refine seq_skip r rfl rfl rfl (v := undef) rfl (by simp [boolOf, undef]) fun fr r => ?_
  refine seq_skip r rfl rfl rfl (v := undef) rfl (by simp [boolOf, undef]) fun fr r => ?_
  refine s0 r h5 fun fr r => ?_
  refine s0 r h5 fun fr r => ?_
  refine seq_skip r rfl rfl rfl (v := undef) rfl (by simp [boolOf, undef]) fun fr r => ?_
  refine seq_skip r rfl rfl rfl (v := undef) rfl (by simp [boolOf, undef]) fun fr r => ?_
  refine seq_skip r rfl rfl rfl (v := undef) rfl (by simp [boolOf, undef]) fun fr r => ?_
  refine s0 r h5 fun fr r => ?_
  refine seq_val (.bool true) r (fun R => y_pick r (b := true) (congrArg Value.bool h5) rfl) rfl fun fr r => ?_
  refine seq_val (.bool true) r (fun R => y_assign r rfl) rfl fun fr r => ?_
  refine wn ?_
  refine wp_ret ?_
  have hd : D.cubicleref06_Few a0 = true := (cond_t h5).trans (rfl)
  refine ret_tmp r rfl rfl ?_
  rw [hd]
  exact ⟨rfl, hB⟩
 ·
  refine s1 r h5 ?_
  refine seq_val _ r (fun R => y_fieldAddr r (o := 0) rfl fo23_0) rfl fun fr r => ?_
  refine s1 r h5 ?_
  refine seq_val (I a0.nodes) r (fun R => y_load_one r rfl h_b1 to3 rfl) rfl fun fr r => ?_
  refine s1 r h5 ?_
  refine seq_val _ r (fun R => y_bin r rfl rfl rfl rfl) rfl fun fr r => ?_
  refine s1 r h5 ?_
  refine seq_val (.bool (decide (a0.nodes ≤ 40))) r (fun R => y_move r rfl) rfl fun fr r => ?_
  refine seq_split (decide (a0.nodes ≤ 40)) (fun h6 => ?_) (fun h6 => ?_)
  ·
   refine s1 r h6 ?_
   refine seq_val _ r (fun R => y_fieldAddr r (o := 0) rfl fo23_2) rfl fun fr r => ?_
   refine s1 r h6 ?_
   refine seq_val (I a0.retire) r (fun R => y_load_one r rfl h_b1 to3 rfl) rfl fun fr r => ?_
   refine s1 r h6 ?_
   refine seq_val _ r (fun R => y_bin r rfl rfl rfl rfl) rfl fun fr r => ?_
   refine s1 r h5 ?_
   refine seq_val (.bool (decide (a0.retire ≤ 40))) r (fun R => y_pick r (b := true) (congrArg Value.bool h6) rfl) rfl fun fr r => ?_
   refine s1 r h5 ?_
   refine seq_val (.bool (decide (a0.retire ≤ 40))) r (fun R => y_move r rfl) rfl fun fr r => ?_
   refine seq_split (decide (a0.retire ≤ 40)) (fun h7 => ?_) (fun h7 => ?_)
   ·
    refine s1 r h7 ?_
    refine seq_val _ r (fun R => y_fieldAddr r (o := 0) rfl fo23_3) rfl fun fr r => ?_
    refine s1 r h7 ?_
    refine seq_val (I a0.domains) r (fun R => y_load_one r rfl h_b1 to3 rfl) rfl fun fr r => ?_
    refine s1 r h7 ?_
    refine seq_val _ r (fun R => y_bin r rfl rfl rfl rfl) rfl fun fr r => ?_
    refine s1 r h5 ?_
    refine seq_val (.bool (decide (a0.domains ≤ 6))) r (fun R => y_pick r (b := true) (congrArg Value.bool h7) rfl) rfl fun fr r => ?_
    refine s1 r h5 ?_
    refine seq_val (.bool (decide (a0.domains ≤ 6))) r (fun R => y_move r rfl) rfl fun fr r => ?_
    refine seq_split (decide (a0.domains ≤ 6)) (fun h8 => ?_) (fun h8 => ?_)
    ·
     refine s1 r h8 ?_
     refine seq_val _ r (fun R => y_fieldAddr r (o := 0) rfl fo23_4) rfl fun fr r => ?_
     refine s1 r h8 ?_
     refine seq_val (I a0.buckets) r (fun R => y_load_one r rfl h_b1 to3 rfl) rfl fun fr r => ?_
     refine s1 r h8 ?_
     refine seq_val _ r (fun R => y_bin r rfl rfl rfl rfl) rfl fun fr r => ?_
     refine s1 r h5 ?_
     refine seq_val (.bool (decide (a0.buckets ≤ 10))) r (fun R => y_pick r (b := true) (congrArg Value.bool h8) rfl) rfl fun fr r => ?_
     refine seq_val (.bool (decide (a0.buckets ≤ 10))) r (fun R => y_pick r (b := false) (congrArg Value.bool h5) rfl) rfl fun fr r => ?_
     refine seq_val (.bool (decide (a0.buckets ≤ 10))) r (fun R => y_assign r rfl) rfl fun fr r => ?_
     refine wn ?_
     refine wp_ret ?_
     have hd : D.cubicleref06_Few a0 = (decide (a0.buckets ≤ 10)) := (cond_f h5).trans ((cond_t h6).trans ((cond_t h7).trans ((cond_t h8).trans (rfl))))
     refine ret_tmp r rfl rfl ?_
     rw [hd]
     exact ⟨rfl, hB⟩
    ·
     refine s0 r h8 fun fr r => ?_
     refine s0 r h8 fun fr r => ?_
     refine s0 r h8 fun fr r => ?_
     refine s1 r h5 ?_
     refine seq_val (.bool false) r (fun R => y_pick r (b := false) (congrArg Value.bool h8) rfl) rfl fun fr r => ?_
     refine seq_val (.bool false) r (fun R => y_pick r (b := false) (congrArg Value.bool h5) rfl) rfl fun fr r => ?_
     refine seq_val (.bool false) r (fun R => y_assign r rfl) rfl fun fr r => ?_
     refine wn ?_
     refine wp_ret ?_
     have hd : D.cubicleref06_Few a0 = false := (cond_f h5).trans ((cond_t h6).trans ((cond_t h7).trans ((cond_f h8).trans (rfl))))
     refine ret_tmp r rfl rfl ?_
     rw [hd]
     exact ⟨rfl, hB⟩
   ·
    refine s0 r h7 fun fr r => ?_
    refine s0 r h7 fun fr r => ?_
    refine s0 r h7 fun fr r => ?_
    refine s1 r h5 ?_
    refine seq_val (.bool false) r (fun R => y_pick r (b := false) (congrArg Value.bool h7) rfl) rfl fun fr r => ?_
    refine s1 r h5 ?_
    refine seq_val (.bool false) r (fun R => y_move r rfl) rfl fun fr r => ?_
    refine s0 r (rfl : false = _) fun fr r => ?_
    refine s0 r (rfl : false = _) fun fr r => ?_
    refine s0 r (rfl : false = _) fun fr r => ?_
    refine s1 r h5 ?_
    refine seq_val (.bool false) r (fun R => y_pick r (b := false) (congrArg Value.bool (rfl : false = _)) rfl) rfl fun fr r => ?_
    refine seq_val (.bool false) r (fun R => y_pick r (b := false) (congrArg Value.bool h5) rfl) rfl fun fr r => ?_
    refine seq_val (.bool false) r (fun R => y_assign r rfl) rfl fun fr r => ?_
    refine wn ?_
    refine wp_ret ?_
    have hd : D.cubicleref06_Few a0 = false := (cond_f h5).trans ((cond_t h6).trans ((cond_f h7).trans (rfl)))
    refine ret_tmp r rfl rfl ?_
    rw [hd]
    exact ⟨rfl, hB⟩
  ·
   refine s0 r h6 fun fr r => ?_
   refine s0 r h6 fun fr r => ?_
   refine s0 r h6 fun fr r => ?_
   refine s1 r h5 ?_
   refine seq_val (.bool false) r (fun R => y_pick r (b := false) (congrArg Value.bool h6) rfl) rfl fun fr r => ?_
   refine s1 r h5 ?_
   refine seq_val (.bool false) r (fun R => y_move r rfl) rfl fun fr r => ?_
   refine s0 r (rfl : false = _) fun fr r => ?_
   refine s0 r (rfl : false = _) fun fr r => ?_
   refine s0 r (rfl : false = _) fun fr r => ?_
   refine s1 r h5 ?_
   refine seq_val (.bool false) r (fun R => y_pick r (b := false) (congrArg Value.bool (rfl : false = _)) rfl) rfl fun fr r => ?_
   refine s1 r h5 ?_
   refine seq_val (.bool false) r (fun R => y_move r rfl) rfl fun fr r => ?_
   refine s0 r (rfl : false = _) fun fr r => ?_
   refine s0 r (rfl : false = _) fun fr r => ?_
   refine s0 r (rfl : false = _) fun fr r => ?_
   refine s1 r h5 ?_
   refine seq_val (.bool false) r (fun R => y_pick r (b := false) (congrArg Value.bool (rfl : false = _)) rfl) rfl fun fr r => ?_
   refine seq_val (.bool false) r (fun R => y_pick r (b := false) (congrArg Value.bool h5) rfl) rfl fun fr r => ?_
   refine seq_val (.bool false) r (fun R => y_assign r rfl) rfl fun fr r => ?_
   refine wn ?_
   refine wp_ret ?_
   have hd : D.cubicleref06_Few a0 = false := (cond_f h5).trans ((cond_f h6).trans (rfl))
   refine ret_tmp r rfl rfl ?_
   rw [hd]
   exact ⟨rfl, hB⟩

end Go.Proofs.Ytbbipmelhmgmfaa

/- Written by a program of ours (wip/gen.py): fields: their form -/
set_option linter.unusedVariables false
set_option maxRecDepth 20000
set_option maxHeartbeats 2000000
namespace Go.Proofs.Ytbbipmelhmgmfaa
open Go.RowKit
theorem fo69_0 : fieldOff Try.prog 69 0 0 = true := by kernel_rfl

theorem fo69_1 : fieldOff Try.prog 69 1 1 = true := by kernel_rfl

def D.field_Field_Formed (a0 : Field) : Bool := (bif (decide (a0.at_ ≥ 0)) then (bif (decide (a0.at_ < 64)) then (bif (decide (a0.bits ≥ 1)) then (decide (a0.bits ≤ (IntKind.i64.wrap (64 - a0.at_)))) else false) else false) else false)

theorem c_field_Field_Formed (w0 : World) 
    (a0 : Field) :
    Calls Try.prog 44 #[.agg (fieldC a0).toArray] w0 (PureRes (.bool (D.field_Field_Formed a0)) w0) := by
 refine enter Try.func44 rfl 24 rfl rfl fun fr r => ?_
 have hB := Below.refl w0.heap.size w0
 refine wsr ?_
 refine seq_new (.cells ((fieldC a0)).toArray 69 (0, 0)) r (fun R => y_box r (v := (.agg (fieldC a0).toArray)) rfl) rfl fun fr b1 w2 n3 r => ?_
 obtain ⟨e_b1, z_w2, h_b1, hB, zB⟩ := n3.all hB
 refine seq_val (.bool false) r (fun R => y_assign r rfl) rfl fun fr r => ?_
 refine wn ?_
 refine wsr ?_
 refine seq_val _ r (fun R => y_fieldAddr r (o := 0) rfl fo69_0) rfl fun fr r => ?_
 refine seq_val (I a0.at_) r (fun R => y_load_one r rfl h_b1 to3 rfl) rfl fun fr r => ?_
 refine seq_val _ r (fun R => y_bin r rfl rfl rfl rfl) rfl fun fr r => ?_
 refine seq_val (.bool (decide (a0.at_ ≥ 0))) r (fun R => y_move r rfl) rfl fun fr r => ?_
 refine seq_split (decide (a0.at_ ≥ 0)) (fun h4 => ?_) (fun h4 => ?_)
 ·
  refine s1 r h4 ?_
  refine seq_val _ r (fun R => y_fieldAddr r (o := 0) rfl fo69_0) rfl fun fr r => ?_
  refine s1 r h4 ?_
  refine seq_val (I a0.at_) r (fun R => y_load_one r rfl h_b1 to3 rfl) rfl fun fr r => ?_
  refine s1 r h4 ?_
  refine seq_val _ r (fun R => y_bin r rfl rfl rfl rfl) rfl fun fr r => ?_
  refine seq_val (.bool (decide (a0.at_ < 64))) r (fun R => y_pick r (b := true) (congrArg Value.bool h4) rfl) rfl fun fr r => ?_
  refine seq_val (.bool (decide (a0.at_ < 64))) r (fun R => y_move r rfl) rfl fun fr r => ?_
  refine seq_split (decide (a0.at_ < 64)) (fun h5 => ?_) (fun h5 => ?_)
  ·
   refine s1 r h5 ?_
   refine seq_val _ r (fun R => y_fieldAddr r (o := 0) rfl fo69_1) rfl fun fr r => ?_
   refine s1 r h5 ?_
   refine seq_val (I a0.bits) r (fun R => y_load_one r rfl h_b1 to3 rfl) rfl fun fr r => ?_
   refine s1 r h5 ?_
   refine seq_val _ r (fun R => y_bin r rfl rfl rfl rfl) rfl fun fr r => ?_
   refine seq_val (.bool (decide (a0.bits ≥ 1))) r (fun R => y_pick r (b := true) (congrArg Value.bool h5) rfl) rfl fun fr r => ?_
   refine seq_val (.bool (decide (a0.bits ≥ 1))) r (fun R => y_move r rfl) rfl fun fr r => ?_
   refine seq_split (decide (a0.bits ≥ 1)) (fun h6 => ?_) (fun h6 => ?_)
   ·
    refine s1 r h6 ?_
    refine seq_val _ r (fun R => y_fieldAddr r (o := 0) rfl fo69_1) rfl fun fr r => ?_
    refine s1 r h6 ?_
    refine seq_val (I a0.bits) r (fun R => y_load_one r rfl h_b1 to3 rfl) rfl fun fr r => ?_
    refine s1 r h6 ?_
    refine seq_val _ r (fun R => y_fieldAddr r (o := 0) rfl fo69_0) rfl fun fr r => ?_
    refine s1 r h6 ?_
    refine seq_val (I a0.at_) r (fun R => y_load_one r rfl h_b1 to3 rfl) rfl fun fr r => ?_
    refine s1 r h6 ?_
    refine seq_val _ r (fun R => y_bin r rfl rfl rfl rfl) rfl fun fr r => ?_
    refine s1 r h6 ?_
    refine seq_val _ r (fun R => y_bin r rfl rfl rfl rfl) rfl fun fr r => ?_
    refine seq_val (.bool (decide (a0.bits ≤ (W (64 - a0.at_))))) r (fun R => y_pick r (b := true) (congrArg Value.bool h6) rfl) rfl fun fr r => ?_
    refine seq_val (.bool (decide (a0.bits ≤ (W (64 - a0.at_))))) r (fun R => y_assign r rfl) rfl fun fr r => ?_
    refine wn ?_
    refine wp_ret ?_
    have hd : D.field_Field_Formed a0 = (decide (a0.bits ≤ (W (64 - a0.at_)))) := (cond_t h4).trans ((cond_t h5).trans ((cond_t h6).trans (rfl)))
    refine ret_tmp r rfl rfl ?_
    rw [hd]
    exact ⟨rfl, hB⟩
   ·
    refine s0 r h6 fun fr r => ?_
    refine s0 r h6 fun fr r => ?_
    refine s0 r h6 fun fr r => ?_
    refine s0 r h6 fun fr r => ?_
    refine s0 r h6 fun fr r => ?_
    refine s0 r h6 fun fr r => ?_
    refine seq_val (.bool false) r (fun R => y_pick r (b := false) (congrArg Value.bool h6) rfl) rfl fun fr r => ?_
    refine seq_val (.bool false) r (fun R => y_assign r rfl) rfl fun fr r => ?_
    refine wn ?_
    refine wp_ret ?_
    have hd : D.field_Field_Formed a0 = false := (cond_t h4).trans ((cond_t h5).trans ((cond_f h6).trans (rfl)))
    refine ret_tmp r rfl rfl ?_
    rw [hd]
    exact ⟨rfl, hB⟩
  ·
   refine s0 r h5 fun fr r => ?_
   refine s0 r h5 fun fr r => ?_
   refine s0 r h5 fun fr r => ?_
   refine seq_val (.bool false) r (fun R => y_pick r (b := false) (congrArg Value.bool h5) rfl) rfl fun fr r => ?_
   refine seq_val (.bool false) r (fun R => y_move r rfl) rfl fun fr r => ?_
   refine s0 r (rfl : false = _) fun fr r => ?_
   refine s0 r (rfl : false = _) fun fr r => ?_
   refine s0 r (rfl : false = _) fun fr r => ?_
   refine s0 r (rfl : false = _) fun fr r => ?_
   refine s0 r (rfl : false = _) fun fr r => ?_
   refine s0 r (rfl : false = _) fun fr r => ?_
   refine seq_val (.bool false) r (fun R => y_pick r (b := false) (congrArg Value.bool (rfl : false = _)) rfl) rfl fun fr r => ?_
   refine seq_val (.bool false) r (fun R => y_assign r rfl) rfl fun fr r => ?_
   refine wn ?_
   refine wp_ret ?_
   have hd : D.field_Field_Formed a0 = false := (cond_t h4).trans ((cond_f h5).trans (rfl))
   refine ret_tmp r rfl rfl ?_
   rw [hd]
   exact ⟨rfl, hB⟩
 ·
  refine s0 r h4 fun fr r => ?_
  refine s0 r h4 fun fr r => ?_
  refine s0 r h4 fun fr r => ?_
  refine seq_val (.bool false) r (fun R => y_pick r (b := false) (congrArg Value.bool h4) rfl) rfl fun fr r => ?_
  refine seq_val (.bool false) r (fun R => y_move r rfl) rfl fun fr r => ?_
  refine s0 r (rfl : false = _) fun fr r => ?_
  refine s0 r (rfl : false = _) fun fr r => ?_
  refine s0 r (rfl : false = _) fun fr r => ?_
  refine seq_val (.bool false) r (fun R => y_pick r (b := false) (congrArg Value.bool (rfl : false = _)) rfl) rfl fun fr r => ?_
  refine seq_val (.bool false) r (fun R => y_move r rfl) rfl fun fr r => ?_
  refine s0 r (rfl : false = _) fun fr r => ?_
  refine s0 r (rfl : false = _) fun fr r => ?_
  refine s0 r (rfl : false = _) fun fr r => ?_
  refine s0 r (rfl : false = _) fun fr r => ?_
  refine s0 r (rfl : false = _) fun fr r => ?_
  refine s0 r (rfl : false = _) fun fr r => ?_
  refine seq_val (.bool false) r (fun R => y_pick r (b := false) (congrArg Value.bool (rfl : false = _)) rfl) rfl fun fr r => ?_
  refine seq_val (.bool false) r (fun R => y_assign r rfl) rfl fun fr r => ?_
  refine wn ?_
  refine wp_ret ?_
  have hd : D.field_Field_Formed a0 = false := (cond_f h4).trans (rfl)
  refine ret_tmp r rfl rfl ?_
  rw [hd]
  exact ⟨rfl, hB⟩

end Go.Proofs.Ytbbipmelhmgmfaa

/- A formed field's numbers. -/
namespace Go.Proofs.Ytbbipmelhmgmfaa
theorem field_formed {f : Field} (h : D.field_Field_Formed f = true) : 0 ≤ f.at_ ∧ f.at_ < 64 ∧ 1 ≤ f.bits ∧ f.bits ≤ 64 - f.at_ := by
  unfold D.field_Field_Formed at h
  have hw : ∀ x : Int, 0 ≤ x → x < 64 → IntKind.i64.wrap (64 - x) = 64 - x := by
    intro x h0 h1
    simp only [IntKind.wrap]
    simp [IntKind.signed, IntKind.bits]
    omega
  cases h1 : decide (f.at_ ≥ 0) <;> rw [h1] at h
  · cases h
  cases h2 : decide (f.at_ < 64) <;> rw [h2] at h
  · cases h
  cases h3 : decide (f.bits ≥ 1) <;> rw [h3] at h
  · cases h
  simp only [decide_eq_true_eq] at h1 h2 h3
  simp only [cond_true, decide_eq_true_eq] at h
  rw [hw _ h1 h2] at h
  omega

end Go.Proofs.Ytbbipmelhmgmfaa

/- Written by a program of ours (wip/gen.py): fields -/
set_option linter.unusedVariables false
set_option maxRecDepth 20000
set_option maxHeartbeats 2000000
namespace Go.Proofs.Ytbbipmelhmgmfaa
open Go.RowKit
theorem cl44 : callable Try.prog 44 = true := by kernel_rfl

theorem cl45 : callable Try.prog 45 = true := by kernel_rfl

theorem cl65 : callable Try.prog 65 = true := by kernel_rfl

theorem ta69 : tyA Try.prog 69 2 = true := by kernel_rfl

def D.field_Field_Most (a0 : Field) : Int := (bif (!(D.field_Field_Formed a0)) then 0 else (bif (a0.bits == 64) then 18446744073709551615 else (IntKind.u64.wrap ((shlI .u64 1 a0.bits) - 1))))

theorem c_field_Field_Most (w0 : World) 
    (a0 : Field) :
    Calls Try.prog 45 #[.agg (fieldC a0).toArray] w0 (PureRes (.int .u64 (D.field_Field_Most a0)) w0) := by
 refine enter Try.func45 rfl 15 rfl rfl fun fr r => ?_
 have hB := Below.refl w0.heap.size w0
 refine wsr ?_
 refine seq_new (.cells ((fieldC a0)).toArray 69 (0, 0)) r (fun R => y_box r (v := (.agg (fieldC a0).toArray)) rfl) rfl fun fr b1 w2 n3 r => ?_
 obtain ⟨e_b1, z_w2, h_b1, hB, zB⟩ := n3.all hB
 refine seq_val (U 0) r (fun R => y_assign r rfl) rfl fun fr r => ?_
 refine wn ?_
 refine wp_seq ?_
 refine wp_block ?_
 refine wsr ?_
 refine seq_val (.agg (fieldC a0).toArray) r (fun R => y_load_agg r (cs := (fieldC a0)) (n := 2) rfl h_b1 ta69 rfl) rfl fun fr r => ?_
 refine seq_call r (c_field_Field_Formed w2 a0) (fun R hc => y_call r rfl cl44 hc) rfl ?_
 rintro _ w4 ⟨rfl, hb⟩
 refine ⟨_, rfl, fun fr r => ?_⟩
 have z_w4 := hb.size
 have h_b1 := keep hb h_b1
 obtain ⟨hB, zB⟩ := bon hb hB
 refine seq_val (.bool (!(D.field_Field_Formed a0))) r (fun R => y_un r (u := (.bool (D.field_Field_Formed a0))) rfl rfl) rfl fun fr r => ?_
 refine seq_val (.bool (!(D.field_Field_Formed a0))) r (fun R => y_assign r rfl) rfl fun fr r => ?_
 refine wn ?_
 refine wp_cond_split (t := (!(D.field_Field_Formed a0))) (r.ev rfl) (fun h5 => ?_) (fun h5 => ?_)
 ·
  refine wsr ?_
  refine seq_val (U 0) r (fun R => y_assign r rfl) rfl fun fr r => ?_
  refine wn ?_
  refine wp_ret ?_
  have hd : D.field_Field_Most a0 = 0 := (cond_t h5).trans (rfl)
  refine ret_tmp r rfl rfl ?_
  rw [hd]
  exact ⟨rfl, hB⟩
 ·
  refine wsr ?_
  refine seq_val _ r (fun R => y_fieldAddr r (o := 0) rfl fo69_1) rfl fun fr r => ?_
  refine seq_val (I a0.bits) r (fun R => y_load_one r rfl h_b1 to3 rfl) rfl fun fr r => ?_
  refine seq_val _ r (fun R => y_bin r rfl rfl rfl rfl) rfl fun fr r => ?_
  refine seq_val (.bool (a0.bits == 64)) r (fun R => y_assign r rfl) rfl fun fr r => ?_
  refine wn ?_
  refine wp_cond_split (t := (a0.bits == 64)) (r.ev rfl) (fun h6 => ?_) (fun h6 => ?_)
  ·
   refine wsr ?_
   refine seq_val (U 18446744073709551615) r (fun R => y_assign r rfl) rfl fun fr r => ?_
   refine wn ?_
   refine wp_ret ?_
   have hd : D.field_Field_Most a0 = 18446744073709551615 := (cond_f h5).trans ((cond_t h6).trans (rfl))
   refine ret_tmp r rfl rfl ?_
   rw [hd]
   exact ⟨rfl, hB⟩
  ·
   refine wp_skip ?_
   refine wsr ?_
   refine seq_val _ r (fun R => y_fieldAddr r (o := 0) rfl fo69_1) rfl fun fr r => ?_
   refine seq_val (I a0.bits) r (fun R => y_load_one r rfl h_b1 to3 rfl) rfl fun fr r => ?_
   refine seq_val _ r (fun R => y_bin r rfl rfl rfl (bin_shl (by first | assumption | decide | (have hq := field_formed (by simpa using ‹(!D.field_Field_Formed _) = false›); omega)))) rfl fun fr r => ?_
   refine seq_val _ r (fun R => y_bin r rfl rfl rfl rfl) rfl fun fr r => ?_
   refine seq_val (U (V ((shlI .u64 1 a0.bits) - 1))) r (fun R => y_assign r rfl) rfl fun fr r => ?_
   refine wn ?_
   refine wp_ret ?_
   have hd : D.field_Field_Most a0 = (V ((shlI .u64 1 a0.bits) - 1)) := (cond_f h5).trans ((cond_f h6).trans (rfl))
   refine ret_tmp r rfl rfl ?_
   rw [hd]
   exact ⟨rfl, hB⟩

def D.field_Field_Get (a0 : Field) (a1 : Int) : Int := (bif (!(D.field_Field_Formed a0)) then 0 else (bits_and .u64 (shrI .u64 a1 a0.at_) (D.field_Field_Most a0)))

theorem c_field_Field_Get (w0 : World) 
    (a0 : Field) (a1 : Int) :
    Calls Try.prog 22 #[.agg (fieldC a0).toArray, .int .u64 a1] w0 (PureRes (.int .u64 (D.field_Field_Get a0 a1)) w0) := by
 refine enter Try.func22 rfl 15 rfl rfl fun fr r => ?_
 have hB := Below.refl w0.heap.size w0
 refine wsr ?_
 refine seq_new (.cells ((fieldC a0)).toArray 69 (0, 0)) r (fun R => y_box r (v := (.agg (fieldC a0).toArray)) rfl) rfl fun fr b1 w2 n3 r => ?_
 obtain ⟨e_b1, z_w2, h_b1, hB, zB⟩ := n3.all hB
 refine seq_val (U 0) r (fun R => y_assign r rfl) rfl fun fr r => ?_
 refine wn ?_
 refine wp_seq ?_
 refine wsr ?_
 refine seq_val (.agg (fieldC a0).toArray) r (fun R => y_load_agg r (cs := (fieldC a0)) (n := 2) rfl h_b1 ta69 rfl) rfl fun fr r => ?_
 refine seq_call r (c_field_Field_Formed w2 a0) (fun R hc => y_call r rfl cl44 hc) rfl ?_
 rintro _ w4 ⟨rfl, hb⟩
 refine ⟨_, rfl, fun fr r => ?_⟩
 have z_w4 := hb.size
 have h_b1 := keep hb h_b1
 obtain ⟨hB, zB⟩ := bon hb hB
 refine seq_val (.bool (!(D.field_Field_Formed a0))) r (fun R => y_un r (u := (.bool (D.field_Field_Formed a0))) rfl rfl) rfl fun fr r => ?_
 refine wn ?_
 refine wp_cond_split (t := (!(D.field_Field_Formed a0))) (r.ev rfl) (fun h5 => ?_) (fun h5 => ?_)
 ·
  refine wsr ?_
  refine seq_val (U 0) r (fun R => y_assign r rfl) rfl fun fr r => ?_
  refine wn ?_
  refine wp_ret ?_
  have hd : D.field_Field_Get a0 a1 = 0 := (cond_t h5).trans (rfl)
  refine ret_tmp r rfl rfl ?_
  rw [hd]
  exact ⟨rfl, hB⟩
 ·
  refine wp_skip ?_
  refine wp_seq ?_
  refine wp_drawnF 7 [.val (U a1), .val (.pointer (some ⟨b1, 0, none⟩)), .val (I a0.at_), .val (U (shrI .u64 a1 a0.at_)), .val (.agg (fieldC a0).toArray), .val (U (D.field_Field_Most a0)), .val (U (bits_and .u64 (shrI .u64 a1 a0.at_) (D.field_Field_Most a0)))] mixed r (by kernel_rfl) (within_cons (by exact trivial) (within_cons (by exact trivial) (within_cons (by exact trivial) (within_cons (by exact trivial) (within_cons (by exact trivial) (within_cons (by exact trivial) (within_cons (by exact trivial) within_nil))))))) ?_ ?_
  ·
   refine ec r (fun _ u _ b d s => y_move s rfl bz) ?_
   refine ec r (fun _ u _ b d s => y_fieldAddr s (b := b1) (o := 0) rfl fo69_0 bz) ?_
   refine ec r (fun _ u _ b d s => y_load_one s d.1 (keep b h_b1) to3 rfl bz) ?_
   refine ec r (fun _ u _ b d s => y_bin s d.1 d.2.1 rfl (bin_shr (by first | assumption | decide | (have hq := field_formed (by simpa using ‹(!D.field_Field_Formed _) = false›); omega))) bz) ?_
   refine ec r (fun _ u _ b d s => y_load_agg s (cs := (fieldC a0)) (n := 2) rfl (keep b h_b1) ta69 rfl bz) ?_
   refine ec r (fun fr1 u w' hb' hd r' => y_call r' (args := [(.agg (fieldC a0).toArray)]) (lc hd.1 l0) cl45 ((c_field_Field_Most _ a0).mono (by rintro _ w2 ⟨rfl, hb2⟩; exact ⟨_, rfl, hb2, rfl⟩))) ?_
   refine ec r (fun _ u _ b d s => y_bin s d.1 d.2.1 rfl rfl bz) ?_
   exact each_nil
  ·
   intro fr u w6 hb hΦ hne r
   have r := r.congr (sc (hΦ 6 (by decide)) (sc (hΦ 5 (by decide)) (sc (hΦ 4 (by decide)) (sc (hΦ 3 (by decide)) (sc (hΦ 2 (by decide)) (sc (hΦ 1 (by decide)) (sc (hΦ 0 (by decide)) rfl)))))))
   have z_w6 := hb.size
   have h_b1 := keep hb h_b1
   obtain ⟨hB, zB⟩ := bon hb hB
   refine seq_val (U (bits_and .u64 (shrI .u64 a1 a0.at_) (D.field_Field_Most a0))) r (fun R => y_assign r rfl) rfl fun fr r => ?_
   refine wn ?_
   refine wp_ret ?_
   have hd : D.field_Field_Get a0 a1 = (bits_and .u64 (shrI .u64 a1 a0.at_) (D.field_Field_Most a0)) := (cond_f h5).trans (rfl)
   refine ret_tmp r rfl rfl ?_
   rw [hd]
   exact ⟨rfl, hB⟩

def D.field_Field_mask (a0 : Field) : Int := (bif (!(D.field_Field_Formed a0)) then 0 else (shlI .u64 (D.field_Field_Most a0) a0.at_))

theorem c_field_Field_mask (w0 : World) 
    (a0 : Field) :
    Calls Try.prog 65 #[.agg (fieldC a0).toArray] w0 (PureRes (.int .u64 (D.field_Field_mask a0)) w0) := by
 refine enter Try.func65 rfl 11 rfl rfl fun fr r => ?_
 have hB := Below.refl w0.heap.size w0
 refine wsr ?_
 refine seq_new (.cells ((fieldC a0)).toArray 69 (0, 0)) r (fun R => y_box r (v := (.agg (fieldC a0).toArray)) rfl) rfl fun fr b1 w2 n3 r => ?_
 obtain ⟨e_b1, z_w2, h_b1, hB, zB⟩ := n3.all hB
 refine seq_val (U 0) r (fun R => y_assign r rfl) rfl fun fr r => ?_
 refine wn ?_
 refine wp_seq ?_
 refine wsr ?_
 refine seq_val (.agg (fieldC a0).toArray) r (fun R => y_load_agg r (cs := (fieldC a0)) (n := 2) rfl h_b1 ta69 rfl) rfl fun fr r => ?_
 refine seq_call r (c_field_Field_Formed w2 a0) (fun R hc => y_call r rfl cl44 hc) rfl ?_
 rintro _ w4 ⟨rfl, hb⟩
 refine ⟨_, rfl, fun fr r => ?_⟩
 have z_w4 := hb.size
 have h_b1 := keep hb h_b1
 obtain ⟨hB, zB⟩ := bon hb hB
 refine seq_val (.bool (!(D.field_Field_Formed a0))) r (fun R => y_un r (u := (.bool (D.field_Field_Formed a0))) rfl rfl) rfl fun fr r => ?_
 refine wn ?_
 refine wp_cond_split (t := (!(D.field_Field_Formed a0))) (r.ev rfl) (fun h5 => ?_) (fun h5 => ?_)
 ·
  refine wsr ?_
  refine seq_val (U 0) r (fun R => y_assign r rfl) rfl fun fr r => ?_
  refine wn ?_
  refine wp_ret ?_
  have hd : D.field_Field_mask a0 = 0 := (cond_t h5).trans (rfl)
  refine ret_tmp r rfl rfl ?_
  rw [hd]
  exact ⟨rfl, hB⟩
 ·
  refine wp_skip ?_
  refine wp_seq ?_
  refine wp_drawnF 5 [.val (.agg (fieldC a0).toArray), .val (U (D.field_Field_Most a0)), .val (.pointer (some ⟨b1, 0, none⟩)), .val (I a0.at_), .val (U (shlI .u64 (D.field_Field_Most a0) a0.at_))] mixed r (by kernel_rfl) (within_cons (by exact trivial) (within_cons (by exact trivial) (within_cons (by exact trivial) (within_cons (by exact trivial) (within_cons (by exact trivial) within_nil))))) ?_ ?_
  ·
   refine ec r (fun _ u _ b d s => y_load_agg s (cs := (fieldC a0)) (n := 2) rfl (keep b h_b1) ta69 rfl bz) ?_
   refine ec r (fun fr1 u w' hb' hd r' => y_call r' (args := [(.agg (fieldC a0).toArray)]) (lc hd.1 l0) cl45 ((c_field_Field_Most _ a0).mono (by rintro _ w2 ⟨rfl, hb2⟩; exact ⟨_, rfl, hb2, rfl⟩))) ?_
   refine ec r (fun _ u _ b d s => y_fieldAddr s (b := b1) (o := 0) rfl fo69_0 bz) ?_
   refine ec r (fun _ u _ b d s => y_load_one s d.1 (keep b h_b1) to3 rfl bz) ?_
   refine ec r (fun _ u _ b d s => y_bin s d.1 d.2.1 rfl (bin_shl (by first | assumption | decide | (have hq := field_formed (by simpa using ‹(!D.field_Field_Formed _) = false›); omega))) bz) ?_
   exact each_nil
  ·
   intro fr u w6 hb hΦ hne r
   have r := r.congr (sc (hΦ 4 (by decide)) (sc (hΦ 3 (by decide)) (sc (hΦ 2 (by decide)) (sc (hΦ 1 (by decide)) (sc (hΦ 0 (by decide)) rfl)))))
   have z_w6 := hb.size
   have h_b1 := keep hb h_b1
   obtain ⟨hB, zB⟩ := bon hb hB
   refine seq_val (U (shlI .u64 (D.field_Field_Most a0) a0.at_)) r (fun R => y_assign r rfl) rfl fun fr r => ?_
   refine wn ?_
   refine wp_ret ?_
   have hd : D.field_Field_mask a0 = (shlI .u64 (D.field_Field_Most a0) a0.at_) := (cond_f h5).trans (rfl)
   refine ret_tmp r rfl rfl ?_
   rw [hd]
   exact ⟨rfl, hB⟩

def D.field_Field_Put (a0 : Field) (a1 : Int) (a2 : Int) : Int := (bif (!(D.field_Field_Formed a0)) then a1 else (bits_or .u64 (bits_andNot .u64 a1 (D.field_Field_mask a0)) (shlI .u64 (bits_and .u64 a2 (D.field_Field_Most a0)) a0.at_)))

theorem c_field_Field_Put (w0 : World) 
    (a0 : Field) (a1 : Int) (a2 : Int) :
    Calls Try.prog 57 #[.agg (fieldC a0).toArray, .int .u64 a1, .int .u64 a2] w0 (PureRes (.int .u64 (D.field_Field_Put a0 a1 a2)) w0) := by
 refine enter Try.func57 rfl 23 rfl rfl fun fr r => ?_
 have hB := Below.refl w0.heap.size w0
 refine wsr ?_
 refine seq_new (.cells ((fieldC a0)).toArray 69 (0, 0)) r (fun R => y_box r (v := (.agg (fieldC a0).toArray)) rfl) rfl fun fr b1 w2 n3 r => ?_
 obtain ⟨e_b1, z_w2, h_b1, hB, zB⟩ := n3.all hB
 refine seq_val (U 0) r (fun R => y_assign r rfl) rfl fun fr r => ?_
 refine wn ?_
 refine wp_seq ?_
 refine wsr ?_
 refine seq_val (.agg (fieldC a0).toArray) r (fun R => y_load_agg r (cs := (fieldC a0)) (n := 2) rfl h_b1 ta69 rfl) rfl fun fr r => ?_
 refine seq_call r (c_field_Field_Formed w2 a0) (fun R hc => y_call r rfl cl44 hc) rfl ?_
 rintro _ w4 ⟨rfl, hb⟩
 refine ⟨_, rfl, fun fr r => ?_⟩
 have z_w4 := hb.size
 have h_b1 := keep hb h_b1
 obtain ⟨hB, zB⟩ := bon hb hB
 refine seq_val (.bool (!(D.field_Field_Formed a0))) r (fun R => y_un r (u := (.bool (D.field_Field_Formed a0))) rfl rfl) rfl fun fr r => ?_
 refine wn ?_
 refine wp_cond_split (t := (!(D.field_Field_Formed a0))) (r.ev rfl) (fun h5 => ?_) (fun h5 => ?_)
 ·
  refine wsr ?_
  refine seq_val (U a1) r (fun R => y_move r rfl) rfl fun fr r => ?_
  refine seq_val (U a1) r (fun R => y_assign r rfl) rfl fun fr r => ?_
  refine wn ?_
  refine wp_ret ?_
  have hd : D.field_Field_Put a0 a1 a2 = a1 := (cond_t h5).trans (rfl)
  refine ret_tmp r rfl rfl ?_
  rw [hd]
  exact ⟨rfl, hB⟩
 ·
  refine wp_skip ?_
  refine wp_seq ?_
  refine wp_drawnF 12 [.val (U a1), .val (.agg (fieldC a0).toArray), .val (U (D.field_Field_mask a0)), .val (U (bits_andNot .u64 a1 (D.field_Field_mask a0))), .val (U a2), .val (.agg (fieldC a0).toArray), .val (U (D.field_Field_Most a0)), .val (U (bits_and .u64 a2 (D.field_Field_Most a0))), .val (.pointer (some ⟨b1, 0, none⟩)), .val (I a0.at_), .val (U (shlI .u64 (bits_and .u64 a2 (D.field_Field_Most a0)) a0.at_)), .val (U (bits_or .u64 (bits_andNot .u64 a1 (D.field_Field_mask a0)) (shlI .u64 (bits_and .u64 a2 (D.field_Field_Most a0)) a0.at_)))] mixed r (by kernel_rfl) (within_cons (by exact trivial) (within_cons (by exact trivial) (within_cons (by exact trivial) (within_cons (by exact trivial) (within_cons (by exact trivial) (within_cons (by exact trivial) (within_cons (by exact trivial) (within_cons (by exact trivial) (within_cons (by exact trivial) (within_cons (by exact trivial) (within_cons (by exact trivial) (within_cons (by exact trivial) within_nil)))))))))))) ?_ ?_
  ·
   refine ec r (fun _ u _ b d s => y_move s rfl bz) ?_
   refine ec r (fun _ u _ b d s => y_load_agg s (cs := (fieldC a0)) (n := 2) rfl (keep b h_b1) ta69 rfl bz) ?_
   refine ec r (fun fr1 u w' hb' hd r' => y_call r' (args := [(.agg (fieldC a0).toArray)]) (lc hd.1 l0) cl65 ((c_field_Field_mask _ a0).mono (by rintro _ w2 ⟨rfl, hb2⟩; exact ⟨_, rfl, hb2, rfl⟩))) ?_
   refine ec r (fun _ u _ b d s => y_bin s d.1 d.2.1 rfl rfl bz) ?_
   refine ec r (fun _ u _ b d s => y_move s rfl bz) ?_
   refine ec r (fun _ u _ b d s => y_load_agg s (cs := (fieldC a0)) (n := 2) rfl (keep b h_b1) ta69 rfl bz) ?_
   refine ec r (fun fr1 u w' hb' hd r' => y_call r' (args := [(.agg (fieldC a0).toArray)]) (lc hd.1 l0) cl45 ((c_field_Field_Most _ a0).mono (by rintro _ w2 ⟨rfl, hb2⟩; exact ⟨_, rfl, hb2, rfl⟩))) ?_
   refine ec r (fun _ u _ b d s => y_bin s d.1 d.2.1 rfl rfl bz) ?_
   refine ec r (fun _ u _ b d s => y_fieldAddr s (b := b1) (o := 0) rfl fo69_0 bz) ?_
   refine ec r (fun _ u _ b d s => y_load_one s d.1 (keep b h_b1) to3 rfl bz) ?_
   refine ec r (fun _ u _ b d s => y_bin s d.1 d.2.1 rfl (bin_shl (by first | assumption | decide | (have hq := field_formed (by simpa using ‹(!D.field_Field_Formed _) = false›); omega))) bz) ?_
   refine ec r (fun _ u _ b d s => y_bin s d.1 d.2.1 rfl rfl bz) ?_
   exact each_nil
  ·
   intro fr u w6 hb hΦ hne r
   have r := r.congr (sc (hΦ 11 (by decide)) (sc (hΦ 10 (by decide)) (sc (hΦ 9 (by decide)) (sc (hΦ 8 (by decide)) (sc (hΦ 7 (by decide)) (sc (hΦ 6 (by decide)) (sc (hΦ 5 (by decide)) (sc (hΦ 4 (by decide)) (sc (hΦ 3 (by decide)) (sc (hΦ 2 (by decide)) (sc (hΦ 1 (by decide)) (sc (hΦ 0 (by decide)) rfl))))))))))))
   have z_w6 := hb.size
   have h_b1 := keep hb h_b1
   obtain ⟨hB, zB⟩ := bon hb hB
   refine seq_val (U (bits_or .u64 (bits_andNot .u64 a1 (D.field_Field_mask a0)) (shlI .u64 (bits_and .u64 a2 (D.field_Field_Most a0)) a0.at_))) r (fun R => y_assign r rfl) rfl fun fr r => ?_
   refine wn ?_
   refine wp_ret ?_
   have hd : D.field_Field_Put a0 a1 a2 = (bits_or .u64 (bits_andNot .u64 a1 (D.field_Field_mask a0)) (shlI .u64 (bits_and .u64 a2 (D.field_Field_Most a0)) a0.at_)) := (cond_f h5).trans (rfl)
   refine ret_tmp r rfl rfl ?_
   rw [hd]
   exact ⟨rfl, hB⟩

end Go.Proofs.Ytbbipmelhmgmfaa

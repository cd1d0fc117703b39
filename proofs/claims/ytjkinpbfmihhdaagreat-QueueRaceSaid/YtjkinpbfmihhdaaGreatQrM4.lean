/- Some of our texts, one behind the other. -/
import Derived.Test.YtjkinpbfmihhdaaGreatRows
import Derived.Test.YtjkinpbfmihhdaaGreatQrM2
import Derived.Test.YtjkinpbfmihhdaaGreatQrMems
set_option linter.all false
/- within: are numbers in their bounds? -/
namespace Go.Proofs.YtjkinpbfmihhdaaGreat
open Go.RowKit
def D.zz14 (l : List Bound) : Bool := l.all fun b => !(decide (b.n < b.least)) && !(decide (b.n > b.most))

theorem zzex {l : List Bound} {k : Nat} (h : k < l.length) (hb : l[k].n < l[k].least ∨ l[k].n > l[k].most) : D.zz14 l = false := by
  unfold D.zz14
  rw [List.all_eq_false]
  refine ⟨l[k], List.getElem_mem h, ?_⟩
  rcases hb with hb | hb <;> simp [hb]

theorem zzf6 {l : List Bound} {k : Nat} (h : k < l.length) (hw : D.zz14 (l.take k) = true) (h1 : ¬ l[k].n < l[k].least) (h2 : ¬ l[k].n > l[k].most) : D.zz14 (l.take (k + 1)) = true := by
  unfold D.zz14 at *
  rw [List.take_succ_eq_append_getElem h, List.all_append, hw]
  simp only [List.all_cons, List.all_nil, Bool.true_and, Bool.and_true, Bool.and_eq_true, Bool.not_eq_true', decide_eq_false_iff_not]
  exact ⟨h1, h2⟩

theorem tsb : sized Tryz.prog 216 3 = true := by kernel_rfl

theorem tab : tyA Tryz.prog 216 3 = true := by kernel_rfl

theorem tib : tyO Tryz.prog 3 = true := by kernel_rfl

theorem isb : isSlice Tryz.prog 278 = true := by kernel_rfl

theorem slb : sliceTy Tryz.prog 278 3 = true := by kernel_rfl

theorem zb : zeroOf Tryz.prog 216 = some (.agg #[.int .i64 0, .int .i64 0, .int .i64 0]) := by kernel_rfl

theorem fb0 : fieldOff Tryz.prog 216 0 0 = true := by kernel_rfl

theorem fb1 : fieldOff Tryz.prog 216 1 1 = true := by kernel_rfl

theorem fb2 : fieldOff Tryz.prog 216 2 2 = true := by kernel_rfl

set_option maxRecDepth 20000 in
set_option maxHeartbeats 1000000 in
theorem zz8g (w0 : World) (l : List Bound) {b : Nat} (hb : w0.heap[b]? = some (.cells (boundsC l).toArray 216 (0, 0))) (hl : l.length ≤ 8) : Calls Tryz.prog 235 #[.slice (some ⟨b, 0, none⟩) l.length l.length] w0 (PureRes (.bool (D.zz14 l)) w0) := by
  refine enter (l := [.slice (some ⟨b, 0, none⟩) l.length l.length]) Tryz.func235 rfl 24 rfl rfl fun a0 r => ?_
  refine wp_seq (wp_region_lit ?_)
  refine seq_val (.bool false) r (fun R => zz05 r rfl) rfl fun a0 r => wpList_nil ?_
  refine wp_seq (wp_seq (wp_region_lit ?_))
  refine seq_val (.slice (some ⟨b, 0, none⟩) l.length l.length) r (fun R => y_move r rfl) rfl fun a0 r => ?_
  refine seq_val (.int .i64 l.length) r (fun R => y_len r isb rfl) rfl fun a0 r => ?_
  refine seq_val (.int .i64 0) r (fun R => y_move r rfl) rfl fun a0 r => wpList_nil ?_
  refine wp_block ?_
  refine zzed (X := Nat) (fun k => [(5, .slice (some ⟨b, 0, none⟩) l.length l.length), (6, .int .i64 l.length), (7, .int .i64 k)])
    (fun k w => k ≤ l.length ∧ Below w0.heap.size w0 w ∧ D.zz14 (l.take k) = true) (fun k => l.length - k) 0 r (hs_cons rfl (hs_cons rfl (hs_cons rfl hs_nil))) ⟨by omega, Below.refl _ _, by simp [D.zz14]⟩ ?_
  rintro k a0 w g r ⟨hk, hB, hw⟩
  have hbw : w.heap[b]? = some (.cells (boundsC l).toArray 216 (0, 0)) := by rw [hB.block b (lt_of_block hb)]; exact hb
  refine wp_seq (wp_region_lit ?_)
  refine seq_val (.bool (decide ((k : Int) < l.length))) r (fun R => y_bin r (u := .int .i64 k) (u' := .int .i64 l.length) rfl rfl rfl rfl) rfl fun a0 r => wpList_nil ?_
  refine wp_seq (wp_cond_split (t := decide ((k : Int) < l.length)) (r.ev rfl) (fun h => ?_) (fun h => ?_))
  · have hkl : k < l.length := by simpa using h
    refine wp_skip ?_
    refine wp_seq (wp_block ?_)
    refine wp_seq (wp_region_lit ?_)
    refine seq_val (.pointer (some ⟨b, 0 + (k : Int).toNat * 3, none⟩)) r (fun R => zz5k r slb rfl rfl (by omega) (by omega)) rfl fun a0 r => ?_
    refine seq_val (.agg (boundC l[k]).toArray) r (fun R => zz03 r (cs := boundC l[k]) (n := 3) rfl hbw tab (by have := flat_at (f := boundC) (n := 3) (fun _ => rfl) l k hkl; simpa [boundsC] using this)) rfl fun a0 r => ?_
    refine seq_new (.cells #[.int .i64 0, .int .i64 0, .int .i64 0] 216 (0, 0)) r (fun R => y_alloc zb) rfl fun a0 b1 w1 n1 r => ?_
    have e1 := n1.eq
    have z1 := n1.size
    have h1 := n1.at_
    have zB := hB.size
    have hB := hB.trans (n1.below.mono hB.size)
    refine seq_upd (.cells (boundC l[k]).toArray 216 (0, 0)) r (fun R => y_store r (v := .agg (boundC l[k]).toArray) rfl rfl h1 tsb (Nat.le_of_ble_eq_true rfl) rfl rfl) rfl fun a0 w2 u2 r => wpList_nil ?_
    have z2 := u2.size
    have h2 := u2.at_
    have hB := u2.below hB (by omega)
    refine wp_seq (wp_region_lit ?_)
    refine seq_val (.pointer (some ⟨b1, 0, none⟩)) r (fun R => zz02 r (o := 0) rfl fb0) rfl fun a0 r => ?_
    refine seq_val (.int .i64 l[k].n) r (fun R => zz01 r rfl h2 tib rfl) rfl fun a0 r => ?_
    refine seq_val (.pointer (some ⟨b1, 1, none⟩)) r (fun R => zz02 r (o := 0) rfl fb1) rfl fun a0 r => ?_
    refine seq_val (.int .i64 l[k].least) r (fun R => zz01 r rfl h2 tib rfl) rfl fun a0 r => ?_
    refine seq_val (.bool (decide (l[k].n < l[k].least))) r (fun R => y_bin r (u := .int .i64 l[k].n) (u' := .int .i64 l[k].least) rfl rfl rfl rfl) rfl fun a0 r => ?_
    refine seq_val (.bool (decide (l[k].n < l[k].least))) r (fun R => y_move r rfl) rfl fun a0 r => ?_
    have wi : IntKind.i64.wrap ((k : Int) + 1) = ((k + 1 : Nat) : Int) := by
      have : IntKind.i64.wrap ((k : Int) + 1) = (k : Int) + 1 := by simp only [IntKind.wrap]; simp [IntKind.signed, IntKind.bits]; omega
      rw [this]; omega
    refine zz0x (decide (l[k].n < l[k].least)) (fun h1 => ?_) (fun h1 => ?_)
    · have hn := zzex hkl (.inl (of_decide_eq_true h1))
      refine zzax r rfl rfl rfl (v := .bool true) (congrArg Value.bool h1) (by simp [boolOf]) fun a0 r => ?_
      refine zzax r rfl rfl rfl (v := .bool true) (congrArg Value.bool h1) (by simp [boolOf]) fun a0 r => ?_
      refine zzax r rfl rfl rfl (v := .bool true) (congrArg Value.bool h1) (by simp [boolOf]) fun a0 r => ?_
      refine zzax r rfl rfl rfl (v := .bool true) (congrArg Value.bool h1) (by simp [boolOf]) fun a0 r => ?_
      refine zzax r rfl rfl rfl (v := .bool true) (congrArg Value.bool h1) (by simp [boolOf]) fun a0 r => ?_
      refine seq_val (.bool true) r (fun R => y_pick r (b := true) (congrArg Value.bool h1) rfl) rfl fun a0 r => wpList_nil ?_
      refine wp_cond_split (t := true) (r.ev rfl) (fun _ => ?_) (fun h => by cases h)
      refine wp_seq (wp_region_lit ?_)
      refine seq_val (.bool false) r (fun R => zz05 r rfl) rfl fun a0 r => wpList_nil ?_
      refine wp_ret ?_
      refine ret_tmp r rfl (v := .bool false) rfl ?_
      rw [hn]
      exact ⟨rfl, hB⟩
    · refine zzb0 r rfl rfl rfl (congrArg Value.bool h1) ?_
      refine seq_val (.pointer (some ⟨b1, 0, none⟩)) r (fun R => zz02 r (o := 0) rfl fb0) rfl fun a0 r => ?_
      refine zzb0 r rfl rfl rfl (congrArg Value.bool h1) ?_
      refine seq_val (.int .i64 l[k].n) r (fun R => zz01 r rfl h2 tib rfl) rfl fun a0 r => ?_
      refine zzb0 r rfl rfl rfl (congrArg Value.bool h1) ?_
      refine seq_val (.pointer (some ⟨b1, 2, none⟩)) r (fun R => zz02 r (o := 0) rfl fb2) rfl fun a0 r => ?_
      refine zzb0 r rfl rfl rfl (congrArg Value.bool h1) ?_
      refine seq_val (.int .i64 l[k].most) r (fun R => zz01 r rfl h2 tib rfl) rfl fun a0 r => ?_
      refine zzb0 r rfl rfl rfl (congrArg Value.bool h1) ?_
      refine seq_val (.bool (decide (l[k].n > l[k].most))) r (fun R => y_bin r (u := .int .i64 l[k].n) (u' := .int .i64 l[k].most) rfl rfl rfl rfl) rfl fun a0 r => ?_
      refine seq_val (.bool (decide (l[k].n > l[k].most))) r (fun R => y_pick r (b := false) (congrArg Value.bool h1) rfl) rfl fun a0 r => wpList_nil ?_
      refine wp_cond_split (t := decide (l[k].n > l[k].most)) (r.ev rfl) (fun h2' => ?_) (fun h2' => ?_)
      · have hn := zzex hkl (.inr (of_decide_eq_true h2'))
        refine wp_seq (wp_region_lit ?_)
        refine seq_val (.bool false) r (fun R => zz05 r rfl) rfl fun a0 r => wpList_nil ?_
        refine wp_ret ?_
        refine ret_tmp r rfl (v := .bool false) rfl ?_
        rw [hn]
        exact ⟨rfl, hB⟩
      · refine wp_skip ?_
        refine wp_region_lit ?_
        refine seq_val (.int .i64 ((k + 1 : Nat) : Int)) r (fun R => y_bin r (u := .int .i64 k) (u' := .int .i64 1) rfl rfl rfl (congrArg (fun z => Result.ok (Value.int .i64 z) _) wi)) rfl fun a0 r => ?_
        refine seq_val (.int .i64 ((k + 1 : Nat) : Int)) r (fun R => y_move r rfl) rfl fun a0 r => wpList_nil ?_
        exact ⟨k + 1, _, r, hs_cons rfl (hs_cons rfl (hs_cons rfl hs_nil)), ⟨hkl, hB, zzf6 hkl hw (of_decide_eq_false h1) (of_decide_eq_false h2')⟩, by omega⟩
  · have hkl : k = l.length := by have := of_decide_eq_false h; omega
    subst hkl
    refine wp_exit ?_
    refine wp_seq (wp_region_lit ?_)
    refine seq_val (.bool true) r (fun R => zz05 r rfl) rfl fun a0 r => wpList_nil ?_
    refine wp_ret ?_
    refine ret_tmp r rfl (v := .bool true) rfl ?_
    rw [List.take_length] at hw
    rw [hw]
    exact ⟨rfl, hB⟩

set_option maxRecDepth 20000 in
set_option maxHeartbeats 1000000 in
theorem zzbs (w0 : World) : Calls Tryz.prog 235 #[.slice none 0 0] w0 (PureRes (.bool (D.zz14 [])) w0) := by
  refine enter (l := [.slice none 0 0]) Tryz.func235 rfl 24 rfl rfl fun a0 r => ?_
  refine wp_seq (wp_region_lit ?_)
  refine seq_val (.bool false) r (fun R => zz05 r rfl) rfl fun a0 r => wpList_nil ?_
  refine wp_seq (wp_seq (wp_region_lit ?_))
  refine seq_val (.slice none 0 0) r (fun R => y_move r rfl) rfl fun a0 r => ?_
  refine seq_val (.int .i64 ((0 : Nat) : Int)) r (fun R => y_len r isb rfl) rfl fun a0 r => ?_
  refine seq_val (.int .i64 0) r (fun R => y_move r rfl) rfl fun a0 r => wpList_nil ?_
  refine wp_block ?_
  refine zzed (X := Unit) (fun _ => [(6, .int .i64 ((0 : Nat) : Int)), (7, .int .i64 0)]) (fun _ w => w = w0) (fun _ => 0) () r (hs_cons rfl (hs_cons rfl hs_nil)) rfl ?_
  rintro _ a0 w g r rfl
  refine wp_seq (wp_region_lit ?_)
  refine seq_val (.bool (decide ((0 : Int) < ((0 : Nat) : Int)))) r (fun R => y_bin r (u := .int .i64 0) (u' := .int .i64 ((0 : Nat) : Int)) rfl rfl rfl rfl) rfl fun a0 r => wpList_nil ?_
  refine wp_seq (wp_cond_split (t := decide ((0 : Int) < ((0 : Nat) : Int))) (r.ev rfl) (fun h => by cases h) (fun h => ?_))
  refine wp_exit ?_
  refine wp_seq (wp_region_lit ?_)
  refine seq_val (.bool true) r (fun R => zz05 r rfl) rfl fun a0 r => wpList_nil ?_
  refine wp_ret ?_
  refine ret_tmp r rfl (v := .bool true) rfl ?_
  exact ⟨rfl, Below.refl _ _⟩

end Go.Proofs.YtjkinpbfmihhdaaGreat

/- Written by a program of ours (wip/gen.py): plans -/
set_option linter.unusedVariables false
set_option maxRecDepth 20000
set_option maxHeartbeats 2000000
namespace Go.Proofs.YtjkinpbfmihhdaaGreat
open Go.RowKit
theorem cl136 : callable Tryz.prog 136 = true := by kernel_rfl

theorem cl142 : callable Tryz.prog 142 = true := by kernel_rfl

theorem cl143 : callable Tryz.prog 143 = true := by kernel_rfl

theorem cl144 : callable Tryz.prog 144 = true := by kernel_rfl

theorem cl158 : callable Tryz.prog 158 = true := by kernel_rfl

theorem cl159 : callable Tryz.prog 159 = true := by kernel_rfl

theorem cl166 : callable Tryz.prog 166 = true := by kernel_rfl

theorem cl167 : callable Tryz.prog 167 = true := by kernel_rfl

theorem cl235 : callable Tryz.prog 235 = true := by kernel_rfl

theorem cl261 : callable Tryz.prog 261 = true := by kernel_rfl

theorem fo25_0 : fieldOff Tryz.prog 25 0 0 = true := by kernel_rfl

theorem fo25_1 : fieldOff Tryz.prog 25 1 1 = true := by kernel_rfl

theorem fo25_2 : fieldOff Tryz.prog 25 2 2 = true := by kernel_rfl

theorem fo25_3 : fieldOff Tryz.prog 25 3 3 = true := by kernel_rfl

theorem fo25_4 : fieldOff Tryz.prog 25 4 4 = true := by kernel_rfl

theorem fo25_5 : fieldOff Tryz.prog 25 5 5 = true := by kernel_rfl

theorem ta216 : tyA Tryz.prog 216 3 = true := by kernel_rfl

theorem ta25 : tyA Tryz.prog 25 6 = true := by kernel_rfl

theorem ts216 : sized Tryz.prog 216 3 = true := by kernel_rfl

theorem tz216 : zeroOf Tryz.prog 216 = some (.agg (boundC (⟨0, 0, 0⟩ : Bound)).toArray) := by kernel_rfl

def D.zz0z (a0 : Plan) : Bool := (bif (D.zz14 ([(⟨a0.nodes, 1, 1048576⟩ : Bound), (⟨a0.threads, 1, 16⟩ : Bound), (⟨a0.domains, 0, 64⟩ : Bound), (⟨a0.buckets, 1, 256⟩ : Bound), (⟨a0.gen, 1, 1073741823⟩ : Bound)])) then (D.zz14 ([(⟨a0.retire, (IntKind.i64.wrap ((IntKind.i64.wrap (3 * a0.threads)) + 1)), 1024⟩ : Bound)])) else false)

theorem zz4q (w0 : World) 
    (a0 : Plan) :
    Calls Tryz.prog 136 #[.agg (planC a0).toArray] w0 (PureRes (.bool (D.zz0z a0)) w0) := by
 refine enter Tryz.func136 rfl 31 rfl rfl fun fr r => ?_
 have hB := Below.refl w0.heap.size w0
 refine wsr ?_
 refine seq_new (.cells ((planC a0)).toArray 25 (0, 0)) r (fun R => y_box r (v := (.agg (planC a0).toArray)) rfl) rfl fun fr b1 w2 n3 r => ?_
 obtain ⟨e_b1, z_w2, h_b1, hB, zB⟩ := n3.all hB
 refine seq_val (.bool false) r (fun R => zz05 r rfl) rfl fun fr r => ?_
 refine wn ?_
 refine wsr ?_
 refine seq_val _ r (fun R => zz02 r (o := 0) rfl fo25_0) rfl fun fr r => ?_
 refine seq_val (I a0.nodes) r (fun R => zz01 r rfl h_b1 to3 rfl) rfl fun fr r => ?_
 refine seq_val (.agg (boundC (⟨a0.nodes, 1, 1048576⟩ : Bound)).toArray) r (fun R => y_build r (by kernel_rfl)) rfl fun fr r => ?_
 refine seq_val _ r (fun R => zz02 r (o := 0) rfl fo25_1) rfl fun fr r => ?_
 refine seq_val (I a0.threads) r (fun R => zz01 r rfl h_b1 to3 rfl) rfl fun fr r => ?_
 refine seq_val (.agg (boundC (⟨a0.threads, 1, 16⟩ : Bound)).toArray) r (fun R => y_build r (by kernel_rfl)) rfl fun fr r => ?_
 refine seq_val _ r (fun R => zz02 r (o := 0) rfl fo25_3) rfl fun fr r => ?_
 refine seq_val (I a0.domains) r (fun R => zz01 r rfl h_b1 to3 rfl) rfl fun fr r => ?_
 refine seq_val (.agg (boundC (⟨a0.domains, 0, 64⟩ : Bound)).toArray) r (fun R => y_build r (by kernel_rfl)) rfl fun fr r => ?_
 refine seq_val _ r (fun R => zz02 r (o := 0) rfl fo25_4) rfl fun fr r => ?_
 refine seq_val (I a0.buckets) r (fun R => zz01 r rfl h_b1 to3 rfl) rfl fun fr r => ?_
 refine seq_val (.agg (boundC (⟨a0.buckets, 1, 256⟩ : Bound)).toArray) r (fun R => y_build r (by kernel_rfl)) rfl fun fr r => ?_
 refine seq_val _ r (fun R => zz02 r (o := 0) rfl fo25_5) rfl fun fr r => ?_
 refine seq_val (I a0.gen) r (fun R => zz01 r rfl h_b1 to3 rfl) rfl fun fr r => ?_
 refine seq_val (.agg (boundC (⟨a0.gen, 1, 1073741823⟩ : Bound)).toArray) r (fun R => y_build r (by kernel_rfl)) rfl fun fr r => ?_
 refine zzdj (.cells ((boundsC [(⟨a0.nodes, 1, 1048576⟩ : Bound), (⟨a0.threads, 1, 16⟩ : Bound), (⟨a0.domains, 0, 64⟩ : Bound), (⟨a0.buckets, 1, 256⟩ : Bound), (⟨a0.gen, 1, 1073741823⟩ : Bound)])).toArray 216 (0, 0)) 5 r (fun R => zz44 r (by kernel_rfl)) rfl fun fr b4 w5 n6 r => ?_
 have h_b1 := keep n6.below h_b1
 obtain ⟨e_b4, z_w5, h_b4, hB, zB⟩ := n6.all hB
 refine zz04 r (zz8g w5 ([(⟨a0.nodes, 1, 1048576⟩ : Bound), (⟨a0.threads, 1, 16⟩ : Bound), (⟨a0.domains, 0, 64⟩ : Bound), (⟨a0.buckets, 1, 256⟩ : Bound), (⟨a0.gen, 1, 1073741823⟩ : Bound)]) h_b4 (by first | assumption | decide | (simp; done))) (fun R hc => y_call r rfl cl235 hc) rfl ?_
 rintro _ w7 ⟨rfl, hb⟩
 refine ⟨_, rfl, fun fr r => ?_⟩
 have z_w7 := hb.size
 have h_b1 := keep hb h_b1
 have h_b4 := keep hb h_b4
 obtain ⟨hB, zB⟩ := bon hb hB
 refine seq_val (.bool (D.zz14 ([(⟨a0.nodes, 1, 1048576⟩ : Bound), (⟨a0.threads, 1, 16⟩ : Bound), (⟨a0.domains, 0, 64⟩ : Bound), (⟨a0.buckets, 1, 256⟩ : Bound), (⟨a0.gen, 1, 1073741823⟩ : Bound)]))) r (fun R => y_move r rfl) rfl fun fr r => ?_
 refine zz0x (D.zz14 ([(⟨a0.nodes, 1, 1048576⟩ : Bound), (⟨a0.threads, 1, 16⟩ : Bound), (⟨a0.domains, 0, 64⟩ : Bound), (⟨a0.buckets, 1, 256⟩ : Bound), (⟨a0.gen, 1, 1073741823⟩ : Bound)])) (fun h8 => ?_) (fun h8 => ?_)
 ·
  refine s1 r h8 ?_
  refine seq_val _ r (fun R => zz02 r (o := 0) rfl fo25_2) rfl fun fr r => ?_
  refine s1 r h8 ?_
  refine seq_val (I a0.retire) r (fun R => zz01 r rfl h_b1 to3 rfl) rfl fun fr r => ?_
  refine s1 r h8 ?_
  refine seq_val _ r (fun R => zz02 r (o := 0) rfl fo25_1) rfl fun fr r => ?_
  refine s1 r h8 ?_
  refine seq_val (I a0.threads) r (fun R => zz01 r rfl h_b1 to3 rfl) rfl fun fr r => ?_
  refine s1 r h8 ?_
  refine seq_val _ r (fun R => y_bin r rfl rfl rfl rfl) rfl fun fr r => ?_
  refine s1 r h8 ?_
  refine seq_val _ r (fun R => y_bin r rfl rfl rfl rfl) rfl fun fr r => ?_
  refine s1 r h8 ?_
  refine seq_val (.agg (boundC (⟨a0.retire, (W ((W (3 * a0.threads)) + 1)), 1024⟩ : Bound)).toArray) r (fun R => y_build r (by kernel_rfl)) rfl fun fr r => ?_
  refine s1 r h8 ?_
  refine zzdj (.cells ((boundsC [(⟨a0.retire, (W ((W (3 * a0.threads)) + 1)), 1024⟩ : Bound)])).toArray 216 (0, 0)) 1 r (fun R => zz44 r (by kernel_rfl)) rfl fun fr b9 w10 n11 r => ?_
  have h_b1 := keep n11.below h_b1
  have h_b4 := keep n11.below h_b4
  obtain ⟨e_b9, z_w10, h_b9, hB, zB⟩ := n11.all hB
  refine s1 r h8 ?_
  refine zz04 r (zz8g w10 ([(⟨a0.retire, (W ((W (3 * a0.threads)) + 1)), 1024⟩ : Bound)]) h_b9 (by first | assumption | decide | (simp; done))) (fun R hc => y_call r rfl cl235 hc) rfl ?_
  rintro _ w12 ⟨rfl, hb⟩
  refine ⟨_, rfl, fun fr r => ?_⟩
  have z_w12 := hb.size
  have h_b1 := keep hb h_b1
  have h_b4 := keep hb h_b4
  have h_b9 := keep hb h_b9
  obtain ⟨hB, zB⟩ := bon hb hB
  refine seq_val (.bool (D.zz14 ([(⟨a0.retire, (W ((W (3 * a0.threads)) + 1)), 1024⟩ : Bound)]))) r (fun R => y_pick r (b := true) (congrArg Value.bool h8) rfl) rfl fun fr r => ?_
  refine seq_val (.bool (D.zz14 ([(⟨a0.retire, (W ((W (3 * a0.threads)) + 1)), 1024⟩ : Bound)]))) r (fun R => zz05 r rfl) rfl fun fr r => ?_
  refine wn ?_
  refine wp_ret ?_
  have hd : D.zz0z a0 = (D.zz14 ([(⟨a0.retire, (W ((W (3 * a0.threads)) + 1)), 1024⟩ : Bound)])) := (cond_t h8).trans (rfl)
  refine ret_tmp r rfl rfl ?_
  rw [hd]
  exact ⟨rfl, hB⟩
 ·
  refine s0 r h8 fun fr r => ?_
  refine s0 r h8 fun fr r => ?_
  refine s0 r h8 fun fr r => ?_
  refine s0 r h8 fun fr r => ?_
  refine s0 r h8 fun fr r => ?_
  refine s0 r h8 fun fr r => ?_
  refine s0 r h8 fun fr r => ?_
  refine s0 r h8 fun fr r => ?_
  refine s0 r h8 fun fr r => ?_
  refine seq_val (.bool false) r (fun R => y_pick r (b := false) (congrArg Value.bool h8) rfl) rfl fun fr r => ?_
  refine seq_val (.bool false) r (fun R => zz05 r rfl) rfl fun fr r => ?_
  refine wn ?_
  refine wp_ret ?_
  have hd : D.zz0z a0 = false := (cond_f h8).trans (rfl)
  refine ret_tmp r rfl rfl ?_
  rw [hd]
  exact ⟨rfl, hB⟩

def D.zz0k (a0 : Plan) : Int := (maxI 2 a0.buckets)

theorem zz57 (w0 : World) 
    (a0 : Plan) :
    Calls Tryz.prog 166 #[.agg (planC a0).toArray] w0 (PureRes (.int .i64 (D.zz0k a0)) w0) := by
 refine enter Tryz.func166 rfl 6 rfl rfl fun fr r => ?_
 have hB := Below.refl w0.heap.size w0
 refine wsr ?_
 refine seq_new (.cells ((planC a0)).toArray 25 (0, 0)) r (fun R => y_box r (v := (.agg (planC a0).toArray)) rfl) rfl fun fr b1 w2 n3 r => ?_
 obtain ⟨e_b1, z_w2, h_b1, hB, zB⟩ := n3.all hB
 refine seq_val (I 0) r (fun R => zz05 r rfl) rfl fun fr r => ?_
 refine wn ?_
 refine wsr ?_
 refine seq_val _ r (fun R => zz02 r (o := 0) rfl fo25_4) rfl fun fr r => ?_
 refine seq_val (I a0.buckets) r (fun R => zz01 r rfl h_b1 to3 rfl) rfl fun fr r => ?_
 refine seq_val (I (maxI 2 a0.buckets)) r (fun R => y_max r (m := 2) (n := a0.buckets) rfl rfl) rfl fun fr r => ?_
 refine seq_val (I (maxI 2 a0.buckets)) r (fun R => zz05 r rfl) rfl fun fr r => ?_
 refine wn ?_
 refine wp_ret ?_
 refine ret_tmp r rfl rfl ?_
 exact ⟨rfl, hB⟩

def D.zz15 (a0 : Plan) : Int := (IntKind.i64.wrap (1 + (IntKind.i64.wrap (a0.domains * (IntKind.i64.wrap (1 + (D.zz0k a0)))))))

theorem zz6a (w0 : World) 
    (a0 : Plan) :
    Calls Tryz.prog 143 #[.agg (planC a0).toArray] w0 (PureRes (.int .i64 (D.zz15 a0)) w0) := by
 refine enter Tryz.func143 rfl 10 rfl rfl fun fr r => ?_
 have hB := Below.refl w0.heap.size w0
 refine wsr ?_
 refine seq_new (.cells ((planC a0)).toArray 25 (0, 0)) r (fun R => y_box r (v := (.agg (planC a0).toArray)) rfl) rfl fun fr b1 w2 n3 r => ?_
 obtain ⟨e_b1, z_w2, h_b1, hB, zB⟩ := n3.all hB
 refine seq_val (I 0) r (fun R => zz05 r rfl) rfl fun fr r => ?_
 refine wn ?_
 refine wp_seq ?_
 refine zz0s 7 [.val (.pointer (some ⟨b1, 3, none⟩)), .val (I a0.domains), .val (.agg (planC a0).toArray), .val (I (D.zz0k a0)), .val (I (W (1 + (D.zz0k a0)))), .val (I (W (a0.domains * (W (1 + (D.zz0k a0)))))), .val (I (W (1 + (W (a0.domains * (W (1 + (D.zz0k a0))))))))] mixed r (by kernel_rfl) (zz00 (by exact trivial) (zz00 (by exact trivial) (zz00 (by exact trivial) (zz00 (by exact trivial) (zz00 (by exact trivial) (zz00 (by exact trivial) (zz00 (by exact trivial) zz0m))))))) ?_ ?_
 ·
  refine ec r (fun _ u _ b d s => zz02 s (b := b1) (o := 0) rfl fo25_3 bz) ?_
  refine ec r (fun _ u _ b d s => zz01 s d.1 (keep b h_b1) to3 rfl bz) ?_
  refine ec r (fun _ u _ b d s => zz03 s (cs := (planC a0)) (n := 6) rfl (keep b h_b1) ta25 rfl bz) ?_
  refine ec r (fun fr1 u w' hb' hd r' => y_call r' (args := [(.agg (planC a0).toArray)]) (lc hd.1 l0) cl166 ((zz57 _ a0).mono (by rintro _ w2 ⟨rfl, hb2⟩; exact ⟨_, rfl, hb2, rfl⟩))) ?_
  refine ec r (fun _ u _ b d s => y_bin s rfl d.1 rfl rfl bz) ?_
  refine ec r (fun _ u _ b d s => y_bin s d.1 d.2.1 rfl rfl bz) ?_
  refine ec r (fun _ u _ b d s => y_bin s rfl d.1 rfl rfl bz) ?_
  exact zz10
 ·
  intro fr u w4 hb hΦ hne r
  have r := r.congr (sc (hΦ 6 (by decide)) (sc (hΦ 5 (by decide)) (sc (hΦ 4 (by decide)) (sc (hΦ 3 (by decide)) (sc (hΦ 2 (by decide)) (sc (hΦ 1 (by decide)) (sc (hΦ 0 (by decide)) rfl)))))))
  have z_w4 := hb.size
  have h_b1 := keep hb h_b1
  obtain ⟨hB, zB⟩ := bon hb hB
  refine seq_val (I (W (1 + (W (a0.domains * (W (1 + (D.zz0k a0)))))))) r (fun R => zz05 r rfl) rfl fun fr r => ?_
  refine wn ?_
  refine wp_ret ?_
  refine ret_tmp r rfl rfl ?_
  exact ⟨rfl, hB⟩

def D.zz0r (a0 : Plan) : Int := (IntKind.i64.wrap ((D.zz15 a0) + (IntKind.i64.wrap (a0.threads * 3))))

theorem zz4l (w0 : World) 
    (a0 : Plan) :
    Calls Tryz.prog 261 #[.agg (planC a0).toArray] w0 (PureRes (.int .i64 (D.zz0r a0)) w0) := by
 refine enter Tryz.func261 rfl 9 rfl rfl fun fr r => ?_
 have hB := Below.refl w0.heap.size w0
 refine wsr ?_
 refine seq_new (.cells ((planC a0)).toArray 25 (0, 0)) r (fun R => y_box r (v := (.agg (planC a0).toArray)) rfl) rfl fun fr b1 w2 n3 r => ?_
 obtain ⟨e_b1, z_w2, h_b1, hB, zB⟩ := n3.all hB
 refine seq_val (I 0) r (fun R => zz05 r rfl) rfl fun fr r => ?_
 refine wn ?_
 refine wp_seq ?_
 refine zz0s 6 [.val (.agg (planC a0).toArray), .val (I (D.zz15 a0)), .val (.pointer (some ⟨b1, 1, none⟩)), .val (I a0.threads), .val (I (W (a0.threads * 3))), .val (I (W ((D.zz15 a0) + (W (a0.threads * 3)))))] mixed r (by kernel_rfl) (zz00 (by exact trivial) (zz00 (by exact trivial) (zz00 (by exact trivial) (zz00 (by exact trivial) (zz00 (by exact trivial) (zz00 (by exact trivial) zz0m)))))) ?_ ?_
 ·
  refine ec r (fun _ u _ b d s => zz03 s (cs := (planC a0)) (n := 6) rfl (keep b h_b1) ta25 rfl bz) ?_
  refine ec r (fun fr1 u w' hb' hd r' => y_call r' (args := [(.agg (planC a0).toArray)]) (lc hd.1 l0) cl143 ((zz6a _ a0).mono (by rintro _ w2 ⟨rfl, hb2⟩; exact ⟨_, rfl, hb2, rfl⟩))) ?_
  refine ec r (fun _ u _ b d s => zz02 s (b := b1) (o := 0) rfl fo25_1 bz) ?_
  refine ec r (fun _ u _ b d s => zz01 s d.1 (keep b h_b1) to3 rfl bz) ?_
  refine ec r (fun _ u _ b d s => y_bin s d.1 rfl rfl rfl bz) ?_
  refine ec r (fun _ u _ b d s => y_bin s d.1 d.2.1 rfl rfl bz) ?_
  exact zz10
 ·
  intro fr u w4 hb hΦ hne r
  have r := r.congr (sc (hΦ 5 (by decide)) (sc (hΦ 4 (by decide)) (sc (hΦ 3 (by decide)) (sc (hΦ 2 (by decide)) (sc (hΦ 1 (by decide)) (sc (hΦ 0 (by decide)) rfl))))))
  have z_w4 := hb.size
  have h_b1 := keep hb h_b1
  obtain ⟨hB, zB⟩ := bon hb hB
  refine seq_val (I (W ((D.zz15 a0) + (W (a0.threads * 3))))) r (fun R => zz05 r rfl) rfl fun fr r => ?_
  refine wn ?_
  refine wp_ret ?_
  refine ret_tmp r rfl rfl ?_
  exact ⟨rfl, hB⟩

def D.zz0g (a0 : Plan) : Int := (IntKind.i64.wrap ((D.zz0r a0) + (IntKind.i64.wrap (a0.threads * (IntKind.i64.wrap (1 + a0.retire))))))

theorem zz3q (w0 : World) 
    (a0 : Plan) :
    Calls Tryz.prog 158 #[.agg (planC a0).toArray] w0 (PureRes (.int .i64 (D.zz0g a0)) w0) := by
 refine enter Tryz.func158 rfl 12 rfl rfl fun fr r => ?_
 have hB := Below.refl w0.heap.size w0
 refine wsr ?_
 refine seq_new (.cells ((planC a0)).toArray 25 (0, 0)) r (fun R => y_box r (v := (.agg (planC a0).toArray)) rfl) rfl fun fr b1 w2 n3 r => ?_
 obtain ⟨e_b1, z_w2, h_b1, hB, zB⟩ := n3.all hB
 refine seq_val (I 0) r (fun R => zz05 r rfl) rfl fun fr r => ?_
 refine wn ?_
 refine wp_seq ?_
 refine zz0s 9 [.val (.agg (planC a0).toArray), .val (I (D.zz0r a0)), .val (.pointer (some ⟨b1, 1, none⟩)), .val (I a0.threads), .val (.pointer (some ⟨b1, 2, none⟩)), .val (I a0.retire), .val (I (W (1 + a0.retire))), .val (I (W (a0.threads * (W (1 + a0.retire))))), .val (I (W ((D.zz0r a0) + (W (a0.threads * (W (1 + a0.retire)))))))] mixed r (by kernel_rfl) (zz00 (by exact trivial) (zz00 (by exact trivial) (zz00 (by exact trivial) (zz00 (by exact trivial) (zz00 (by exact trivial) (zz00 (by exact trivial) (zz00 (by exact trivial) (zz00 (by exact trivial) (zz00 (by exact trivial) zz0m))))))))) ?_ ?_
 ·
  refine ec r (fun _ u _ b d s => zz03 s (cs := (planC a0)) (n := 6) rfl (keep b h_b1) ta25 rfl bz) ?_
  refine ec r (fun fr1 u w' hb' hd r' => y_call r' (args := [(.agg (planC a0).toArray)]) (lc hd.1 l0) cl261 ((zz4l _ a0).mono (by rintro _ w2 ⟨rfl, hb2⟩; exact ⟨_, rfl, hb2, rfl⟩))) ?_
  refine ec r (fun _ u _ b d s => zz02 s (b := b1) (o := 0) rfl fo25_1 bz) ?_
  refine ec r (fun _ u _ b d s => zz01 s d.1 (keep b h_b1) to3 rfl bz) ?_
  refine ec r (fun _ u _ b d s => zz02 s (b := b1) (o := 0) rfl fo25_2 bz) ?_
  refine ec r (fun _ u _ b d s => zz01 s d.1 (keep b h_b1) to3 rfl bz) ?_
  refine ec r (fun _ u _ b d s => y_bin s rfl d.1 rfl rfl bz) ?_
  refine ec r (fun _ u _ b d s => y_bin s d.1 d.2.1 rfl rfl bz) ?_
  refine ec r (fun _ u _ b d s => y_bin s d.1 d.2.1 rfl rfl bz) ?_
  exact zz10
 ·
  intro fr u w4 hb hΦ hne r
  have r := r.congr (sc (hΦ 8 (by decide)) (sc (hΦ 7 (by decide)) (sc (hΦ 6 (by decide)) (sc (hΦ 5 (by decide)) (sc (hΦ 4 (by decide)) (sc (hΦ 3 (by decide)) (sc (hΦ 2 (by decide)) (sc (hΦ 1 (by decide)) (sc (hΦ 0 (by decide)) rfl)))))))))
  have z_w4 := hb.size
  have h_b1 := keep hb h_b1
  obtain ⟨hB, zB⟩ := bon hb hB
  refine seq_val (I (W ((D.zz0r a0) + (W (a0.threads * (W (1 + a0.retire))))))) r (fun R => zz05 r rfl) rfl fun fr r => ?_
  refine wn ?_
  refine wp_ret ?_
  refine ret_tmp r rfl rfl ?_
  exact ⟨rfl, hB⟩

def D.zz1y (a0 : Plan) : Int := (bif (!(D.zz0z a0)) then 0 else (IntKind.i64.wrap ((D.zz0g a0) + (IntKind.i64.wrap (a0.nodes * 5)))))

theorem zzc5 (w0 : World) 
    (a0 : Plan) :
    Calls Tryz.prog 109 #[.agg (planC a0).toArray] w0 (PureRes (.int .i64 (D.zz1y a0)) w0) := by
 refine enter Tryz.func109 rfl 12 rfl rfl fun fr r => ?_
 have hB := Below.refl w0.heap.size w0
 refine wsr ?_
 refine seq_new (.cells ((planC a0)).toArray 25 (0, 0)) r (fun R => y_box r (v := (.agg (planC a0).toArray)) rfl) rfl fun fr b1 w2 n3 r => ?_
 obtain ⟨e_b1, z_w2, h_b1, hB, zB⟩ := n3.all hB
 refine seq_val (I 0) r (fun R => zz05 r rfl) rfl fun fr r => ?_
 refine wn ?_
 refine wp_seq ?_
 refine wsr ?_
 refine seq_val (.agg (planC a0).toArray) r (fun R => zz03 r (cs := (planC a0)) (n := 6) rfl h_b1 ta25 rfl) rfl fun fr r => ?_
 refine zz04 r (zz4q w2 a0) (fun R hc => y_call r rfl cl136 hc) rfl ?_
 rintro _ w4 ⟨rfl, hb⟩
 refine ⟨_, rfl, fun fr r => ?_⟩
 have z_w4 := hb.size
 have h_b1 := keep hb h_b1
 obtain ⟨hB, zB⟩ := bon hb hB
 refine seq_val (.bool (!(D.zz0z a0))) r (fun R => y_un r (u := (.bool (D.zz0z a0))) rfl rfl) rfl fun fr r => ?_
 refine wn ?_
 refine wp_cond_split (t := (!(D.zz0z a0))) (r.ev rfl) (fun h5 => ?_) (fun h5 => ?_)
 ·
  refine wsr ?_
  refine seq_val (I 0) r (fun R => zz05 r rfl) rfl fun fr r => ?_
  refine wn ?_
  refine wp_ret ?_
  have hd : D.zz1y a0 = 0 := (cond_t h5).trans (rfl)
  refine ret_tmp r rfl rfl ?_
  rw [hd]
  exact ⟨rfl, hB⟩
 ·
  refine wp_skip ?_
  refine wp_seq ?_
  refine zz0s 6 [.val (.agg (planC a0).toArray), .val (I (D.zz0g a0)), .val (.pointer (some ⟨b1, 0, none⟩)), .val (I a0.nodes), .val (I (W (a0.nodes * 5))), .val (I (W ((D.zz0g a0) + (W (a0.nodes * 5)))))] mixed r (by kernel_rfl) (zz00 (by exact trivial) (zz00 (by exact trivial) (zz00 (by exact trivial) (zz00 (by exact trivial) (zz00 (by exact trivial) (zz00 (by exact trivial) zz0m)))))) ?_ ?_
  ·
   refine ec r (fun _ u _ b d s => zz03 s (cs := (planC a0)) (n := 6) rfl (keep b h_b1) ta25 rfl bz) ?_
   refine ec r (fun fr1 u w' hb' hd r' => y_call r' (args := [(.agg (planC a0).toArray)]) (lc hd.1 l0) cl158 ((zz3q _ a0).mono (by rintro _ w2 ⟨rfl, hb2⟩; exact ⟨_, rfl, hb2, rfl⟩))) ?_
   refine ec r (fun _ u _ b d s => zz02 s (b := b1) (o := 0) rfl fo25_0 bz) ?_
   refine ec r (fun _ u _ b d s => zz01 s d.1 (keep b h_b1) to3 rfl bz) ?_
   refine ec r (fun _ u _ b d s => y_bin s d.1 rfl rfl rfl bz) ?_
   refine ec r (fun _ u _ b d s => y_bin s d.1 d.2.1 rfl rfl bz) ?_
   exact zz10
  ·
   intro fr u w6 hb hΦ hne r
   have r := r.congr (sc (hΦ 5 (by decide)) (sc (hΦ 4 (by decide)) (sc (hΦ 3 (by decide)) (sc (hΦ 2 (by decide)) (sc (hΦ 1 (by decide)) (sc (hΦ 0 (by decide)) rfl))))))
   have z_w6 := hb.size
   have h_b1 := keep hb h_b1
   obtain ⟨hB, zB⟩ := bon hb hB
   refine seq_val (I (W ((D.zz0g a0) + (W (a0.nodes * 5))))) r (fun R => zz05 r rfl) rfl fun fr r => ?_
   refine wn ?_
   refine wp_ret ?_
   have hd : D.zz1y a0 = (W ((D.zz0g a0) + (W (a0.nodes * 5)))) := (cond_f h5).trans (rfl)
   refine ret_tmp r rfl rfl ?_
   rw [hd]
   exact ⟨rfl, hB⟩

def D.zz0h (a0 : Plan) (a1 : Int) (a2 : List Bound) : Int := (bif (!(D.zz0z a0)) then (-1) else (bif (!(D.zz14 a2)) then (-1) else a1))

theorem zz1w (w0 : World) 
    (a0 : Plan) (a1 : Int) (a2 : List Bound) {a2_b : Nat} (a2_h : w0.heap[a2_b]? = some (.cells ((boundsC a2)).toArray 216 (0, 0))) (pre0 : a2.length ≤ 8) :
    Calls Tryz.prog 142 #[.agg (planC a0).toArray, .int .i64 a1, .slice (some ⟨a2_b, 0, none⟩) a2.length a2.length] w0 (PureRes (.int .i64 (D.zz0h a0 a1 a2)) w0) := by
 refine enter Tryz.func142 rfl 16 rfl rfl fun fr r => ?_
 have hB := Below.refl w0.heap.size w0
 have l_a2_b := lt_of_block a2_h
 refine wsr ?_
 refine seq_new (.cells ((planC a0)).toArray 25 (0, 0)) r (fun R => y_box r (v := (.agg (planC a0).toArray)) rfl) rfl fun fr b1 w2 n3 r => ?_
 have a2_h := keep n3.below a2_h
 obtain ⟨e_b1, z_w2, h_b1, hB, zB⟩ := n3.all hB
 refine seq_val (I 0) r (fun R => zz05 r rfl) rfl fun fr r => ?_
 refine wn ?_
 refine wp_seq ?_
 refine wsr ?_
 refine seq_val (.agg (planC a0).toArray) r (fun R => zz03 r (cs := (planC a0)) (n := 6) rfl h_b1 ta25 rfl) rfl fun fr r => ?_
 refine zz04 r (zz4q w2 a0) (fun R hc => y_call r rfl cl136 hc) rfl ?_
 rintro _ w4 ⟨rfl, hb⟩
 refine ⟨_, rfl, fun fr r => ?_⟩
 have z_w4 := hb.size
 have a2_h := keep hb a2_h
 have h_b1 := keep hb h_b1
 obtain ⟨hB, zB⟩ := bon hb hB
 refine seq_val (.bool (!(D.zz0z a0))) r (fun R => y_un r (u := (.bool (D.zz0z a0))) rfl rfl) rfl fun fr r => ?_
 refine seq_val (.bool (!(D.zz0z a0))) r (fun R => y_move r rfl) rfl fun fr r => ?_
 refine zz0x (!(D.zz0z a0)) (fun h5 => ?_) (fun h5 => ?_)
 ·
  refine s0 r h5 fun fr r => ?_
  refine s0 r h5 fun fr r => ?_
  refine s0 r h5 fun fr r => ?_
  refine seq_val (.bool true) r (fun R => y_pick r (b := true) (congrArg Value.bool h5) rfl) rfl fun fr r => ?_
  refine wn ?_
  refine wp_cond_split (t := true) (r.ev rfl) (fun _ => ?_) (fun h => absurd ((rfl : true = _).symm.trans h) (by decide))
  refine wsr ?_
  refine seq_val (I (-1)) r (fun R => zz05 r rfl) rfl fun fr r => ?_
  refine wn ?_
  refine wp_ret ?_
  have hd : D.zz0h a0 a1 a2 = (-1) := (cond_t h5).trans (rfl)
  refine ret_tmp r rfl rfl ?_
  rw [hd]
  exact ⟨rfl, hB⟩
 ·
  refine s1 r h5 ?_
  refine seq_val (.slice (some ⟨a2_b, 0, none⟩) a2.length a2.length) r (fun R => y_move r rfl) rfl fun fr r => ?_
  refine s1 r h5 ?_
  refine zz04 r (zz8g w4 a2 a2_h (by first | assumption | decide | (simp; done))) (fun R hc => y_call r rfl cl235 hc) rfl ?_
  rintro _ w6 ⟨rfl, hb⟩
  refine ⟨_, rfl, fun fr r => ?_⟩
  have z_w6 := hb.size
  have a2_h := keep hb a2_h
  have h_b1 := keep hb h_b1
  obtain ⟨hB, zB⟩ := bon hb hB
  refine s1 r h5 ?_
  refine seq_val (.bool (!(D.zz14 a2))) r (fun R => y_un r (u := (.bool (D.zz14 a2))) rfl rfl) rfl fun fr r => ?_
  refine seq_val (.bool (!(D.zz14 a2))) r (fun R => y_pick r (b := false) (congrArg Value.bool h5) rfl) rfl fun fr r => ?_
  refine wn ?_
  refine wp_cond_split (t := (!(D.zz14 a2))) (r.ev rfl) (fun h7 => ?_) (fun h7 => ?_)
  ·
   refine wsr ?_
   refine seq_val (I (-1)) r (fun R => zz05 r rfl) rfl fun fr r => ?_
   refine wn ?_
   refine wp_ret ?_
   have hd : D.zz0h a0 a1 a2 = (-1) := (cond_f h5).trans ((cond_t h7).trans (rfl))
   refine ret_tmp r rfl rfl ?_
   rw [hd]
   exact ⟨rfl, hB⟩
  ·
   refine wp_skip ?_
   refine wsr ?_
   refine seq_val (I a1) r (fun R => y_move r rfl) rfl fun fr r => ?_
   refine seq_val (I a1) r (fun R => zz05 r rfl) rfl fun fr r => ?_
   refine wn ?_
   refine wp_ret ?_
   have hd : D.zz0h a0 a1 a2 = a1 := (cond_f h5).trans ((cond_f h7).trans (rfl))
   refine ret_tmp r rfl rfl ?_
   rw [hd]
   exact ⟨rfl, hB⟩

theorem zz90 (w0 : World) 
    (a0 : Plan) (a1 : Int) :
    Calls Tryz.prog 142 #[.agg (planC a0).toArray, .int .i64 a1, .slice none 0 0] w0 (PureRes (.int .i64 (D.zz0h a0 a1 ([]))) w0) := by
 refine enter Tryz.func142 rfl 16 rfl rfl fun fr r => ?_
 have hB := Below.refl w0.heap.size w0
 refine wsr ?_
 refine seq_new (.cells ((planC a0)).toArray 25 (0, 0)) r (fun R => y_box r (v := (.agg (planC a0).toArray)) rfl) rfl fun fr b1 w2 n3 r => ?_
 obtain ⟨e_b1, z_w2, h_b1, hB, zB⟩ := n3.all hB
 refine seq_val (I 0) r (fun R => zz05 r rfl) rfl fun fr r => ?_
 refine wn ?_
 refine wp_seq ?_
 refine wsr ?_
 refine seq_val (.agg (planC a0).toArray) r (fun R => zz03 r (cs := (planC a0)) (n := 6) rfl h_b1 ta25 rfl) rfl fun fr r => ?_
 refine zz04 r (zz4q w2 a0) (fun R hc => y_call r rfl cl136 hc) rfl ?_
 rintro _ w4 ⟨rfl, hb⟩
 refine ⟨_, rfl, fun fr r => ?_⟩
 have z_w4 := hb.size
 have h_b1 := keep hb h_b1
 obtain ⟨hB, zB⟩ := bon hb hB
 refine seq_val (.bool (!(D.zz0z a0))) r (fun R => y_un r (u := (.bool (D.zz0z a0))) rfl rfl) rfl fun fr r => ?_
 refine seq_val (.bool (!(D.zz0z a0))) r (fun R => y_move r rfl) rfl fun fr r => ?_
 refine zz0x (!(D.zz0z a0)) (fun h5 => ?_) (fun h5 => ?_)
 ·
  refine s0 r h5 fun fr r => ?_
  refine s0 r h5 fun fr r => ?_
  refine s0 r h5 fun fr r => ?_
  refine seq_val (.bool true) r (fun R => y_pick r (b := true) (congrArg Value.bool h5) rfl) rfl fun fr r => ?_
  refine wn ?_
  refine wp_cond_split (t := true) (r.ev rfl) (fun _ => ?_) (fun h => absurd ((rfl : true = _).symm.trans h) (by decide))
  refine wsr ?_
  refine seq_val (I (-1)) r (fun R => zz05 r rfl) rfl fun fr r => ?_
  refine wn ?_
  refine wp_ret ?_
  have hd : D.zz0h a0 a1 [] = (-1) := (cond_t h5).trans (rfl)
  refine ret_tmp r rfl rfl ?_
  rw [hd]
  exact ⟨rfl, hB⟩
 ·
  refine s1 r h5 ?_
  refine seq_val (.slice none 0 0) r (fun R => y_move r rfl) rfl fun fr r => ?_
  refine s1 r h5 ?_
  refine zz04 r (zzbs w4 ) (fun R hc => y_call r rfl cl235 hc) rfl ?_
  rintro _ w6 ⟨rfl, hb⟩
  refine ⟨_, rfl, fun fr r => ?_⟩
  have z_w6 := hb.size
  have h_b1 := keep hb h_b1
  obtain ⟨hB, zB⟩ := bon hb hB
  refine s1 r h5 ?_
  refine seq_val (.bool (!(D.zz14 ([])))) r (fun R => y_un r (u := (.bool (D.zz14 ([])))) rfl rfl) rfl fun fr r => ?_
  refine seq_val (.bool (!(D.zz14 ([])))) r (fun R => y_pick r (b := false) (congrArg Value.bool h5) rfl) rfl fun fr r => ?_
  refine wn ?_
  refine wp_cond_split (t := (!(D.zz14 ([])))) (r.ev rfl) (fun h7 => ?_) (fun h7 => ?_)
  ·
   refine wsr ?_
   refine seq_val (I (-1)) r (fun R => zz05 r rfl) rfl fun fr r => ?_
   refine wn ?_
   refine wp_ret ?_
   have hd : D.zz0h a0 a1 [] = (-1) := (cond_f h5).trans ((cond_t h7).trans (rfl))
   refine ret_tmp r rfl rfl ?_
   rw [hd]
   exact ⟨rfl, hB⟩
  ·
   refine wp_skip ?_
   refine wsr ?_
   refine seq_val (I a1) r (fun R => y_move r rfl) rfl fun fr r => ?_
   refine seq_val (I a1) r (fun R => zz05 r rfl) rfl fun fr r => ?_
   refine wn ?_
   refine wp_ret ?_
   have hd : D.zz0h a0 a1 [] = a1 := (cond_f h5).trans ((cond_f h7).trans (rfl))
   refine ret_tmp r rfl rfl ?_
   rw [hd]
   exact ⟨rfl, hB⟩

def D.zz18 (a0 : Plan) : Int := (D.zz0h a0 0 ([]))

theorem zz36 (w0 : World) 
    (a0 : Plan) :
    Calls Tryz.prog 162 #[.agg (planC a0).toArray] w0 (PureRes (.int .i64 (D.zz18 a0)) w0) := by
 refine enter Tryz.func162 rfl 5 rfl rfl fun fr r => ?_
 have hB := Below.refl w0.heap.size w0
 refine wsr ?_
 refine seq_new (.cells ((planC a0)).toArray 25 (0, 0)) r (fun R => y_box r (v := (.agg (planC a0).toArray)) rfl) rfl fun fr b1 w2 n3 r => ?_
 obtain ⟨e_b1, z_w2, h_b1, hB, zB⟩ := n3.all hB
 refine seq_val (I 0) r (fun R => zz05 r rfl) rfl fun fr r => ?_
 refine wn ?_
 refine wsr ?_
 refine seq_val (.agg (planC a0).toArray) r (fun R => zz03 r (cs := (planC a0)) (n := 6) rfl h_b1 ta25 rfl) rfl fun fr r => ?_
 refine zz04 r (zz90 w2 a0 0) (fun R hc => y_call r rfl cl142 hc) rfl ?_
 rintro _ w4 ⟨rfl, hb⟩
 refine ⟨_, rfl, fun fr r => ?_⟩
 have z_w4 := hb.size
 have h_b1 := keep hb h_b1
 obtain ⟨hB, zB⟩ := bon hb hB
 refine seq_val (I (D.zz0h a0 0 ([]))) r (fun R => zz05 r rfl) rfl fun fr r => ?_
 refine wn ?_
 refine wp_ret ?_
 refine ret_tmp r rfl rfl ?_
 exact ⟨rfl, hB⟩

def D.zz0u (a0 : Plan) (a1 : Int) : Bound := (⟨a1, 0, (IntKind.i64.wrap (a0.nodes - 1))⟩ : Bound)

theorem zz5s (w0 : World) 
    (a0 : Plan) (a1 : Int) :
    Calls Tryz.prog 159 #[.agg (planC a0).toArray, .int .i64 a1] w0 (PureRes (.agg (boundC (D.zz0u a0 a1)).toArray) w0) := by
 refine enter Tryz.func159 rfl 10 rfl rfl fun fr r => ?_
 have hB := Below.refl w0.heap.size w0
 refine wsr ?_
 refine seq_new (.cells ((planC a0)).toArray 25 (0, 0)) r (fun R => y_box r (v := (.agg (planC a0).toArray)) rfl) rfl fun fr b1 w2 n3 r => ?_
 obtain ⟨e_b1, z_w2, h_b1, hB, zB⟩ := n3.all hB
 refine seq_new (.cells ((boundC (⟨0, 0, 0⟩ : Bound))).toArray 216 (0, 0)) r (fun R => y_alloc tz216) rfl fun fr b4 w5 n6 r => ?_
 have h_b1 := keep n6.below h_b1
 obtain ⟨e_b4, z_w5, h_b4, hB, zB⟩ := n6.all hB
 refine wn ?_
 refine wsr ?_
 refine seq_val (I a1) r (fun R => y_move r rfl) rfl fun fr r => ?_
 refine seq_val _ r (fun R => zz02 r (o := 0) rfl fo25_0) rfl fun fr r => ?_
 refine seq_val (I a0.nodes) r (fun R => zz01 r rfl h_b1 to3 rfl) rfl fun fr r => ?_
 refine seq_val _ r (fun R => y_bin r rfl rfl rfl rfl) rfl fun fr r => ?_
 refine seq_val (.agg (boundC (⟨a1, 0, (W (a0.nodes - 1))⟩ : Bound)).toArray) r (fun R => y_build r (by kernel_rfl)) rfl fun fr r => ?_
 refine seq_upd (.cells ((boundC (⟨a1, 0, (W (a0.nodes - 1))⟩ : Bound))).toArray 216 (0, 0)) r (fun R => y_store r (o := 0) (v := (.agg (boundC (⟨a1, 0, (W (a0.nodes - 1))⟩ : Bound)).toArray)) rfl rfl h_b4 ts216 (Nat.le_of_ble_eq_true rfl) rfl rfl) rfl fun fr w7 u8 r => ?_
 have z_w7 := u8.size
 have h_b1 := u8.keep h_b1 (by omega)
 have h_b4 := u8.at_
 obtain ⟨hB, zB⟩ := u8.on hB (by omega)
 refine wn ?_
 refine wp_ret ?_
 refine zz06 r rfl rfl h_b4 (k := 3) rfl ta216 ?_
 exact ⟨rfl, hB⟩

def D.zz1i (a0 : Plan) (a1 : Int) : Int := (D.zz0h a0 (IntKind.i64.wrap ((IntKind.i64.wrap ((D.zz0g a0) + (IntKind.i64.wrap (a1 * 5)))) + 1)) ([(D.zz0u a0 a1)]))

theorem zz45 (w0 : World) 
    (a0 : Plan) (a1 : Int) :
    Calls Tryz.prog 163 #[.agg (planC a0).toArray, .int .i64 a1] w0 (PureRes (.int .i64 (D.zz1i a0 a1)) w0) := by
 refine enter Tryz.func163 rfl 17 rfl rfl fun fr r => ?_
 have hB := Below.refl w0.heap.size w0
 refine wsr ?_
 refine seq_new (.cells ((planC a0)).toArray 25 (0, 0)) r (fun R => y_box r (v := (.agg (planC a0).toArray)) rfl) rfl fun fr b1 w2 n3 r => ?_
 obtain ⟨e_b1, z_w2, h_b1, hB, zB⟩ := n3.all hB
 refine seq_val (I 0) r (fun R => zz05 r rfl) rfl fun fr r => ?_
 refine wn ?_
 refine wp_seq ?_
 refine zz0s 12 [.val (.agg (planC a0).toArray), .val (.agg (planC a0).toArray), .val (I (D.zz0g a0)), .val (I a1), .val (I (W (a1 * 5))), .val (I (W ((D.zz0g a0) + (W (a1 * 5))))), .val (I (W ((W ((D.zz0g a0) + (W (a1 * 5)))) + 1))), .val (.agg (planC a0).toArray), .val (I a1), .val (.agg (boundC (D.zz0u a0 a1)).toArray), .slice w2.heap.size (.cells ((boundsC [(D.zz0u a0 a1)])).toArray 216 (0, 0)) 1, .val (I (D.zz0h a0 (W ((W ((D.zz0g a0) + (W (a1 * 5)))) + 1)) ([(D.zz0u a0 a1)])))] mixed r (by kernel_rfl) (zz00 (by exact trivial) (zz00 (by exact trivial) (zz00 (by exact trivial) (zz00 (by exact trivial) (zz00 (by exact trivial) (zz00 (by exact trivial) (zz00 (by exact trivial) (zz00 (by exact trivial) (zz00 (by exact trivial) (zz00 (by exact trivial) (zz00 (Nat.le_refl _) (zz00 (by exact trivial) zz0m)))))))))))) ?_ ?_
 ·
  refine ec r (fun _ u _ b d s => zz03 s (cs := (planC a0)) (n := 6) rfl (keep b h_b1) ta25 rfl bz) ?_
  refine ec r (fun _ u _ b d s => zz03 s (cs := (planC a0)) (n := 6) rfl (keep b h_b1) ta25 rfl bz) ?_
  refine ec r (fun fr1 u w' hb' hd r' => y_call r' (args := [(.agg (planC a0).toArray)]) (lc hd.1 l0) cl158 ((zz3q _ a0).mono (by rintro _ w2 ⟨rfl, hb2⟩; exact ⟨_, rfl, hb2, rfl⟩))) ?_
  refine ec r (fun _ u _ b d s => y_move s rfl bz) ?_
  refine ec r (fun _ u _ b d s => y_bin s d.1 rfl rfl rfl bz) ?_
  refine ec r (fun _ u _ b d s => y_bin s d.1 d.2.1 rfl rfl bz) ?_
  refine ec r (fun _ u _ b d s => y_bin s d.1 rfl rfl rfl bz) ?_
  refine ec r (fun _ u _ b d s => zz03 s (cs := (planC a0)) (n := 6) rfl (keep b h_b1) ta25 rfl bz) ?_
  refine ec r (fun _ u _ b d s => y_move s rfl bz) ?_
  refine ec r (fun fr1 u w' hb' hd r' => y_call r' (args := [(.agg (planC a0).toArray), (I a1)]) (lc hd.1 (lc hd.2.1 l0)) cl159 ((zz5s _ a0 a1).mono (by rintro _ w2 ⟨rfl, hb2⟩; exact ⟨_, rfl, hb2, rfl⟩))) ?_
  refine ec r (fun fr1 u w' hb' hd r' => zz44 r' (c := ((boundsC [(D.zz0u a0 a1)])).toArray) (E := 216) (bs1 (congrArg (fun z => (0, z)) hd.1) (by kernel_rfl)) (fun b w2 n2 => ⟨n2.below, b, rfl, Nat.le_of_eq n2.eq.symm, n2.at_⟩)) ?_
  refine zz1b r rfl (fun fr1 u w' hb' hd r' => ?_) ?_
  · obtain ⟨d0, d1, d2, d3, _⟩ := hd; obtain ⟨q2, hq2, _, hr2⟩ := d2; exact y_call r' (args := [(.agg (planC a0).toArray), (I (W ((W ((D.zz0g a0) + (W (a1 * 5)))) + 1))), (.slice (some ⟨q2, 0, none⟩) 1 1)]) (lc d0 (lc d1 (lc hq2 l0))) cl142 ((zz1w _ a0 (W ((W ((D.zz0g a0) + (W (a1 * 5)))) + 1)) ([(D.zz0u a0 a1)]) hr2 (by first | assumption | decide | (simp; done))).mono (by rintro _ w2 ⟨rfl, hb2⟩; exact ⟨_, rfl, hb2, rfl⟩))
  exact zz10
 ·
  intro fr u w4 hb hΦ hne r
  obtain ⟨b5, g10, e_b5, h_b5⟩ := hΦ 10 (by decide)
  have l_b5 := lt_of_block h_b5
  have r := r.congr (sc (hΦ 11 (by decide)) (sc g10 (sc (hΦ 9 (by decide)) (sc (hΦ 8 (by decide)) (sc (hΦ 7 (by decide)) (sc (hΦ 6 (by decide)) (sc (hΦ 5 (by decide)) (sc (hΦ 4 (by decide)) (sc (hΦ 3 (by decide)) (sc (hΦ 2 (by decide)) (sc (hΦ 1 (by decide)) (sc (hΦ 0 (by decide)) rfl))))))))))))
  have z_w4 := hb.size
  have h_b1 := keep hb h_b1
  obtain ⟨hB, zB⟩ := bon hb hB
  refine seq_val (I (D.zz0h a0 (W ((W ((D.zz0g a0) + (W (a1 * 5)))) + 1)) ([(D.zz0u a0 a1)]))) r (fun R => zz05 r rfl) rfl fun fr r => ?_
  refine wn ?_
  refine wp_ret ?_
  refine ret_tmp r rfl rfl ?_
  exact ⟨rfl, hB⟩

def D.zz13 (a0 : Plan) (a1 : Int) : Int := (D.zz0h a0 (IntKind.i64.wrap ((D.zz0g a0) + (IntKind.i64.wrap (a1 * 5)))) ([(D.zz0u a0 a1)]))

theorem zz28 (w0 : World) 
    (a0 : Plan) (a1 : Int) :
    Calls Tryz.prog 68 #[.agg (planC a0).toArray, .int .i64 a1] w0 (PureRes (.int .i64 (D.zz13 a0 a1)) w0) := by
 refine enter Tryz.func68 rfl 16 rfl rfl fun fr r => ?_
 have hB := Below.refl w0.heap.size w0
 refine wsr ?_
 refine seq_new (.cells ((planC a0)).toArray 25 (0, 0)) r (fun R => y_box r (v := (.agg (planC a0).toArray)) rfl) rfl fun fr b1 w2 n3 r => ?_
 obtain ⟨e_b1, z_w2, h_b1, hB, zB⟩ := n3.all hB
 refine seq_val (I 0) r (fun R => zz05 r rfl) rfl fun fr r => ?_
 refine wn ?_
 refine wp_seq ?_
 refine zz0s 11 [.val (.agg (planC a0).toArray), .val (.agg (planC a0).toArray), .val (I (D.zz0g a0)), .val (I a1), .val (I (W (a1 * 5))), .val (I (W ((D.zz0g a0) + (W (a1 * 5))))), .val (.agg (planC a0).toArray), .val (I a1), .val (.agg (boundC (D.zz0u a0 a1)).toArray), .slice w2.heap.size (.cells ((boundsC [(D.zz0u a0 a1)])).toArray 216 (0, 0)) 1, .val (I (D.zz0h a0 (W ((D.zz0g a0) + (W (a1 * 5)))) ([(D.zz0u a0 a1)])))] mixed r (by kernel_rfl) (zz00 (by exact trivial) (zz00 (by exact trivial) (zz00 (by exact trivial) (zz00 (by exact trivial) (zz00 (by exact trivial) (zz00 (by exact trivial) (zz00 (by exact trivial) (zz00 (by exact trivial) (zz00 (by exact trivial) (zz00 (Nat.le_refl _) (zz00 (by exact trivial) zz0m))))))))))) ?_ ?_
 ·
  refine ec r (fun _ u _ b d s => zz03 s (cs := (planC a0)) (n := 6) rfl (keep b h_b1) ta25 rfl bz) ?_
  refine ec r (fun _ u _ b d s => zz03 s (cs := (planC a0)) (n := 6) rfl (keep b h_b1) ta25 rfl bz) ?_
  refine ec r (fun fr1 u w' hb' hd r' => y_call r' (args := [(.agg (planC a0).toArray)]) (lc hd.1 l0) cl158 ((zz3q _ a0).mono (by rintro _ w2 ⟨rfl, hb2⟩; exact ⟨_, rfl, hb2, rfl⟩))) ?_
  refine ec r (fun _ u _ b d s => y_move s rfl bz) ?_
  refine ec r (fun _ u _ b d s => y_bin s d.1 rfl rfl rfl bz) ?_
  refine ec r (fun _ u _ b d s => y_bin s d.1 d.2.1 rfl rfl bz) ?_
  refine ec r (fun _ u _ b d s => zz03 s (cs := (planC a0)) (n := 6) rfl (keep b h_b1) ta25 rfl bz) ?_
  refine ec r (fun _ u _ b d s => y_move s rfl bz) ?_
  refine ec r (fun fr1 u w' hb' hd r' => y_call r' (args := [(.agg (planC a0).toArray), (I a1)]) (lc hd.1 (lc hd.2.1 l0)) cl159 ((zz5s _ a0 a1).mono (by rintro _ w2 ⟨rfl, hb2⟩; exact ⟨_, rfl, hb2, rfl⟩))) ?_
  refine ec r (fun fr1 u w' hb' hd r' => zz44 r' (c := ((boundsC [(D.zz0u a0 a1)])).toArray) (E := 216) (bs1 (congrArg (fun z => (0, z)) hd.1) (by kernel_rfl)) (fun b w2 n2 => ⟨n2.below, b, rfl, Nat.le_of_eq n2.eq.symm, n2.at_⟩)) ?_
  refine zz1b r rfl (fun fr1 u w' hb' hd r' => ?_) ?_
  · obtain ⟨d0, d1, d2, d3, _⟩ := hd; obtain ⟨q2, hq2, _, hr2⟩ := d2; exact y_call r' (args := [(.agg (planC a0).toArray), (I (W ((D.zz0g a0) + (W (a1 * 5))))), (.slice (some ⟨q2, 0, none⟩) 1 1)]) (lc d0 (lc d1 (lc hq2 l0))) cl142 ((zz1w _ a0 (W ((D.zz0g a0) + (W (a1 * 5)))) ([(D.zz0u a0 a1)]) hr2 (by first | assumption | decide | (simp; done))).mono (by rintro _ w2 ⟨rfl, hb2⟩; exact ⟨_, rfl, hb2, rfl⟩))
  exact zz10
 ·
  intro fr u w4 hb hΦ hne r
  obtain ⟨b5, g9, e_b5, h_b5⟩ := hΦ 9 (by decide)
  have l_b5 := lt_of_block h_b5
  have r := r.congr (sc (hΦ 10 (by decide)) (sc g9 (sc (hΦ 8 (by decide)) (sc (hΦ 7 (by decide)) (sc (hΦ 6 (by decide)) (sc (hΦ 5 (by decide)) (sc (hΦ 4 (by decide)) (sc (hΦ 3 (by decide)) (sc (hΦ 2 (by decide)) (sc (hΦ 1 (by decide)) (sc (hΦ 0 (by decide)) rfl)))))))))))
  have z_w4 := hb.size
  have h_b1 := keep hb h_b1
  obtain ⟨hB, zB⟩ := bon hb hB
  refine seq_val (I (D.zz0h a0 (W ((D.zz0g a0) + (W (a1 * 5)))) ([(D.zz0u a0 a1)]))) r (fun R => zz05 r rfl) rfl fun fr r => ?_
  refine wn ?_
  refine wp_ret ?_
  refine ret_tmp r rfl rfl ?_
  exact ⟨rfl, hB⟩

def D.zz0p (a0 : Plan) (a1 : Int) : Bound := (⟨a1, 0, (IntKind.i64.wrap (a0.threads - 1))⟩ : Bound)

theorem zz4o (w0 : World) 
    (a0 : Plan) (a1 : Int) :
    Calls Tryz.prog 144 #[.agg (planC a0).toArray, .int .i64 a1] w0 (PureRes (.agg (boundC (D.zz0p a0 a1)).toArray) w0) := by
 refine enter Tryz.func144 rfl 10 rfl rfl fun fr r => ?_
 have hB := Below.refl w0.heap.size w0
 refine wsr ?_
 refine seq_new (.cells ((planC a0)).toArray 25 (0, 0)) r (fun R => y_box r (v := (.agg (planC a0).toArray)) rfl) rfl fun fr b1 w2 n3 r => ?_
 obtain ⟨e_b1, z_w2, h_b1, hB, zB⟩ := n3.all hB
 refine seq_new (.cells ((boundC (⟨0, 0, 0⟩ : Bound))).toArray 216 (0, 0)) r (fun R => y_alloc tz216) rfl fun fr b4 w5 n6 r => ?_
 have h_b1 := keep n6.below h_b1
 obtain ⟨e_b4, z_w5, h_b4, hB, zB⟩ := n6.all hB
 refine wn ?_
 refine wsr ?_
 refine seq_val (I a1) r (fun R => y_move r rfl) rfl fun fr r => ?_
 refine seq_val _ r (fun R => zz02 r (o := 0) rfl fo25_1) rfl fun fr r => ?_
 refine seq_val (I a0.threads) r (fun R => zz01 r rfl h_b1 to3 rfl) rfl fun fr r => ?_
 refine seq_val _ r (fun R => y_bin r rfl rfl rfl rfl) rfl fun fr r => ?_
 refine seq_val (.agg (boundC (⟨a1, 0, (W (a0.threads - 1))⟩ : Bound)).toArray) r (fun R => y_build r (by kernel_rfl)) rfl fun fr r => ?_
 refine seq_upd (.cells ((boundC (⟨a1, 0, (W (a0.threads - 1))⟩ : Bound))).toArray 216 (0, 0)) r (fun R => y_store r (o := 0) (v := (.agg (boundC (⟨a1, 0, (W (a0.threads - 1))⟩ : Bound)).toArray)) rfl rfl h_b4 ts216 (Nat.le_of_ble_eq_true rfl) rfl rfl) rfl fun fr w7 u8 r => ?_
 have z_w7 := u8.size
 have h_b1 := u8.keep h_b1 (by omega)
 have h_b4 := u8.at_
 obtain ⟨hB, zB⟩ := u8.on hB (by omega)
 refine wn ?_
 refine wp_ret ?_
 refine zz06 r rfl rfl h_b4 (k := 3) rfl ta216 ?_
 exact ⟨rfl, hB⟩

def D.zz1h (a0 : Plan) (a1 : Int) : Int := (D.zz0h a0 (IntKind.i64.wrap ((D.zz0r a0) + (IntKind.i64.wrap (a1 * (IntKind.i64.wrap (1 + a0.retire)))))) ([(D.zz0p a0 a1)]))

theorem zz3o (w0 : World) 
    (a0 : Plan) (a1 : Int) :
    Calls Tryz.prog 164 #[.agg (planC a0).toArray, .int .i64 a1] w0 (PureRes (.int .i64 (D.zz1h a0 a1)) w0) := by
 refine enter Tryz.func164 rfl 19 rfl rfl fun fr r => ?_
 have hB := Below.refl w0.heap.size w0
 refine wsr ?_
 refine seq_new (.cells ((planC a0)).toArray 25 (0, 0)) r (fun R => y_box r (v := (.agg (planC a0).toArray)) rfl) rfl fun fr b1 w2 n3 r => ?_
 obtain ⟨e_b1, z_w2, h_b1, hB, zB⟩ := n3.all hB
 refine seq_val (I 0) r (fun R => zz05 r rfl) rfl fun fr r => ?_
 refine wn ?_
 refine wp_seq ?_
 refine zz0s 14 [.val (.agg (planC a0).toArray), .val (.agg (planC a0).toArray), .val (I (D.zz0r a0)), .val (I a1), .val (.pointer (some ⟨b1, 2, none⟩)), .val (I a0.retire), .val (I (W (1 + a0.retire))), .val (I (W (a1 * (W (1 + a0.retire))))), .val (I (W ((D.zz0r a0) + (W (a1 * (W (1 + a0.retire))))))), .val (.agg (planC a0).toArray), .val (I a1), .val (.agg (boundC (D.zz0p a0 a1)).toArray), .slice w2.heap.size (.cells ((boundsC [(D.zz0p a0 a1)])).toArray 216 (0, 0)) 1, .val (I (D.zz0h a0 (W ((D.zz0r a0) + (W (a1 * (W (1 + a0.retire)))))) ([(D.zz0p a0 a1)])))] mixed r (by kernel_rfl) (zz00 (by exact trivial) (zz00 (by exact trivial) (zz00 (by exact trivial) (zz00 (by exact trivial) (zz00 (by exact trivial) (zz00 (by exact trivial) (zz00 (by exact trivial) (zz00 (by exact trivial) (zz00 (by exact trivial) (zz00 (by exact trivial) (zz00 (by exact trivial) (zz00 (by exact trivial) (zz00 (Nat.le_refl _) (zz00 (by exact trivial) zz0m)))))))))))))) ?_ ?_
 ·
  refine ec r (fun _ u _ b d s => zz03 s (cs := (planC a0)) (n := 6) rfl (keep b h_b1) ta25 rfl bz) ?_
  refine ec r (fun _ u _ b d s => zz03 s (cs := (planC a0)) (n := 6) rfl (keep b h_b1) ta25 rfl bz) ?_
  refine ec r (fun fr1 u w' hb' hd r' => y_call r' (args := [(.agg (planC a0).toArray)]) (lc hd.1 l0) cl261 ((zz4l _ a0).mono (by rintro _ w2 ⟨rfl, hb2⟩; exact ⟨_, rfl, hb2, rfl⟩))) ?_
  refine ec r (fun _ u _ b d s => y_move s rfl bz) ?_
  refine ec r (fun _ u _ b d s => zz02 s (b := b1) (o := 0) rfl fo25_2 bz) ?_
  refine ec r (fun _ u _ b d s => zz01 s d.1 (keep b h_b1) to3 rfl bz) ?_
  refine ec r (fun _ u _ b d s => y_bin s rfl d.1 rfl rfl bz) ?_
  refine ec r (fun _ u _ b d s => y_bin s d.1 d.2.1 rfl rfl bz) ?_
  refine ec r (fun _ u _ b d s => y_bin s d.1 d.2.1 rfl rfl bz) ?_
  refine ec r (fun _ u _ b d s => zz03 s (cs := (planC a0)) (n := 6) rfl (keep b h_b1) ta25 rfl bz) ?_
  refine ec r (fun _ u _ b d s => y_move s rfl bz) ?_
  refine ec r (fun fr1 u w' hb' hd r' => y_call r' (args := [(.agg (planC a0).toArray), (I a1)]) (lc hd.1 (lc hd.2.1 l0)) cl144 ((zz4o _ a0 a1).mono (by rintro _ w2 ⟨rfl, hb2⟩; exact ⟨_, rfl, hb2, rfl⟩))) ?_
  refine ec r (fun fr1 u w' hb' hd r' => zz44 r' (c := ((boundsC [(D.zz0p a0 a1)])).toArray) (E := 216) (bs1 (congrArg (fun z => (0, z)) hd.1) (by kernel_rfl)) (fun b w2 n2 => ⟨n2.below, b, rfl, Nat.le_of_eq n2.eq.symm, n2.at_⟩)) ?_
  refine zz1b r rfl (fun fr1 u w' hb' hd r' => ?_) ?_
  · obtain ⟨d0, d1, d2, d3, _⟩ := hd; obtain ⟨q2, hq2, _, hr2⟩ := d2; exact y_call r' (args := [(.agg (planC a0).toArray), (I (W ((D.zz0r a0) + (W (a1 * (W (1 + a0.retire))))))), (.slice (some ⟨q2, 0, none⟩) 1 1)]) (lc d0 (lc d1 (lc hq2 l0))) cl142 ((zz1w _ a0 (W ((D.zz0r a0) + (W (a1 * (W (1 + a0.retire)))))) ([(D.zz0p a0 a1)]) hr2 (by first | assumption | decide | (simp; done))).mono (by rintro _ w2 ⟨rfl, hb2⟩; exact ⟨_, rfl, hb2, rfl⟩))
  exact zz10
 ·
  intro fr u w4 hb hΦ hne r
  obtain ⟨b5, g12, e_b5, h_b5⟩ := hΦ 12 (by decide)
  have l_b5 := lt_of_block h_b5
  have r := r.congr (sc (hΦ 13 (by decide)) (sc g12 (sc (hΦ 11 (by decide)) (sc (hΦ 10 (by decide)) (sc (hΦ 9 (by decide)) (sc (hΦ 8 (by decide)) (sc (hΦ 7 (by decide)) (sc (hΦ 6 (by decide)) (sc (hΦ 5 (by decide)) (sc (hΦ 4 (by decide)) (sc (hΦ 3 (by decide)) (sc (hΦ 2 (by decide)) (sc (hΦ 1 (by decide)) (sc (hΦ 0 (by decide)) rfl))))))))))))))
  have z_w4 := hb.size
  have h_b1 := keep hb h_b1
  obtain ⟨hB, zB⟩ := bon hb hB
  refine seq_val (I (D.zz0h a0 (W ((D.zz0r a0) + (W (a1 * (W (1 + a0.retire)))))) ([(D.zz0p a0 a1)]))) r (fun R => zz05 r rfl) rfl fun fr r => ?_
  refine wn ?_
  refine wp_ret ?_
  refine ret_tmp r rfl rfl ?_
  exact ⟨rfl, hB⟩

def D.zz12 (a0 : Plan) (a1 : Int) (a2 : Int) : Int := (D.zz0h a0 (IntKind.i64.wrap ((IntKind.i64.wrap ((IntKind.i64.wrap ((D.zz0r a0) + (IntKind.i64.wrap (a1 * (IntKind.i64.wrap (1 + a0.retire)))))) + 1)) + a2)) ([(D.zz0p a0 a1), (⟨a2, 0, (IntKind.i64.wrap (a0.retire - 1))⟩ : Bound)]))

theorem zz33 (w0 : World) 
    (a0 : Plan) (a1 : Int) (a2 : Int) :
    Calls Tryz.prog 165 #[.agg (planC a0).toArray, .int .i64 a1, .int .i64 a2] w0 (PureRes (.int .i64 (D.zz12 a0 a1 a2)) w0) := by
 refine enter Tryz.func165 rfl 29 rfl rfl fun fr r => ?_
 have hB := Below.refl w0.heap.size w0
 refine wsr ?_
 refine seq_new (.cells ((planC a0)).toArray 25 (0, 0)) r (fun R => y_box r (v := (.agg (planC a0).toArray)) rfl) rfl fun fr b1 w2 n3 r => ?_
 obtain ⟨e_b1, z_w2, h_b1, hB, zB⟩ := n3.all hB
 refine seq_val (I 0) r (fun R => zz05 r rfl) rfl fun fr r => ?_
 refine wn ?_
 refine wp_seq ?_
 refine zz0s 22 [.val (.agg (planC a0).toArray), .val (.agg (planC a0).toArray), .val (I (D.zz0r a0)), .val (I a1), .val (.pointer (some ⟨b1, 2, none⟩)), .val (I a0.retire), .val (I (W (1 + a0.retire))), .val (I (W (a1 * (W (1 + a0.retire))))), .val (I (W ((D.zz0r a0) + (W (a1 * (W (1 + a0.retire))))))), .val (I (W ((W ((D.zz0r a0) + (W (a1 * (W (1 + a0.retire)))))) + 1))), .val (I a2), .val (I (W ((W ((W ((D.zz0r a0) + (W (a1 * (W (1 + a0.retire)))))) + 1)) + a2))), .val (.agg (planC a0).toArray), .val (I a1), .val (.agg (boundC (D.zz0p a0 a1)).toArray), .val (I a2), .val (.pointer (some ⟨b1, 2, none⟩)), .val (I a0.retire), .val (I (W (a0.retire - 1))), .val (.agg (boundC (⟨a2, 0, (W (a0.retire - 1))⟩ : Bound)).toArray), .slice w2.heap.size (.cells ((boundsC [(D.zz0p a0 a1), (⟨a2, 0, (W (a0.retire - 1))⟩ : Bound)])).toArray 216 (0, 0)) 2, .val (I (D.zz0h a0 (W ((W ((W ((D.zz0r a0) + (W (a1 * (W (1 + a0.retire)))))) + 1)) + a2)) ([(D.zz0p a0 a1), (⟨a2, 0, (W (a0.retire - 1))⟩ : Bound)])))] mixed r (by kernel_rfl) (zz00 (by exact trivial) (zz00 (by exact trivial) (zz00 (by exact trivial) (zz00 (by exact trivial) (zz00 (by exact trivial) (zz00 (by exact trivial) (zz00 (by exact trivial) (zz00 (by exact trivial) (zz00 (by exact trivial) (zz00 (by exact trivial) (zz00 (by exact trivial) (zz00 (by exact trivial) (zz00 (by exact trivial) (zz00 (by exact trivial) (zz00 (by exact trivial) (zz00 (by exact trivial) (zz00 (by exact trivial) (zz00 (by exact trivial) (zz00 (by exact trivial) (zz00 (by exact trivial) (zz00 (Nat.le_refl _) (zz00 (by exact trivial) zz0m)))))))))))))))))))))) ?_ ?_
 ·
  refine ec r (fun _ u _ b d s => zz03 s (cs := (planC a0)) (n := 6) rfl (keep b h_b1) ta25 rfl bz) ?_
  refine ec r (fun _ u _ b d s => zz03 s (cs := (planC a0)) (n := 6) rfl (keep b h_b1) ta25 rfl bz) ?_
  refine ec r (fun fr1 u w' hb' hd r' => y_call r' (args := [(.agg (planC a0).toArray)]) (lc hd.1 l0) cl261 ((zz4l _ a0).mono (by rintro _ w2 ⟨rfl, hb2⟩; exact ⟨_, rfl, hb2, rfl⟩))) ?_
  refine ec r (fun _ u _ b d s => y_move s rfl bz) ?_
  refine ec r (fun _ u _ b d s => zz02 s (b := b1) (o := 0) rfl fo25_2 bz) ?_
  refine ec r (fun _ u _ b d s => zz01 s d.1 (keep b h_b1) to3 rfl bz) ?_
  refine ec r (fun _ u _ b d s => y_bin s rfl d.1 rfl rfl bz) ?_
  refine ec r (fun _ u _ b d s => y_bin s d.1 d.2.1 rfl rfl bz) ?_
  refine ec r (fun _ u _ b d s => y_bin s d.1 d.2.1 rfl rfl bz) ?_
  refine ec r (fun _ u _ b d s => y_bin s d.1 rfl rfl rfl bz) ?_
  refine ec r (fun _ u _ b d s => y_move s rfl bz) ?_
  refine ec r (fun _ u _ b d s => y_bin s d.1 d.2.1 rfl rfl bz) ?_
  refine ec r (fun _ u _ b d s => zz03 s (cs := (planC a0)) (n := 6) rfl (keep b h_b1) ta25 rfl bz) ?_
  refine ec r (fun _ u _ b d s => y_move s rfl bz) ?_
  refine ec r (fun fr1 u w' hb' hd r' => y_call r' (args := [(.agg (planC a0).toArray), (I a1)]) (lc hd.1 (lc hd.2.1 l0)) cl144 ((zz4o _ a0 a1).mono (by rintro _ w2 ⟨rfl, hb2⟩; exact ⟨_, rfl, hb2, rfl⟩))) ?_
  refine ec r (fun _ u _ b d s => y_move s rfl bz) ?_
  refine ec r (fun _ u _ b d s => zz02 s (b := b1) (o := 0) rfl fo25_2 bz) ?_
  refine ec r (fun _ u _ b d s => zz01 s d.1 (keep b h_b1) to3 rfl bz) ?_
  refine ec r (fun _ u _ b d s => y_bin s d.1 rfl rfl rfl bz) ?_
  refine ec r (fun fr1 u w' hb' hd r' => y_build r' (v := (.agg (boundC (⟨a2, 0, (W (a0.retire - 1))⟩ : Bound)).toArray)) (bs3 (congrArg (fun z => (0, z)) hd.1) (rfl) (congrArg (fun z => (2, z)) hd.2.1) (by kernel_rfl)) bz) ?_
  refine ec r (fun fr1 u w' hb' hd r' => zz44 r' (c := ((boundsC [(D.zz0p a0 a1), (⟨a2, 0, (W (a0.retire - 1))⟩ : Bound)])).toArray) (E := 216) (bs2 (congrArg (fun z => (0, z)) hd.1) (congrArg (fun z => (1, z)) hd.2.1) (by kernel_rfl)) (fun b w2 n2 => ⟨n2.below, b, rfl, Nat.le_of_eq n2.eq.symm, n2.at_⟩)) ?_
  refine zz1b r rfl (fun fr1 u w' hb' hd r' => ?_) ?_
  · obtain ⟨d0, d1, d2, d3, _⟩ := hd; obtain ⟨q2, hq2, _, hr2⟩ := d2; exact y_call r' (args := [(.agg (planC a0).toArray), (I (W ((W ((W ((D.zz0r a0) + (W (a1 * (W (1 + a0.retire)))))) + 1)) + a2))), (.slice (some ⟨q2, 0, none⟩) 2 2)]) (lc d0 (lc d1 (lc hq2 l0))) cl142 ((zz1w _ a0 (W ((W ((W ((D.zz0r a0) + (W (a1 * (W (1 + a0.retire)))))) + 1)) + a2)) ([(D.zz0p a0 a1), (⟨a2, 0, (W (a0.retire - 1))⟩ : Bound)]) hr2 (by first | assumption | decide | (simp; done))).mono (by rintro _ w2 ⟨rfl, hb2⟩; exact ⟨_, rfl, hb2, rfl⟩))
  exact zz10
 ·
  intro fr u w4 hb hΦ hne r
  obtain ⟨b5, g20, e_b5, h_b5⟩ := hΦ 20 (by decide)
  have l_b5 := lt_of_block h_b5
  have r := r.congr (sc (hΦ 21 (by decide)) (sc g20 (sc (hΦ 19 (by decide)) (sc (hΦ 18 (by decide)) (sc (hΦ 17 (by decide)) (sc (hΦ 16 (by decide)) (sc (hΦ 15 (by decide)) (sc (hΦ 14 (by decide)) (sc (hΦ 13 (by decide)) (sc (hΦ 12 (by decide)) (sc (hΦ 11 (by decide)) (sc (hΦ 10 (by decide)) (sc (hΦ 9 (by decide)) (sc (hΦ 8 (by decide)) (sc (hΦ 7 (by decide)) (sc (hΦ 6 (by decide)) (sc (hΦ 5 (by decide)) (sc (hΦ 4 (by decide)) (sc (hΦ 3 (by decide)) (sc (hΦ 2 (by decide)) (sc (hΦ 1 (by decide)) (sc (hΦ 0 (by decide)) rfl))))))))))))))))))))))
  have z_w4 := hb.size
  have h_b1 := keep hb h_b1
  obtain ⟨hB, zB⟩ := bon hb hB
  refine seq_val (I (D.zz0h a0 (W ((W ((W ((D.zz0r a0) + (W (a1 * (W (1 + a0.retire)))))) + 1)) + a2)) ([(D.zz0p a0 a1), (⟨a2, 0, (W (a0.retire - 1))⟩ : Bound)]))) r (fun R => zz05 r rfl) rfl fun fr r => ?_
  refine wn ?_
  refine wp_ret ?_
  refine ret_tmp r rfl rfl ?_
  exact ⟨rfl, hB⟩

def D.zz2h (a0 : Plan) (a1 : Int) (a2 : Int) : Int := (D.zz0h a0 (IntKind.i64.wrap ((IntKind.i64.wrap ((D.zz15 a0) + (IntKind.i64.wrap (a1 * 3)))) + a2)) ([(D.zz0p a0 a1), (⟨a2, 0, 2⟩ : Bound)]))

theorem zz6p (w0 : World) 
    (a0 : Plan) (a1 : Int) (a2 : Int) :
    Calls Tryz.prog 52 #[.agg (planC a0).toArray, .int .i64 a1, .int .i64 a2] w0 (PureRes (.int .i64 (D.zz2h a0 a1 a2)) w0) := by
 refine enter Tryz.func52 rfl 22 rfl rfl fun fr r => ?_
 have hB := Below.refl w0.heap.size w0
 refine wsr ?_
 refine seq_new (.cells ((planC a0)).toArray 25 (0, 0)) r (fun R => y_box r (v := (.agg (planC a0).toArray)) rfl) rfl fun fr b1 w2 n3 r => ?_
 obtain ⟨e_b1, z_w2, h_b1, hB, zB⟩ := n3.all hB
 refine seq_val (I 0) r (fun R => zz05 r rfl) rfl fun fr r => ?_
 refine wn ?_
 refine wp_seq ?_
 refine zz0s 15 [.val (.agg (planC a0).toArray), .val (.agg (planC a0).toArray), .val (I (D.zz15 a0)), .val (I a1), .val (I (W (a1 * 3))), .val (I (W ((D.zz15 a0) + (W (a1 * 3))))), .val (I a2), .val (I (W ((W ((D.zz15 a0) + (W (a1 * 3)))) + a2))), .val (.agg (planC a0).toArray), .val (I a1), .val (.agg (boundC (D.zz0p a0 a1)).toArray), .val (I a2), .val (.agg (boundC (⟨a2, 0, 2⟩ : Bound)).toArray), .slice w2.heap.size (.cells ((boundsC [(D.zz0p a0 a1), (⟨a2, 0, 2⟩ : Bound)])).toArray 216 (0, 0)) 2, .val (I (D.zz0h a0 (W ((W ((D.zz15 a0) + (W (a1 * 3)))) + a2)) ([(D.zz0p a0 a1), (⟨a2, 0, 2⟩ : Bound)])))] mixed r (by kernel_rfl) (zz00 (by exact trivial) (zz00 (by exact trivial) (zz00 (by exact trivial) (zz00 (by exact trivial) (zz00 (by exact trivial) (zz00 (by exact trivial) (zz00 (by exact trivial) (zz00 (by exact trivial) (zz00 (by exact trivial) (zz00 (by exact trivial) (zz00 (by exact trivial) (zz00 (by exact trivial) (zz00 (by exact trivial) (zz00 (Nat.le_refl _) (zz00 (by exact trivial) zz0m))))))))))))))) ?_ ?_
 ·
  refine ec r (fun _ u _ b d s => zz03 s (cs := (planC a0)) (n := 6) rfl (keep b h_b1) ta25 rfl bz) ?_
  refine ec r (fun _ u _ b d s => zz03 s (cs := (planC a0)) (n := 6) rfl (keep b h_b1) ta25 rfl bz) ?_
  refine ec r (fun fr1 u w' hb' hd r' => y_call r' (args := [(.agg (planC a0).toArray)]) (lc hd.1 l0) cl143 ((zz6a _ a0).mono (by rintro _ w2 ⟨rfl, hb2⟩; exact ⟨_, rfl, hb2, rfl⟩))) ?_
  refine ec r (fun _ u _ b d s => y_move s rfl bz) ?_
  refine ec r (fun _ u _ b d s => y_bin s d.1 rfl rfl rfl bz) ?_
  refine ec r (fun _ u _ b d s => y_bin s d.1 d.2.1 rfl rfl bz) ?_
  refine ec r (fun _ u _ b d s => y_move s rfl bz) ?_
  refine ec r (fun _ u _ b d s => y_bin s d.1 d.2.1 rfl rfl bz) ?_
  refine ec r (fun _ u _ b d s => zz03 s (cs := (planC a0)) (n := 6) rfl (keep b h_b1) ta25 rfl bz) ?_
  refine ec r (fun _ u _ b d s => y_move s rfl bz) ?_
  refine ec r (fun fr1 u w' hb' hd r' => y_call r' (args := [(.agg (planC a0).toArray), (I a1)]) (lc hd.1 (lc hd.2.1 l0)) cl144 ((zz4o _ a0 a1).mono (by rintro _ w2 ⟨rfl, hb2⟩; exact ⟨_, rfl, hb2, rfl⟩))) ?_
  refine ec r (fun _ u _ b d s => y_move s rfl bz) ?_
  refine ec r (fun fr1 u w' hb' hd r' => y_build r' (v := (.agg (boundC (⟨a2, 0, 2⟩ : Bound)).toArray)) (bs3 (congrArg (fun z => (0, z)) hd.1) (rfl) (rfl) (by kernel_rfl)) bz) ?_
  refine ec r (fun fr1 u w' hb' hd r' => zz44 r' (c := ((boundsC [(D.zz0p a0 a1), (⟨a2, 0, 2⟩ : Bound)])).toArray) (E := 216) (bs2 (congrArg (fun z => (0, z)) hd.1) (congrArg (fun z => (1, z)) hd.2.1) (by kernel_rfl)) (fun b w2 n2 => ⟨n2.below, b, rfl, Nat.le_of_eq n2.eq.symm, n2.at_⟩)) ?_
  refine zz1b r rfl (fun fr1 u w' hb' hd r' => ?_) ?_
  · obtain ⟨d0, d1, d2, d3, _⟩ := hd; obtain ⟨q2, hq2, _, hr2⟩ := d2; exact y_call r' (args := [(.agg (planC a0).toArray), (I (W ((W ((D.zz15 a0) + (W (a1 * 3)))) + a2))), (.slice (some ⟨q2, 0, none⟩) 2 2)]) (lc d0 (lc d1 (lc hq2 l0))) cl142 ((zz1w _ a0 (W ((W ((D.zz15 a0) + (W (a1 * 3)))) + a2)) ([(D.zz0p a0 a1), (⟨a2, 0, 2⟩ : Bound)]) hr2 (by first | assumption | decide | (simp; done))).mono (by rintro _ w2 ⟨rfl, hb2⟩; exact ⟨_, rfl, hb2, rfl⟩))
  exact zz10
 ·
  intro fr u w4 hb hΦ hne r
  obtain ⟨b5, g13, e_b5, h_b5⟩ := hΦ 13 (by decide)
  have l_b5 := lt_of_block h_b5
  have r := r.congr (sc (hΦ 14 (by decide)) (sc g13 (sc (hΦ 12 (by decide)) (sc (hΦ 11 (by decide)) (sc (hΦ 10 (by decide)) (sc (hΦ 9 (by decide)) (sc (hΦ 8 (by decide)) (sc (hΦ 7 (by decide)) (sc (hΦ 6 (by decide)) (sc (hΦ 5 (by decide)) (sc (hΦ 4 (by decide)) (sc (hΦ 3 (by decide)) (sc (hΦ 2 (by decide)) (sc (hΦ 1 (by decide)) (sc (hΦ 0 (by decide)) rfl)))))))))))))))
  have z_w4 := hb.size
  have h_b1 := keep hb h_b1
  obtain ⟨hB, zB⟩ := bon hb hB
  refine seq_val (I (D.zz0h a0 (W ((W ((D.zz15 a0) + (W (a1 * 3)))) + a2)) ([(D.zz0p a0 a1), (⟨a2, 0, 2⟩ : Bound)]))) r (fun R => zz05 r rfl) rfl fun fr r => ?_
  refine wn ?_
  refine wp_ret ?_
  refine ret_tmp r rfl rfl ?_
  exact ⟨rfl, hB⟩

def D.zz0i (a0 : Plan) (a1 : Int) (a2 : Int) : Int := (D.zz0h a0 (IntKind.i64.wrap ((IntKind.i64.wrap ((IntKind.i64.wrap ((D.zz0g a0) + (IntKind.i64.wrap (a1 * 5)))) + 2)) + a2)) ([(D.zz0u a0 a1), (⟨a2, 0, 2⟩ : Bound)]))

theorem zz1v (w0 : World) 
    (a0 : Plan) (a1 : Int) (a2 : Int) :
    Calls Tryz.prog 150 #[.agg (planC a0).toArray, .int .i64 a1, .int .i64 a2] w0 (PureRes (.int .i64 (D.zz0i a0 a1 a2)) w0) := by
 refine enter Tryz.func150 rfl 23 rfl rfl fun fr r => ?_
 have hB := Below.refl w0.heap.size w0
 refine wsr ?_
 refine seq_new (.cells ((planC a0)).toArray 25 (0, 0)) r (fun R => y_box r (v := (.agg (planC a0).toArray)) rfl) rfl fun fr b1 w2 n3 r => ?_
 obtain ⟨e_b1, z_w2, h_b1, hB, zB⟩ := n3.all hB
 refine seq_val (I 0) r (fun R => zz05 r rfl) rfl fun fr r => ?_
 refine wn ?_
 refine wp_seq ?_
 refine zz0s 16 [.val (.agg (planC a0).toArray), .val (.agg (planC a0).toArray), .val (I (D.zz0g a0)), .val (I a1), .val (I (W (a1 * 5))), .val (I (W ((D.zz0g a0) + (W (a1 * 5))))), .val (I (W ((W ((D.zz0g a0) + (W (a1 * 5)))) + 2))), .val (I a2), .val (I (W ((W ((W ((D.zz0g a0) + (W (a1 * 5)))) + 2)) + a2))), .val (.agg (planC a0).toArray), .val (I a1), .val (.agg (boundC (D.zz0u a0 a1)).toArray), .val (I a2), .val (.agg (boundC (⟨a2, 0, 2⟩ : Bound)).toArray), .slice w2.heap.size (.cells ((boundsC [(D.zz0u a0 a1), (⟨a2, 0, 2⟩ : Bound)])).toArray 216 (0, 0)) 2, .val (I (D.zz0h a0 (W ((W ((W ((D.zz0g a0) + (W (a1 * 5)))) + 2)) + a2)) ([(D.zz0u a0 a1), (⟨a2, 0, 2⟩ : Bound)])))] mixed r (by kernel_rfl) (zz00 (by exact trivial) (zz00 (by exact trivial) (zz00 (by exact trivial) (zz00 (by exact trivial) (zz00 (by exact trivial) (zz00 (by exact trivial) (zz00 (by exact trivial) (zz00 (by exact trivial) (zz00 (by exact trivial) (zz00 (by exact trivial) (zz00 (by exact trivial) (zz00 (by exact trivial) (zz00 (by exact trivial) (zz00 (by exact trivial) (zz00 (Nat.le_refl _) (zz00 (by exact trivial) zz0m)))))))))))))))) ?_ ?_
 ·
  refine ec r (fun _ u _ b d s => zz03 s (cs := (planC a0)) (n := 6) rfl (keep b h_b1) ta25 rfl bz) ?_
  refine ec r (fun _ u _ b d s => zz03 s (cs := (planC a0)) (n := 6) rfl (keep b h_b1) ta25 rfl bz) ?_
  refine ec r (fun fr1 u w' hb' hd r' => y_call r' (args := [(.agg (planC a0).toArray)]) (lc hd.1 l0) cl158 ((zz3q _ a0).mono (by rintro _ w2 ⟨rfl, hb2⟩; exact ⟨_, rfl, hb2, rfl⟩))) ?_
  refine ec r (fun _ u _ b d s => y_move s rfl bz) ?_
  refine ec r (fun _ u _ b d s => y_bin s d.1 rfl rfl rfl bz) ?_
  refine ec r (fun _ u _ b d s => y_bin s d.1 d.2.1 rfl rfl bz) ?_
  refine ec r (fun _ u _ b d s => y_bin s d.1 rfl rfl rfl bz) ?_
  refine ec r (fun _ u _ b d s => y_move s rfl bz) ?_
  refine ec r (fun _ u _ b d s => y_bin s d.1 d.2.1 rfl rfl bz) ?_
  refine ec r (fun _ u _ b d s => zz03 s (cs := (planC a0)) (n := 6) rfl (keep b h_b1) ta25 rfl bz) ?_
  refine ec r (fun _ u _ b d s => y_move s rfl bz) ?_
  refine ec r (fun fr1 u w' hb' hd r' => y_call r' (args := [(.agg (planC a0).toArray), (I a1)]) (lc hd.1 (lc hd.2.1 l0)) cl159 ((zz5s _ a0 a1).mono (by rintro _ w2 ⟨rfl, hb2⟩; exact ⟨_, rfl, hb2, rfl⟩))) ?_
  refine ec r (fun _ u _ b d s => y_move s rfl bz) ?_
  refine ec r (fun fr1 u w' hb' hd r' => y_build r' (v := (.agg (boundC (⟨a2, 0, 2⟩ : Bound)).toArray)) (bs3 (congrArg (fun z => (0, z)) hd.1) (rfl) (rfl) (by kernel_rfl)) bz) ?_
  refine ec r (fun fr1 u w' hb' hd r' => zz44 r' (c := ((boundsC [(D.zz0u a0 a1), (⟨a2, 0, 2⟩ : Bound)])).toArray) (E := 216) (bs2 (congrArg (fun z => (0, z)) hd.1) (congrArg (fun z => (1, z)) hd.2.1) (by kernel_rfl)) (fun b w2 n2 => ⟨n2.below, b, rfl, Nat.le_of_eq n2.eq.symm, n2.at_⟩)) ?_
  refine zz1b r rfl (fun fr1 u w' hb' hd r' => ?_) ?_
  · obtain ⟨d0, d1, d2, d3, _⟩ := hd; obtain ⟨q2, hq2, _, hr2⟩ := d2; exact y_call r' (args := [(.agg (planC a0).toArray), (I (W ((W ((W ((D.zz0g a0) + (W (a1 * 5)))) + 2)) + a2))), (.slice (some ⟨q2, 0, none⟩) 2 2)]) (lc d0 (lc d1 (lc hq2 l0))) cl142 ((zz1w _ a0 (W ((W ((W ((D.zz0g a0) + (W (a1 * 5)))) + 2)) + a2)) ([(D.zz0u a0 a1), (⟨a2, 0, 2⟩ : Bound)]) hr2 (by first | assumption | decide | (simp; done))).mono (by rintro _ w2 ⟨rfl, hb2⟩; exact ⟨_, rfl, hb2, rfl⟩))
  exact zz10
 ·
  intro fr u w4 hb hΦ hne r
  obtain ⟨b5, g14, e_b5, h_b5⟩ := hΦ 14 (by decide)
  have l_b5 := lt_of_block h_b5
  have r := r.congr (sc (hΦ 15 (by decide)) (sc g14 (sc (hΦ 13 (by decide)) (sc (hΦ 12 (by decide)) (sc (hΦ 11 (by decide)) (sc (hΦ 10 (by decide)) (sc (hΦ 9 (by decide)) (sc (hΦ 8 (by decide)) (sc (hΦ 7 (by decide)) (sc (hΦ 6 (by decide)) (sc (hΦ 5 (by decide)) (sc (hΦ 4 (by decide)) (sc (hΦ 3 (by decide)) (sc (hΦ 2 (by decide)) (sc (hΦ 1 (by decide)) (sc (hΦ 0 (by decide)) rfl))))))))))))))))
  have z_w4 := hb.size
  have h_b1 := keep hb h_b1
  obtain ⟨hB, zB⟩ := bon hb hB
  refine seq_val (I (D.zz0h a0 (W ((W ((W ((D.zz0g a0) + (W (a1 * 5)))) + 2)) + a2)) ([(D.zz0u a0 a1), (⟨a2, 0, 2⟩ : Bound)]))) r (fun R => zz05 r rfl) rfl fun fr r => ?_
  refine wn ?_
  refine wp_ret ?_
  refine ret_tmp r rfl rfl ?_
  exact ⟨rfl, hB⟩

def D.zz1s (a0 : Plan) (a1 : Int) : Bound := (⟨a1, 0, (IntKind.i64.wrap (a0.domains - 1))⟩ : Bound)

theorem zzb7 (w0 : World) 
    (a0 : Plan) (a1 : Int) :
    Calls Tryz.prog 167 #[.agg (planC a0).toArray, .int .i64 a1] w0 (PureRes (.agg (boundC (D.zz1s a0 a1)).toArray) w0) := by
 refine enter Tryz.func167 rfl 10 rfl rfl fun fr r => ?_
 have hB := Below.refl w0.heap.size w0
 refine wsr ?_
 refine seq_new (.cells ((planC a0)).toArray 25 (0, 0)) r (fun R => y_box r (v := (.agg (planC a0).toArray)) rfl) rfl fun fr b1 w2 n3 r => ?_
 obtain ⟨e_b1, z_w2, h_b1, hB, zB⟩ := n3.all hB
 refine seq_new (.cells ((boundC (⟨0, 0, 0⟩ : Bound))).toArray 216 (0, 0)) r (fun R => y_alloc tz216) rfl fun fr b4 w5 n6 r => ?_
 have h_b1 := keep n6.below h_b1
 obtain ⟨e_b4, z_w5, h_b4, hB, zB⟩ := n6.all hB
 refine wn ?_
 refine wsr ?_
 refine seq_val (I a1) r (fun R => y_move r rfl) rfl fun fr r => ?_
 refine seq_val _ r (fun R => zz02 r (o := 0) rfl fo25_3) rfl fun fr r => ?_
 refine seq_val (I a0.domains) r (fun R => zz01 r rfl h_b1 to3 rfl) rfl fun fr r => ?_
 refine seq_val _ r (fun R => y_bin r rfl rfl rfl rfl) rfl fun fr r => ?_
 refine seq_val (.agg (boundC (⟨a1, 0, (W (a0.domains - 1))⟩ : Bound)).toArray) r (fun R => y_build r (by kernel_rfl)) rfl fun fr r => ?_
 refine seq_upd (.cells ((boundC (⟨a1, 0, (W (a0.domains - 1))⟩ : Bound))).toArray 216 (0, 0)) r (fun R => y_store r (o := 0) (v := (.agg (boundC (⟨a1, 0, (W (a0.domains - 1))⟩ : Bound)).toArray)) rfl rfl h_b4 ts216 (Nat.le_of_ble_eq_true rfl) rfl rfl) rfl fun fr w7 u8 r => ?_
 have z_w7 := u8.size
 have h_b1 := u8.keep h_b1 (by omega)
 have h_b4 := u8.at_
 obtain ⟨hB, zB⟩ := u8.on hB (by omega)
 refine wn ?_
 refine wp_ret ?_
 refine zz06 r rfl rfl h_b4 (k := 3) rfl ta216 ?_
 exact ⟨rfl, hB⟩

def D.zz17 (a0 : Plan) (a1 : Int) (a2 : Int) : Int := (D.zz0h a0 (IntKind.i64.wrap ((IntKind.i64.wrap (2 + (IntKind.i64.wrap (a1 * (IntKind.i64.wrap (1 + (D.zz0k a0))))))) + a2)) ([(D.zz1s a0 a1), (⟨a2, 0, (IntKind.i64.wrap ((D.zz0k a0) - 1))⟩ : Bound)]))

theorem zz5z (w0 : World) 
    (a0 : Plan) (a1 : Int) (a2 : Int) :
    Calls Tryz.prog 72 #[.agg (planC a0).toArray, .int .i64 a1, .int .i64 a2] w0 (PureRes (.int .i64 (D.zz17 a0 a1 a2)) w0) := by
 refine enter Tryz.func72 rfl 26 rfl rfl fun fr r => ?_
 have hB := Below.refl w0.heap.size w0
 refine wsr ?_
 refine seq_new (.cells ((planC a0)).toArray 25 (0, 0)) r (fun R => y_box r (v := (.agg (planC a0).toArray)) rfl) rfl fun fr b1 w2 n3 r => ?_
 obtain ⟨e_b1, z_w2, h_b1, hB, zB⟩ := n3.all hB
 refine seq_val (I 0) r (fun R => zz05 r rfl) rfl fun fr r => ?_
 refine wn ?_
 refine wp_seq ?_
 refine zz0s 19 [.val (.agg (planC a0).toArray), .val (I a1), .val (.agg (planC a0).toArray), .val (I (D.zz0k a0)), .val (I (W (1 + (D.zz0k a0)))), .val (I (W (a1 * (W (1 + (D.zz0k a0)))))), .val (I (W (2 + (W (a1 * (W (1 + (D.zz0k a0)))))))), .val (I a2), .val (I (W ((W (2 + (W (a1 * (W (1 + (D.zz0k a0))))))) + a2))), .val (.agg (planC a0).toArray), .val (I a1), .val (.agg (boundC (D.zz1s a0 a1)).toArray), .val (I a2), .val (.agg (planC a0).toArray), .val (I (D.zz0k a0)), .val (I (W ((D.zz0k a0) - 1))), .val (.agg (boundC (⟨a2, 0, (W ((D.zz0k a0) - 1))⟩ : Bound)).toArray), .slice w2.heap.size (.cells ((boundsC [(D.zz1s a0 a1), (⟨a2, 0, (W ((D.zz0k a0) - 1))⟩ : Bound)])).toArray 216 (0, 0)) 2, .val (I (D.zz0h a0 (W ((W (2 + (W (a1 * (W (1 + (D.zz0k a0))))))) + a2)) ([(D.zz1s a0 a1), (⟨a2, 0, (W ((D.zz0k a0) - 1))⟩ : Bound)])))] mixed r (by kernel_rfl) (zz00 (by exact trivial) (zz00 (by exact trivial) (zz00 (by exact trivial) (zz00 (by exact trivial) (zz00 (by exact trivial) (zz00 (by exact trivial) (zz00 (by exact trivial) (zz00 (by exact trivial) (zz00 (by exact trivial) (zz00 (by exact trivial) (zz00 (by exact trivial) (zz00 (by exact trivial) (zz00 (by exact trivial) (zz00 (by exact trivial) (zz00 (by exact trivial) (zz00 (by exact trivial) (zz00 (by exact trivial) (zz00 (Nat.le_refl _) (zz00 (by exact trivial) zz0m))))))))))))))))))) ?_ ?_
 ·
  refine ec r (fun _ u _ b d s => zz03 s (cs := (planC a0)) (n := 6) rfl (keep b h_b1) ta25 rfl bz) ?_
  refine ec r (fun _ u _ b d s => y_move s rfl bz) ?_
  refine ec r (fun _ u _ b d s => zz03 s (cs := (planC a0)) (n := 6) rfl (keep b h_b1) ta25 rfl bz) ?_
  refine ec r (fun fr1 u w' hb' hd r' => y_call r' (args := [(.agg (planC a0).toArray)]) (lc hd.1 l0) cl166 ((zz57 _ a0).mono (by rintro _ w2 ⟨rfl, hb2⟩; exact ⟨_, rfl, hb2, rfl⟩))) ?_
  refine ec r (fun _ u _ b d s => y_bin s rfl d.1 rfl rfl bz) ?_
  refine ec r (fun _ u _ b d s => y_bin s d.1 d.2.1 rfl rfl bz) ?_
  refine ec r (fun _ u _ b d s => y_bin s rfl d.1 rfl rfl bz) ?_
  refine ec r (fun _ u _ b d s => y_move s rfl bz) ?_
  refine ec r (fun _ u _ b d s => y_bin s d.1 d.2.1 rfl rfl bz) ?_
  refine ec r (fun _ u _ b d s => zz03 s (cs := (planC a0)) (n := 6) rfl (keep b h_b1) ta25 rfl bz) ?_
  refine ec r (fun _ u _ b d s => y_move s rfl bz) ?_
  refine ec r (fun fr1 u w' hb' hd r' => y_call r' (args := [(.agg (planC a0).toArray), (I a1)]) (lc hd.1 (lc hd.2.1 l0)) cl167 ((zzb7 _ a0 a1).mono (by rintro _ w2 ⟨rfl, hb2⟩; exact ⟨_, rfl, hb2, rfl⟩))) ?_
  refine ec r (fun _ u _ b d s => y_move s rfl bz) ?_
  refine ec r (fun _ u _ b d s => zz03 s (cs := (planC a0)) (n := 6) rfl (keep b h_b1) ta25 rfl bz) ?_
  refine ec r (fun fr1 u w' hb' hd r' => y_call r' (args := [(.agg (planC a0).toArray)]) (lc hd.1 l0) cl166 ((zz57 _ a0).mono (by rintro _ w2 ⟨rfl, hb2⟩; exact ⟨_, rfl, hb2, rfl⟩))) ?_
  refine ec r (fun _ u _ b d s => y_bin s d.1 rfl rfl rfl bz) ?_
  refine ec r (fun fr1 u w' hb' hd r' => y_build r' (v := (.agg (boundC (⟨a2, 0, (W ((D.zz0k a0) - 1))⟩ : Bound)).toArray)) (bs3 (congrArg (fun z => (0, z)) hd.1) (rfl) (congrArg (fun z => (2, z)) hd.2.1) (by kernel_rfl)) bz) ?_
  refine ec r (fun fr1 u w' hb' hd r' => zz44 r' (c := ((boundsC [(D.zz1s a0 a1), (⟨a2, 0, (W ((D.zz0k a0) - 1))⟩ : Bound)])).toArray) (E := 216) (bs2 (congrArg (fun z => (0, z)) hd.1) (congrArg (fun z => (1, z)) hd.2.1) (by kernel_rfl)) (fun b w2 n2 => ⟨n2.below, b, rfl, Nat.le_of_eq n2.eq.symm, n2.at_⟩)) ?_
  refine zz1b r rfl (fun fr1 u w' hb' hd r' => ?_) ?_
  · obtain ⟨d0, d1, d2, d3, _⟩ := hd; obtain ⟨q2, hq2, _, hr2⟩ := d2; exact y_call r' (args := [(.agg (planC a0).toArray), (I (W ((W (2 + (W (a1 * (W (1 + (D.zz0k a0))))))) + a2))), (.slice (some ⟨q2, 0, none⟩) 2 2)]) (lc d0 (lc d1 (lc hq2 l0))) cl142 ((zz1w _ a0 (W ((W (2 + (W (a1 * (W (1 + (D.zz0k a0))))))) + a2)) ([(D.zz1s a0 a1), (⟨a2, 0, (W ((D.zz0k a0) - 1))⟩ : Bound)]) hr2 (by first | assumption | decide | (simp; done))).mono (by rintro _ w2 ⟨rfl, hb2⟩; exact ⟨_, rfl, hb2, rfl⟩))
  exact zz10
 ·
  intro fr u w4 hb hΦ hne r
  obtain ⟨b5, g17, e_b5, h_b5⟩ := hΦ 17 (by decide)
  have l_b5 := lt_of_block h_b5
  have r := r.congr (sc (hΦ 18 (by decide)) (sc g17 (sc (hΦ 16 (by decide)) (sc (hΦ 15 (by decide)) (sc (hΦ 14 (by decide)) (sc (hΦ 13 (by decide)) (sc (hΦ 12 (by decide)) (sc (hΦ 11 (by decide)) (sc (hΦ 10 (by decide)) (sc (hΦ 9 (by decide)) (sc (hΦ 8 (by decide)) (sc (hΦ 7 (by decide)) (sc (hΦ 6 (by decide)) (sc (hΦ 5 (by decide)) (sc (hΦ 4 (by decide)) (sc (hΦ 3 (by decide)) (sc (hΦ 2 (by decide)) (sc (hΦ 1 (by decide)) (sc (hΦ 0 (by decide)) rfl)))))))))))))))))))
  have z_w4 := hb.size
  have h_b1 := keep hb h_b1
  obtain ⟨hB, zB⟩ := bon hb hB
  refine seq_val (I (D.zz0h a0 (W ((W (2 + (W (a1 * (W (1 + (D.zz0k a0))))))) + a2)) ([(D.zz1s a0 a1), (⟨a2, 0, (W ((D.zz0k a0) - 1))⟩ : Bound)]))) r (fun R => zz05 r rfl) rfl fun fr r => ?_
  refine wn ?_
  refine wp_ret ?_
  refine ret_tmp r rfl rfl ?_
  exact ⟨rfl, hB⟩

end Go.Proofs.YtjkinpbfmihhdaaGreat

/- Written by a program of ours (wip/gen.py): fields: their form -/
set_option linter.unusedVariables false
set_option maxRecDepth 20000
set_option maxHeartbeats 2000000
namespace Go.Proofs.YtjkinpbfmihhdaaGreat
open Go.RowKit
theorem fo223_0 : fieldOff Tryz.prog 223 0 0 = true := by kernel_rfl

theorem fo223_1 : fieldOff Tryz.prog 223 1 1 = true := by kernel_rfl

def D.zz0b (a0 : Field) : Bool := (bif (decide (a0.at_ ≥ 0)) then (bif (decide (a0.at_ < 64)) then (bif (decide (a0.bits ≥ 1)) then (decide (a0.bits ≤ (IntKind.i64.wrap (64 - a0.at_)))) else false) else false) else false)

theorem zz21 (w0 : World) 
    (a0 : Field) :
    Calls Tryz.prog 262 #[.agg (fieldC a0).toArray] w0 (PureRes (.bool (D.zz0b a0)) w0) := by
 refine enter Tryz.func262 rfl 24 rfl rfl fun fr r => ?_
 have hB := Below.refl w0.heap.size w0
 refine wsr ?_
 refine seq_new (.cells ((fieldC a0)).toArray 223 (0, 0)) r (fun R => y_box r (v := (.agg (fieldC a0).toArray)) rfl) rfl fun fr b1 w2 n3 r => ?_
 obtain ⟨e_b1, z_w2, h_b1, hB, zB⟩ := n3.all hB
 refine seq_val (.bool false) r (fun R => zz05 r rfl) rfl fun fr r => ?_
 refine wn ?_
 refine wsr ?_
 refine seq_val _ r (fun R => zz02 r (o := 0) rfl fo223_0) rfl fun fr r => ?_
 refine seq_val (I a0.at_) r (fun R => zz01 r rfl h_b1 to3 rfl) rfl fun fr r => ?_
 refine seq_val _ r (fun R => y_bin r rfl rfl rfl rfl) rfl fun fr r => ?_
 refine seq_val (.bool (decide (a0.at_ ≥ 0))) r (fun R => y_move r rfl) rfl fun fr r => ?_
 refine zz0x (decide (a0.at_ ≥ 0)) (fun h4 => ?_) (fun h4 => ?_)
 ·
  refine s1 r h4 ?_
  refine seq_val _ r (fun R => zz02 r (o := 0) rfl fo223_0) rfl fun fr r => ?_
  refine s1 r h4 ?_
  refine seq_val (I a0.at_) r (fun R => zz01 r rfl h_b1 to3 rfl) rfl fun fr r => ?_
  refine s1 r h4 ?_
  refine seq_val _ r (fun R => y_bin r rfl rfl rfl rfl) rfl fun fr r => ?_
  refine seq_val (.bool (decide (a0.at_ < 64))) r (fun R => y_pick r (b := true) (congrArg Value.bool h4) rfl) rfl fun fr r => ?_
  refine seq_val (.bool (decide (a0.at_ < 64))) r (fun R => y_move r rfl) rfl fun fr r => ?_
  refine zz0x (decide (a0.at_ < 64)) (fun h5 => ?_) (fun h5 => ?_)
  ·
   refine s1 r h5 ?_
   refine seq_val _ r (fun R => zz02 r (o := 0) rfl fo223_1) rfl fun fr r => ?_
   refine s1 r h5 ?_
   refine seq_val (I a0.bits) r (fun R => zz01 r rfl h_b1 to3 rfl) rfl fun fr r => ?_
   refine s1 r h5 ?_
   refine seq_val _ r (fun R => y_bin r rfl rfl rfl rfl) rfl fun fr r => ?_
   refine seq_val (.bool (decide (a0.bits ≥ 1))) r (fun R => y_pick r (b := true) (congrArg Value.bool h5) rfl) rfl fun fr r => ?_
   refine seq_val (.bool (decide (a0.bits ≥ 1))) r (fun R => y_move r rfl) rfl fun fr r => ?_
   refine zz0x (decide (a0.bits ≥ 1)) (fun h6 => ?_) (fun h6 => ?_)
   ·
    refine s1 r h6 ?_
    refine seq_val _ r (fun R => zz02 r (o := 0) rfl fo223_1) rfl fun fr r => ?_
    refine s1 r h6 ?_
    refine seq_val (I a0.bits) r (fun R => zz01 r rfl h_b1 to3 rfl) rfl fun fr r => ?_
    refine s1 r h6 ?_
    refine seq_val _ r (fun R => zz02 r (o := 0) rfl fo223_0) rfl fun fr r => ?_
    refine s1 r h6 ?_
    refine seq_val (I a0.at_) r (fun R => zz01 r rfl h_b1 to3 rfl) rfl fun fr r => ?_
    refine s1 r h6 ?_
    refine seq_val _ r (fun R => y_bin r rfl rfl rfl rfl) rfl fun fr r => ?_
    refine s1 r h6 ?_
    refine seq_val _ r (fun R => y_bin r rfl rfl rfl rfl) rfl fun fr r => ?_
    refine seq_val (.bool (decide (a0.bits ≤ (W (64 - a0.at_))))) r (fun R => y_pick r (b := true) (congrArg Value.bool h6) rfl) rfl fun fr r => ?_
    refine seq_val (.bool (decide (a0.bits ≤ (W (64 - a0.at_))))) r (fun R => zz05 r rfl) rfl fun fr r => ?_
    refine wn ?_
    refine wp_ret ?_
    have hd : D.zz0b a0 = (decide (a0.bits ≤ (W (64 - a0.at_)))) := (cond_t h4).trans ((cond_t h5).trans ((cond_t h6).trans (rfl)))
    refine ret_tmp r rfl rfl ?_
    rw [hd]
    exact ⟨rfl, hB⟩
   ·
    refine s0 r h6 fun fr r => ?_
    refine s0 r h6 fun fr r => ?_
    refine s0 r h6 fun fr r => ?_
    refine s0 r h6 fun fr r => ?_
    refine s0 r h6 fun fr r => ?_
    refine s0 r h6 fun fr r => ?_
    refine seq_val (.bool false) r (fun R => y_pick r (b := false) (congrArg Value.bool h6) rfl) rfl fun fr r => ?_
    refine seq_val (.bool false) r (fun R => zz05 r rfl) rfl fun fr r => ?_
    refine wn ?_
    refine wp_ret ?_
    have hd : D.zz0b a0 = false := (cond_t h4).trans ((cond_t h5).trans ((cond_f h6).trans (rfl)))
    refine ret_tmp r rfl rfl ?_
    rw [hd]
    exact ⟨rfl, hB⟩
  ·
   refine s0 r h5 fun fr r => ?_
   refine s0 r h5 fun fr r => ?_
   refine s0 r h5 fun fr r => ?_
   refine seq_val (.bool false) r (fun R => y_pick r (b := false) (congrArg Value.bool h5) rfl) rfl fun fr r => ?_
   refine seq_val (.bool false) r (fun R => y_move r rfl) rfl fun fr r => ?_
   refine s0 r (rfl : false = _) fun fr r => ?_
   refine s0 r (rfl : false = _) fun fr r => ?_
   refine s0 r (rfl : false = _) fun fr r => ?_
   refine s0 r (rfl : false = _) fun fr r => ?_
   refine s0 r (rfl : false = _) fun fr r => ?_
   refine s0 r (rfl : false = _) fun fr r => ?_
   refine seq_val (.bool false) r (fun R => y_pick r (b := false) (congrArg Value.bool (rfl : false = _)) rfl) rfl fun fr r => ?_
   refine seq_val (.bool false) r (fun R => zz05 r rfl) rfl fun fr r => ?_
   refine wn ?_
   refine wp_ret ?_
   have hd : D.zz0b a0 = false := (cond_t h4).trans ((cond_f h5).trans (rfl))
   refine ret_tmp r rfl rfl ?_
   rw [hd]
   exact ⟨rfl, hB⟩
 ·
  refine s0 r h4 fun fr r => ?_
  refine s0 r h4 fun fr r => ?_
  refine s0 r h4 fun fr r => ?_
  refine seq_val (.bool false) r (fun R => y_pick r (b := false) (congrArg Value.bool h4) rfl) rfl fun fr r => ?_
  refine seq_val (.bool false) r (fun R => y_move r rfl) rfl fun fr r => ?_
  refine s0 r (rfl : false = _) fun fr r => ?_
  refine s0 r (rfl : false = _) fun fr r => ?_
  refine s0 r (rfl : false = _) fun fr r => ?_
  refine seq_val (.bool false) r (fun R => y_pick r (b := false) (congrArg Value.bool (rfl : false = _)) rfl) rfl fun fr r => ?_
  refine seq_val (.bool false) r (fun R => y_move r rfl) rfl fun fr r => ?_
  refine s0 r (rfl : false = _) fun fr r => ?_
  refine s0 r (rfl : false = _) fun fr r => ?_
  refine s0 r (rfl : false = _) fun fr r => ?_
  refine s0 r (rfl : false = _) fun fr r => ?_
  refine s0 r (rfl : false = _) fun fr r => ?_
  refine s0 r (rfl : false = _) fun fr r => ?_
  refine seq_val (.bool false) r (fun R => y_pick r (b := false) (congrArg Value.bool (rfl : false = _)) rfl) rfl fun fr r => ?_
  refine seq_val (.bool false) r (fun R => zz05 r rfl) rfl fun fr r => ?_
  refine wn ?_
  refine wp_ret ?_
  have hd : D.zz0b a0 = false := (cond_f h4).trans (rfl)
  refine ret_tmp r rfl rfl ?_
  rw [hd]
  exact ⟨rfl, hB⟩

end Go.Proofs.YtjkinpbfmihhdaaGreat

/- A formed field's numbers. -/
namespace Go.Proofs.YtjkinpbfmihhdaaGreat
theorem zz74 {f : Field} (h : D.zz0b f = true) : 0 ≤ f.at_ ∧ f.at_ < 64 ∧ 1 ≤ f.bits ∧ f.bits ≤ 64 - f.at_ := by
  unfold D.zz0b at h
  have hw : ∀ x : Int, 0 ≤ x → x < 64 → IntKind.i64.wrap (64 - x) = 64 - x := by
    intro x h0 h1
    simp only [IntKind.wrap]
    simp [IntKind.signed, IntKind.bits]
    omega
  cases h1 : decide (f.at_ ≥ 0) <;> rw [h1] at h
  · cases h
  cases h2 : decide (f.at_ < 64) <;> rw [h2] at h
  · cases h
  cases h3 : decide (f.bits ≥ 1) <;> rw [h3] at h
  · cases h
  simp only [decide_eq_true_eq] at h1 h2 h3
  simp only [cond_true, decide_eq_true_eq] at h
  rw [hw _ h1 h2] at h
  omega

end Go.Proofs.YtjkinpbfmihhdaaGreat

/- Written by a program of ours (wip/gen.py): fields -/
set_option linter.unusedVariables false
set_option maxRecDepth 20000
set_option maxHeartbeats 2000000
namespace Go.Proofs.YtjkinpbfmihhdaaGreat
open Go.RowKit
theorem cl260 : callable Tryz.prog 260 = true := by kernel_rfl

theorem cl262 : callable Tryz.prog 262 = true := by kernel_rfl

theorem cl263 : callable Tryz.prog 263 = true := by kernel_rfl

theorem ta223 : tyA Tryz.prog 223 2 = true := by kernel_rfl

def D.zz0e (a0 : Field) : Int := (bif (!(D.zz0b a0)) then 0 else (bif (a0.bits == 64) then 18446744073709551615 else (IntKind.u64.wrap ((shlI .u64 1 a0.bits) - 1))))

theorem zz3a (w0 : World) 
    (a0 : Field) :
    Calls Tryz.prog 263 #[.agg (fieldC a0).toArray] w0 (PureRes (.int .u64 (D.zz0e a0)) w0) := by
 refine enter Tryz.func263 rfl 15 rfl rfl fun fr r => ?_
 have hB := Below.refl w0.heap.size w0
 refine wsr ?_
 refine seq_new (.cells ((fieldC a0)).toArray 223 (0, 0)) r (fun R => y_box r (v := (.agg (fieldC a0).toArray)) rfl) rfl fun fr b1 w2 n3 r => ?_
 obtain ⟨e_b1, z_w2, h_b1, hB, zB⟩ := n3.all hB
 refine seq_val (U 0) r (fun R => zz05 r rfl) rfl fun fr r => ?_
 refine wn ?_
 refine wp_seq ?_
 refine wp_block ?_
 refine wsr ?_
 refine seq_val (.agg (fieldC a0).toArray) r (fun R => zz03 r (cs := (fieldC a0)) (n := 2) rfl h_b1 ta223 rfl) rfl fun fr r => ?_
 refine zz04 r (zz21 w2 a0) (fun R hc => y_call r rfl cl262 hc) rfl ?_
 rintro _ w4 ⟨rfl, hb⟩
 refine ⟨_, rfl, fun fr r => ?_⟩
 have z_w4 := hb.size
 have h_b1 := keep hb h_b1
 obtain ⟨hB, zB⟩ := bon hb hB
 refine seq_val (.bool (!(D.zz0b a0))) r (fun R => y_un r (u := (.bool (D.zz0b a0))) rfl rfl) rfl fun fr r => ?_
 refine seq_val (.bool (!(D.zz0b a0))) r (fun R => zz05 r rfl) rfl fun fr r => ?_
 refine wn ?_
 refine wp_cond_split (t := (!(D.zz0b a0))) (r.ev rfl) (fun h5 => ?_) (fun h5 => ?_)
 ·
  refine wsr ?_
  refine seq_val (U 0) r (fun R => zz05 r rfl) rfl fun fr r => ?_
  refine wn ?_
  refine wp_ret ?_
  have hd : D.zz0e a0 = 0 := (cond_t h5).trans (rfl)
  refine ret_tmp r rfl rfl ?_
  rw [hd]
  exact ⟨rfl, hB⟩
 ·
  refine wsr ?_
  refine seq_val _ r (fun R => zz02 r (o := 0) rfl fo223_1) rfl fun fr r => ?_
  refine seq_val (I a0.bits) r (fun R => zz01 r rfl h_b1 to3 rfl) rfl fun fr r => ?_
  refine seq_val _ r (fun R => y_bin r rfl rfl rfl rfl) rfl fun fr r => ?_
  refine seq_val (.bool (a0.bits == 64)) r (fun R => zz05 r rfl) rfl fun fr r => ?_
  refine wn ?_
  refine wp_cond_split (t := (a0.bits == 64)) (r.ev rfl) (fun h6 => ?_) (fun h6 => ?_)
  ·
   refine wsr ?_
   refine seq_val (U 18446744073709551615) r (fun R => zz05 r rfl) rfl fun fr r => ?_
   refine wn ?_
   refine wp_ret ?_
   have hd : D.zz0e a0 = 18446744073709551615 := (cond_f h5).trans ((cond_t h6).trans (rfl))
   refine ret_tmp r rfl rfl ?_
   rw [hd]
   exact ⟨rfl, hB⟩
  ·
   refine wp_skip ?_
   refine wsr ?_
   refine seq_val _ r (fun R => zz02 r (o := 0) rfl fo223_1) rfl fun fr r => ?_
   refine seq_val (I a0.bits) r (fun R => zz01 r rfl h_b1 to3 rfl) rfl fun fr r => ?_
   refine seq_val _ r (fun R => y_bin r rfl rfl rfl (bin_shl (by first | assumption | decide | (have hq := zz74 (by simpa using ‹(!D.zz0b _) = false›); omega)))) rfl fun fr r => ?_
   refine seq_val _ r (fun R => y_bin r rfl rfl rfl rfl) rfl fun fr r => ?_
   refine seq_val (U (V ((shlI .u64 1 a0.bits) - 1))) r (fun R => zz05 r rfl) rfl fun fr r => ?_
   refine wn ?_
   refine wp_ret ?_
   have hd : D.zz0e a0 = (V ((shlI .u64 1 a0.bits) - 1)) := (cond_f h5).trans ((cond_f h6).trans (rfl))
   refine ret_tmp r rfl rfl ?_
   rw [hd]
   exact ⟨rfl, hB⟩

def D.zz0c (a0 : Field) (a1 : Int) : Int := (bif (!(D.zz0b a0)) then 0 else (zz4p .u64 (shrI .u64 a1 a0.at_) (D.zz0e a0)))

theorem zz3r (w0 : World) 
    (a0 : Field) (a1 : Int) :
    Calls Tryz.prog 161 #[.agg (fieldC a0).toArray, .int .u64 a1] w0 (PureRes (.int .u64 (D.zz0c a0 a1)) w0) := by
 refine enter Tryz.func161 rfl 15 rfl rfl fun fr r => ?_
 have hB := Below.refl w0.heap.size w0
 refine wsr ?_
 refine seq_new (.cells ((fieldC a0)).toArray 223 (0, 0)) r (fun R => y_box r (v := (.agg (fieldC a0).toArray)) rfl) rfl fun fr b1 w2 n3 r => ?_
 obtain ⟨e_b1, z_w2, h_b1, hB, zB⟩ := n3.all hB
 refine seq_val (U 0) r (fun R => zz05 r rfl) rfl fun fr r => ?_
 refine wn ?_
 refine wp_seq ?_
 refine wsr ?_
 refine seq_val (.agg (fieldC a0).toArray) r (fun R => zz03 r (cs := (fieldC a0)) (n := 2) rfl h_b1 ta223 rfl) rfl fun fr r => ?_
 refine zz04 r (zz21 w2 a0) (fun R hc => y_call r rfl cl262 hc) rfl ?_
 rintro _ w4 ⟨rfl, hb⟩
 refine ⟨_, rfl, fun fr r => ?_⟩
 have z_w4 := hb.size
 have h_b1 := keep hb h_b1
 obtain ⟨hB, zB⟩ := bon hb hB
 refine seq_val (.bool (!(D.zz0b a0))) r (fun R => y_un r (u := (.bool (D.zz0b a0))) rfl rfl) rfl fun fr r => ?_
 refine wn ?_
 refine wp_cond_split (t := (!(D.zz0b a0))) (r.ev rfl) (fun h5 => ?_) (fun h5 => ?_)
 ·
  refine wsr ?_
  refine seq_val (U 0) r (fun R => zz05 r rfl) rfl fun fr r => ?_
  refine wn ?_
  refine wp_ret ?_
  have hd : D.zz0c a0 a1 = 0 := (cond_t h5).trans (rfl)
  refine ret_tmp r rfl rfl ?_
  rw [hd]
  exact ⟨rfl, hB⟩
 ·
  refine wp_skip ?_
  refine wp_seq ?_
  refine zz0s 7 [.val (U a1), .val (.pointer (some ⟨b1, 0, none⟩)), .val (I a0.at_), .val (U (shrI .u64 a1 a0.at_)), .val (.agg (fieldC a0).toArray), .val (U (D.zz0e a0)), .val (U (zz4p .u64 (shrI .u64 a1 a0.at_) (D.zz0e a0)))] mixed r (by kernel_rfl) (zz00 (by exact trivial) (zz00 (by exact trivial) (zz00 (by exact trivial) (zz00 (by exact trivial) (zz00 (by exact trivial) (zz00 (by exact trivial) (zz00 (by exact trivial) zz0m))))))) ?_ ?_
  ·
   refine ec r (fun _ u _ b d s => y_move s rfl bz) ?_
   refine ec r (fun _ u _ b d s => zz02 s (b := b1) (o := 0) rfl fo223_0 bz) ?_
   refine ec r (fun _ u _ b d s => zz01 s d.1 (keep b h_b1) to3 rfl bz) ?_
   refine ec r (fun _ u _ b d s => y_bin s d.1 d.2.1 rfl (bin_shr (by first | assumption | decide | (have hq := zz74 (by simpa using ‹(!D.zz0b _) = false›); omega))) bz) ?_
   refine ec r (fun _ u _ b d s => zz03 s (cs := (fieldC a0)) (n := 2) rfl (keep b h_b1) ta223 rfl bz) ?_
   refine ec r (fun fr1 u w' hb' hd r' => y_call r' (args := [(.agg (fieldC a0).toArray)]) (lc hd.1 l0) cl263 ((zz3a _ a0).mono (by rintro _ w2 ⟨rfl, hb2⟩; exact ⟨_, rfl, hb2, rfl⟩))) ?_
   refine ec r (fun _ u _ b d s => y_bin s d.1 d.2.1 rfl rfl bz) ?_
   exact zz10
  ·
   intro fr u w6 hb hΦ hne r
   have r := r.congr (sc (hΦ 6 (by decide)) (sc (hΦ 5 (by decide)) (sc (hΦ 4 (by decide)) (sc (hΦ 3 (by decide)) (sc (hΦ 2 (by decide)) (sc (hΦ 1 (by decide)) (sc (hΦ 0 (by decide)) rfl)))))))
   have z_w6 := hb.size
   have h_b1 := keep hb h_b1
   obtain ⟨hB, zB⟩ := bon hb hB
   refine seq_val (U (zz4p .u64 (shrI .u64 a1 a0.at_) (D.zz0e a0))) r (fun R => zz05 r rfl) rfl fun fr r => ?_
   refine wn ?_
   refine wp_ret ?_
   have hd : D.zz0c a0 a1 = (zz4p .u64 (shrI .u64 a1 a0.at_) (D.zz0e a0)) := (cond_f h5).trans (rfl)
   refine ret_tmp r rfl rfl ?_
   rw [hd]
   exact ⟨rfl, hB⟩

def D.zz0l (a0 : Field) : Int := (bif (!(D.zz0b a0)) then 0 else (shlI .u64 (D.zz0e a0) a0.at_))

theorem zz3c (w0 : World) 
    (a0 : Field) :
    Calls Tryz.prog 260 #[.agg (fieldC a0).toArray] w0 (PureRes (.int .u64 (D.zz0l a0)) w0) := by
 refine enter Tryz.func260 rfl 11 rfl rfl fun fr r => ?_
 have hB := Below.refl w0.heap.size w0
 refine wsr ?_
 refine seq_new (.cells ((fieldC a0)).toArray 223 (0, 0)) r (fun R => y_box r (v := (.agg (fieldC a0).toArray)) rfl) rfl fun fr b1 w2 n3 r => ?_
 obtain ⟨e_b1, z_w2, h_b1, hB, zB⟩ := n3.all hB
 refine seq_val (U 0) r (fun R => zz05 r rfl) rfl fun fr r => ?_
 refine wn ?_
 refine wp_seq ?_
 refine wsr ?_
 refine seq_val (.agg (fieldC a0).toArray) r (fun R => zz03 r (cs := (fieldC a0)) (n := 2) rfl h_b1 ta223 rfl) rfl fun fr r => ?_
 refine zz04 r (zz21 w2 a0) (fun R hc => y_call r rfl cl262 hc) rfl ?_
 rintro _ w4 ⟨rfl, hb⟩
 refine ⟨_, rfl, fun fr r => ?_⟩
 have z_w4 := hb.size
 have h_b1 := keep hb h_b1
 obtain ⟨hB, zB⟩ := bon hb hB
 refine seq_val (.bool (!(D.zz0b a0))) r (fun R => y_un r (u := (.bool (D.zz0b a0))) rfl rfl) rfl fun fr r => ?_
 refine wn ?_
 refine wp_cond_split (t := (!(D.zz0b a0))) (r.ev rfl) (fun h5 => ?_) (fun h5 => ?_)
 ·
  refine wsr ?_
  refine seq_val (U 0) r (fun R => zz05 r rfl) rfl fun fr r => ?_
  refine wn ?_
  refine wp_ret ?_
  have hd : D.zz0l a0 = 0 := (cond_t h5).trans (rfl)
  refine ret_tmp r rfl rfl ?_
  rw [hd]
  exact ⟨rfl, hB⟩
 ·
  refine wp_skip ?_
  refine wp_seq ?_
  refine zz0s 5 [.val (.agg (fieldC a0).toArray), .val (U (D.zz0e a0)), .val (.pointer (some ⟨b1, 0, none⟩)), .val (I a0.at_), .val (U (shlI .u64 (D.zz0e a0) a0.at_))] mixed r (by kernel_rfl) (zz00 (by exact trivial) (zz00 (by exact trivial) (zz00 (by exact trivial) (zz00 (by exact trivial) (zz00 (by exact trivial) zz0m))))) ?_ ?_
  ·
   refine ec r (fun _ u _ b d s => zz03 s (cs := (fieldC a0)) (n := 2) rfl (keep b h_b1) ta223 rfl bz) ?_
   refine ec r (fun fr1 u w' hb' hd r' => y_call r' (args := [(.agg (fieldC a0).toArray)]) (lc hd.1 l0) cl263 ((zz3a _ a0).mono (by rintro _ w2 ⟨rfl, hb2⟩; exact ⟨_, rfl, hb2, rfl⟩))) ?_
   refine ec r (fun _ u _ b d s => zz02 s (b := b1) (o := 0) rfl fo223_0 bz) ?_
   refine ec r (fun _ u _ b d s => zz01 s d.1 (keep b h_b1) to3 rfl bz) ?_
   refine ec r (fun _ u _ b d s => y_bin s d.1 d.2.1 rfl (bin_shl (by first | assumption | decide | (have hq := zz74 (by simpa using ‹(!D.zz0b _) = false›); omega))) bz) ?_
   exact zz10
  ·
   intro fr u w6 hb hΦ hne r
   have r := r.congr (sc (hΦ 4 (by decide)) (sc (hΦ 3 (by decide)) (sc (hΦ 2 (by decide)) (sc (hΦ 1 (by decide)) (sc (hΦ 0 (by decide)) rfl)))))
   have z_w6 := hb.size
   have h_b1 := keep hb h_b1
   obtain ⟨hB, zB⟩ := bon hb hB
   refine seq_val (U (shlI .u64 (D.zz0e a0) a0.at_)) r (fun R => zz05 r rfl) rfl fun fr r => ?_
   refine wn ?_
   refine wp_ret ?_
   have hd : D.zz0l a0 = (shlI .u64 (D.zz0e a0) a0.at_) := (cond_f h5).trans (rfl)
   refine ret_tmp r rfl rfl ?_
   rw [hd]
   exact ⟨rfl, hB⟩

def D.zz16 (a0 : Field) (a1 : Int) (a2 : Int) : Int := (bif (!(D.zz0b a0)) then a1 else (bits_or .u64 (zz1u .u64 a1 (D.zz0l a0)) (shlI .u64 (zz4p .u64 a2 (D.zz0e a0)) a0.at_)))

theorem zz58 (w0 : World) 
    (a0 : Field) (a1 : Int) (a2 : Int) :
    Calls Tryz.prog 296 #[.agg (fieldC a0).toArray, .int .u64 a1, .int .u64 a2] w0 (PureRes (.int .u64 (D.zz16 a0 a1 a2)) w0) := by
 refine enter Tryz.func296 rfl 23 rfl rfl fun fr r => ?_
 have hB := Below.refl w0.heap.size w0
 refine wsr ?_
 refine seq_new (.cells ((fieldC a0)).toArray 223 (0, 0)) r (fun R => y_box r (v := (.agg (fieldC a0).toArray)) rfl) rfl fun fr b1 w2 n3 r => ?_
 obtain ⟨e_b1, z_w2, h_b1, hB, zB⟩ := n3.all hB
 refine seq_val (U 0) r (fun R => zz05 r rfl) rfl fun fr r => ?_
 refine wn ?_
 refine wp_seq ?_
 refine wsr ?_
 refine seq_val (.agg (fieldC a0).toArray) r (fun R => zz03 r (cs := (fieldC a0)) (n := 2) rfl h_b1 ta223 rfl) rfl fun fr r => ?_
 refine zz04 r (zz21 w2 a0) (fun R hc => y_call r rfl cl262 hc) rfl ?_
 rintro _ w4 ⟨rfl, hb⟩
 refine ⟨_, rfl, fun fr r => ?_⟩
 have z_w4 := hb.size
 have h_b1 := keep hb h_b1
 obtain ⟨hB, zB⟩ := bon hb hB
 refine seq_val (.bool (!(D.zz0b a0))) r (fun R => y_un r (u := (.bool (D.zz0b a0))) rfl rfl) rfl fun fr r => ?_
 refine wn ?_
 refine wp_cond_split (t := (!(D.zz0b a0))) (r.ev rfl) (fun h5 => ?_) (fun h5 => ?_)
 ·
  refine wsr ?_
  refine seq_val (U a1) r (fun R => y_move r rfl) rfl fun fr r => ?_
  refine seq_val (U a1) r (fun R => zz05 r rfl) rfl fun fr r => ?_
  refine wn ?_
  refine wp_ret ?_
  have hd : D.zz16 a0 a1 a2 = a1 := (cond_t h5).trans (rfl)
  refine ret_tmp r rfl rfl ?_
  rw [hd]
  exact ⟨rfl, hB⟩
 ·
  refine wp_skip ?_
  refine wp_seq ?_
  refine zz0s 12 [.val (U a1), .val (.agg (fieldC a0).toArray), .val (U (D.zz0l a0)), .val (U (zz1u .u64 a1 (D.zz0l a0))), .val (U a2), .val (.agg (fieldC a0).toArray), .val (U (D.zz0e a0)), .val (U (zz4p .u64 a2 (D.zz0e a0))), .val (.pointer (some ⟨b1, 0, none⟩)), .val (I a0.at_), .val (U (shlI .u64 (zz4p .u64 a2 (D.zz0e a0)) a0.at_)), .val (U (bits_or .u64 (zz1u .u64 a1 (D.zz0l a0)) (shlI .u64 (zz4p .u64 a2 (D.zz0e a0)) a0.at_)))] mixed r (by kernel_rfl) (zz00 (by exact trivial) (zz00 (by exact trivial) (zz00 (by exact trivial) (zz00 (by exact trivial) (zz00 (by exact trivial) (zz00 (by exact trivial) (zz00 (by exact trivial) (zz00 (by exact trivial) (zz00 (by exact trivial) (zz00 (by exact trivial) (zz00 (by exact trivial) (zz00 (by exact trivial) zz0m)))))))))))) ?_ ?_
  ·
   refine ec r (fun _ u _ b d s => y_move s rfl bz) ?_
   refine ec r (fun _ u _ b d s => zz03 s (cs := (fieldC a0)) (n := 2) rfl (keep b h_b1) ta223 rfl bz) ?_
   refine ec r (fun fr1 u w' hb' hd r' => y_call r' (args := [(.agg (fieldC a0).toArray)]) (lc hd.1 l0) cl260 ((zz3c _ a0).mono (by rintro _ w2 ⟨rfl, hb2⟩; exact ⟨_, rfl, hb2, rfl⟩))) ?_
   refine ec r (fun _ u _ b d s => y_bin s d.1 d.2.1 rfl rfl bz) ?_
   refine ec r (fun _ u _ b d s => y_move s rfl bz) ?_
   refine ec r (fun _ u _ b d s => zz03 s (cs := (fieldC a0)) (n := 2) rfl (keep b h_b1) ta223 rfl bz) ?_
   refine ec r (fun fr1 u w' hb' hd r' => y_call r' (args := [(.agg (fieldC a0).toArray)]) (lc hd.1 l0) cl263 ((zz3a _ a0).mono (by rintro _ w2 ⟨rfl, hb2⟩; exact ⟨_, rfl, hb2, rfl⟩))) ?_
   refine ec r (fun _ u _ b d s => y_bin s d.1 d.2.1 rfl rfl bz) ?_
   refine ec r (fun _ u _ b d s => zz02 s (b := b1) (o := 0) rfl fo223_0 bz) ?_
   refine ec r (fun _ u _ b d s => zz01 s d.1 (keep b h_b1) to3 rfl bz) ?_
   refine ec r (fun _ u _ b d s => y_bin s d.1 d.2.1 rfl (bin_shl (by first | assumption | decide | (have hq := zz74 (by simpa using ‹(!D.zz0b _) = false›); omega))) bz) ?_
   refine ec r (fun _ u _ b d s => y_bin s d.1 d.2.1 rfl rfl bz) ?_
   exact zz10
  ·
   intro fr u w6 hb hΦ hne r
   have r := r.congr (sc (hΦ 11 (by decide)) (sc (hΦ 10 (by decide)) (sc (hΦ 9 (by decide)) (sc (hΦ 8 (by decide)) (sc (hΦ 7 (by decide)) (sc (hΦ 6 (by decide)) (sc (hΦ 5 (by decide)) (sc (hΦ 4 (by decide)) (sc (hΦ 3 (by decide)) (sc (hΦ 2 (by decide)) (sc (hΦ 1 (by decide)) (sc (hΦ 0 (by decide)) rfl))))))))))))
   have z_w6 := hb.size
   have h_b1 := keep hb h_b1
   obtain ⟨hB, zB⟩ := bon hb hB
   refine seq_val (U (bits_or .u64 (zz1u .u64 a1 (D.zz0l a0)) (shlI .u64 (zz4p .u64 a2 (D.zz0e a0)) a0.at_))) r (fun R => zz05 r rfl) rfl fun fr r => ?_
   refine wn ?_
   refine wp_ret ?_
   have hd : D.zz16 a0 a1 a2 = (bits_or .u64 (zz1u .u64 a1 (D.zz0l a0)) (shlI .u64 (zz4p .u64 a2 (D.zz0e a0)) a0.at_)) := (cond_f h5).trans (rfl)
   refine ret_tmp r rfl rfl ?_
   rw [hd]
   exact ⟨rfl, hB⟩

end Go.Proofs.YtjkinpbfmihhdaaGreat

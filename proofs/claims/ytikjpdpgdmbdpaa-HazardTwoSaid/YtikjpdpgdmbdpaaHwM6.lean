/- Some of our texts, one behind the other. -/
import Derived.Test.YtikjpdpgdmbdpaaRows
import Derived.Test.YtikjpdpgdmbdpaaHwM4
import Derived.Test.YtikjpdpgdmbdpaaHwMems
set_option linter.all false
/- within: are numbers in their bounds? -/
namespace Go.Proofs.Ytikjpdpgdmbdpaa
open Go.RowKit
def D.plan_within (l:List Bound):Bool:=l.all fun b=>!(decide (b.n<b.least))&&!(decide (b.n > b.most))

theorem within_no {l:List Bound} {k:Nat} (h:k<l.length) (hb:l[k].n<l[k].least∨l[k].n > l[k].most):D.plan_within l=false:=by
  unfold D.plan_within;rw [List.all_eq_false];refine ⟨l[k],List.getElem_mem h,?_⟩
  rcases hb with hb | hb <;> simp [hb]

theorem within_step {l:List Bound} {k:Nat} (h:k<l.length) (hw:D.plan_within (l.take k)=true) (h1:¬ l[k].n<l[k].least) (h2:¬ l[k].n > l[k].most):D.plan_within (l.take (k+1))=true:=by
  unfold D.plan_within at *
  rw [List.take_succ_eq_append_getElem h,List.all_append,hw]
  simp only [List.all_cons,List.all_nil,Bool.true_and,Bool.and_true,Bool.and_eq_true,Bool.not_eq_true',decide_eq_false_iff_not]
  exact ⟨h1,h2⟩

theorem tsb:sized Try.prog 85 3=true:=by kernel_rfl

theorem tab:tyA Try.prog 85 3=true:=by kernel_rfl

theorem tib:tyO Try.prog 3=true:=by kernel_rfl

theorem isb:isSlice Try.prog 118=true:=by kernel_rfl

theorem slb:sliceTy Try.prog 118 3=true:=by kernel_rfl

theorem zb:zeroOf Try.prog 85=some (.agg #[.int .i64 0,.int .i64 0,.int .i64 0]):=by kernel_rfl

theorem fb0:fieldOff Try.prog 85 0 0=true:=by kernel_rfl

theorem fb1:fieldOff Try.prog 85 1 1=true:=by kernel_rfl

theorem fb2:fieldOff Try.prog 85 2 2=true:=by kernel_rfl

set_option maxRecDepth 20000 in
set_option maxHeartbeats 1000000 in
theorem c_plan_within (w0:World) (l:List Bound) {b:Nat} (hb:w0.heap[b]?=some (.cells (boundsC l).toArray 85 (0,0))) (hl:l.length≤8):Calls Try.prog 56 #[.slice (some ⟨b,0,none⟩) l.length l.length] w0 (PureRes (.bool (D.plan_within l)) w0):=by
  refine enter (l:=[.slice (some ⟨b,0,none⟩) l.length l.length]) Try.func56 rfl 24 rfl rfl fun a0 r=>?_;refine wp_seq (wp_region_lit ?_)
  refine seq_val (.bool false) r (fun R=>y_assign r rfl) rfl fun a0 r=>wpList_nil ?_;refine wp_seq (wp_seq (wp_region_lit ?_))
  refine seq_val (.slice (some ⟨b,0,none⟩) l.length l.length) r (fun R=>y_move r rfl) rfl fun a0 r=>?_;refine seq_val (.int .i64 l.length) r (fun R=>y_len r isb rfl) rfl fun a0 r=>?_
  refine seq_val (.int .i64 0) r (fun R=>y_move r rfl) rfl fun a0 r=>wpList_nil ?_;refine wp_block ?_
  refine wp_loopF (X:=Nat) (fun k=>[(5,.slice (some ⟨b,0,none⟩) l.length l.length),(6,.int .i64 l.length),(7,.int .i64 k)])
    (fun k w=>k≤l.length∧Below w0.heap.size w0 w∧D.plan_within (l.take k)=true) (fun k=>l.length - k) 0 r (hs_cons rfl (hs_cons rfl (hs_cons rfl hs_nil))) ⟨by omega,Below.refl _ _,by simp [D.plan_within]⟩ ?_
  rintro k a0 w g r ⟨hk,hB,hw⟩;have hbw:w.heap[b]?=some (.cells (boundsC l).toArray 85 (0,0)):=by rw [hB.block b (lt_of_block hb)]; exact hb
  refine wp_seq (wp_region_lit ?_);refine seq_val (.bool (decide ((k:Int)<l.length))) r (fun R=>y_bin r (u:=.int .i64 k) (u':=.int .i64 l.length) rfl rfl rfl rfl) rfl fun a0 r=>wpList_nil ?_;refine wp_seq (wp_cond_split (t:=decide ((k:Int)<l.length)) (r.ev rfl) (fun h=>?_) (fun h=>?_))
  · have hkl:k<l.length:=by simpa using h
    refine wp_skip ?_;refine wp_seq (wp_block ?_);refine wp_seq (wp_region_lit ?_);refine seq_val (.pointer (some ⟨b,0+(k:Int).toNat * 3,none⟩)) r (fun R=>y_indexAddr r slb rfl rfl (by omega) (by omega)) rfl fun a0 r=>?_;refine seq_val (.agg (boundC l[k]).toArray) r (fun R=>y_load_agg r (cs:=boundC l[k]) (n:=3) rfl hbw tab (by have:=flat_at (f:=boundC) (n:=3) (fun _=>rfl) l k hkl; simpa [boundsC] using this)) rfl fun a0 r=>?_
    refine seq_new (.cells #[.int .i64 0,.int .i64 0,.int .i64 0] 85 (0,0)) r (fun R=>y_alloc zb) rfl fun a0 b1 w1 n1 r=>?_;have e1:=n1.eq
    have z1:=n1.size;have h1:=n1.at_;have zB:=hB.size;have hB:=hB.trans (n1.below.mono hB.size);refine seq_upd (.cells (boundC l[k]).toArray 85 (0,0)) r (fun R=>y_store r (v:=.agg (boundC l[k]).toArray) rfl rfl h1 tsb (Nat.le_of_ble_eq_true rfl) rfl rfl) rfl fun a0 w2 u2 r=>wpList_nil ?_;have z2:=u2.size
    have h2:=u2.at_;have hB:=u2.below hB (by omega)
    refine wp_seq (wp_region_lit ?_);refine seq_val (.pointer (some ⟨b1,0,none⟩)) r (fun R=>y_fieldAddr r (o:=0) rfl fb0) rfl fun a0 r=>?_;refine seq_val (.int .i64 l[k].n) r (fun R=>y_load_one r rfl h2 tib rfl) rfl fun a0 r=>?_
    refine seq_val (.pointer (some ⟨b1,1,none⟩)) r (fun R=>y_fieldAddr r (o:=0) rfl fb1) rfl fun a0 r=>?_;refine seq_val (.int .i64 l[k].least) r (fun R=>y_load_one r rfl h2 tib rfl) rfl fun a0 r=>?_
    refine seq_val (.bool (decide (l[k].n<l[k].least))) r (fun R=>y_bin r (u:=.int .i64 l[k].n) (u':=.int .i64 l[k].least) rfl rfl rfl rfl) rfl fun a0 r=>?_;refine seq_val (.bool (decide (l[k].n<l[k].least))) r (fun R=>y_move r rfl) rfl fun a0 r=>?_
    have wi:IntKind.i64.wrap ((k:Int)+1)=((k+1:Nat):Int):=by
      have:IntKind.i64.wrap ((k:Int)+1)=(k:Int)+1:=by simp only [IntKind.wrap]; simp [IntKind.signed,IntKind.bits]; omega
      rw [this]; omega
    refine seq_split (decide (l[k].n<l[k].least)) (fun h1=>?_) (fun h1=>?_)
    · have hn:=within_no hkl (.inl (of_decide_eq_true h1))
      refine seq_skip r rfl rfl rfl (v:=.bool true) (congrArg Value.bool h1) (by simp [boolOf]) fun a0 r=>?_;refine seq_skip r rfl rfl rfl (v:=.bool true) (congrArg Value.bool h1) (by simp [boolOf]) fun a0 r=>?_
      refine seq_skip r rfl rfl rfl (v:=.bool true) (congrArg Value.bool h1) (by simp [boolOf]) fun a0 r=>?_;refine seq_skip r rfl rfl rfl (v:=.bool true) (congrArg Value.bool h1) (by simp [boolOf]) fun a0 r=>?_
      refine seq_skip r rfl rfl rfl (v:=.bool true) (congrArg Value.bool h1) (by simp [boolOf]) fun a0 r=>?_;refine seq_val (.bool true) r (fun R=>y_pick r (b:=true) (congrArg Value.bool h1) rfl) rfl fun a0 r=>wpList_nil ?_
      refine wp_cond_split (t:=true) (r.ev rfl) (fun _=>?_) (fun h=>by cases h)
      refine wp_seq (wp_region_lit ?_);refine seq_val (.bool false) r (fun R=>y_assign r rfl) rfl fun a0 r=>wpList_nil ?_;refine wp_ret ?_
      refine ret_tmp r rfl (v:=.bool false) rfl ?_;rw [hn];exact ⟨rfl,hB⟩
    · refine seq_want r rfl rfl rfl (congrArg Value.bool h1) ?_
      refine seq_val (.pointer (some ⟨b1,0,none⟩)) r (fun R=>y_fieldAddr r (o:=0) rfl fb0) rfl fun a0 r=>?_;refine seq_want r rfl rfl rfl (congrArg Value.bool h1) ?_
      refine seq_val (.int .i64 l[k].n) r (fun R=>y_load_one r rfl h2 tib rfl) rfl fun a0 r=>?_;refine seq_want r rfl rfl rfl (congrArg Value.bool h1) ?_
      refine seq_val (.pointer (some ⟨b1,2,none⟩)) r (fun R=>y_fieldAddr r (o:=0) rfl fb2) rfl fun a0 r=>?_;refine seq_want r rfl rfl rfl (congrArg Value.bool h1) ?_
      refine seq_val (.int .i64 l[k].most) r (fun R=>y_load_one r rfl h2 tib rfl) rfl fun a0 r=>?_;refine seq_want r rfl rfl rfl (congrArg Value.bool h1) ?_
      refine seq_val (.bool (decide (l[k].n > l[k].most))) r (fun R=>y_bin r (u:=.int .i64 l[k].n) (u':=.int .i64 l[k].most) rfl rfl rfl rfl) rfl fun a0 r=>?_;refine seq_val (.bool (decide (l[k].n > l[k].most))) r (fun R=>y_pick r (b:=false) (congrArg Value.bool h1) rfl) rfl fun a0 r=>wpList_nil ?_
      refine wp_cond_split (t:=decide (l[k].n > l[k].most)) (r.ev rfl) (fun h2'=>?_) (fun h2'=>?_)
      · have hn:=within_no hkl (.inr (of_decide_eq_true h2'))
        refine wp_seq (wp_region_lit ?_);refine seq_val (.bool false) r (fun R=>y_assign r rfl) rfl fun a0 r=>wpList_nil ?_;refine wp_ret ?_
        refine ret_tmp r rfl (v:=.bool false) rfl ?_;rw [hn];exact ⟨rfl,hB⟩
      · refine wp_skip ?_
        refine wp_region_lit ?_;refine seq_val (.int .i64 ((k+1:Nat):Int)) r (fun R=>y_bin r (u:=.int .i64 k) (u':=.int .i64 1) rfl rfl rfl (congrArg (fun z=>Result.ok (Value.int .i64 z) _) wi)) rfl fun a0 r=>?_;refine seq_val (.int .i64 ((k+1:Nat):Int)) r (fun R=>y_move r rfl) rfl fun a0 r=>wpList_nil ?_
        exact ⟨k+1,_,r,hs_cons rfl (hs_cons rfl (hs_cons rfl hs_nil)),⟨hkl,hB,within_step hkl hw (of_decide_eq_false h1) (of_decide_eq_false h2')⟩,by omega⟩
  · have hkl:k=l.length:=by have:=of_decide_eq_false h; omega
    subst hkl;refine wp_exit ?_;refine wp_seq (wp_region_lit ?_);refine seq_val (.bool true) r (fun R=>y_assign r rfl) rfl fun a0 r=>wpList_nil ?_;refine wp_ret ?_
    refine ret_tmp r rfl (v:=.bool true) rfl ?_;rw [List.take_length] at hw
    rw [hw]
    exact ⟨rfl,hB⟩

set_option maxRecDepth 20000 in
set_option maxHeartbeats 1000000 in
theorem c_plan_within_nil (w0:World):Calls Try.prog 56 #[.slice none 0 0] w0 (PureRes (.bool (D.plan_within [])) w0):=by
  refine enter (l:=[.slice none 0 0]) Try.func56 rfl 24 rfl rfl fun a0 r=>?_;refine wp_seq (wp_region_lit ?_)
  refine seq_val (.bool false) r (fun R=>y_assign r rfl) rfl fun a0 r=>wpList_nil ?_;refine wp_seq (wp_seq (wp_region_lit ?_))
  refine seq_val (.slice none 0 0) r (fun R=>y_move r rfl) rfl fun a0 r=>?_;refine seq_val (.int .i64 ((0:Nat):Int)) r (fun R=>y_len r isb rfl) rfl fun a0 r=>?_
  refine seq_val (.int .i64 0) r (fun R=>y_move r rfl) rfl fun a0 r=>wpList_nil ?_;refine wp_block ?_
  refine wp_loopF (X:=Unit) (fun _=>[(6,.int .i64 ((0:Nat):Int)),(7,.int .i64 0)]) (fun _ w=>w=w0) (fun _=>0) () r (hs_cons rfl (hs_cons rfl hs_nil)) rfl ?_;rintro _ a0 w g r rfl
  refine wp_seq (wp_region_lit ?_);refine seq_val (.bool (decide ((0:Int)<((0:Nat):Int)))) r (fun R=>y_bin r (u:=.int .i64 0) (u':=.int .i64 ((0:Nat):Int)) rfl rfl rfl rfl) rfl fun a0 r=>wpList_nil ?_;refine wp_seq (wp_cond_split (t:=decide ((0:Int)<((0:Nat):Int))) (r.ev rfl) (fun h=>by cases h) (fun h=>?_))
  refine wp_exit ?_;refine wp_seq (wp_region_lit ?_);refine seq_val (.bool true) r (fun R=>y_assign r rfl) rfl fun a0 r=>wpList_nil ?_;refine wp_ret ?_
  refine ret_tmp r rfl (v:=.bool true) rfl ?_;exact ⟨rfl,Below.refl _ _⟩

end Go.Proofs.Ytikjpdpgdmbdpaa

/- Written by a program of ours (wip/gen.py): plans -/
set_option linter.unusedVariables false
set_option maxRecDepth 20000
set_option maxHeartbeats 2000000
namespace Go.Proofs.Ytikjpdpgdmbdpaa
open Go.RowKit
theorem cl30:callable Try.prog 30=true:=by kernel_rfl

theorem cl31:callable Try.prog 31=true:=by kernel_rfl

theorem cl32:callable Try.prog 32=true:=by kernel_rfl

theorem cl39:callable Try.prog 39=true:=by kernel_rfl

theorem cl40:callable Try.prog 40=true:=by kernel_rfl

theorem cl54:callable Try.prog 54=true:=by kernel_rfl

theorem cl56:callable Try.prog 56=true:=by kernel_rfl

theorem cl57:callable Try.prog 57=true:=by kernel_rfl

theorem cl63:callable Try.prog 63=true:=by kernel_rfl

theorem fo26_0:fieldOff Try.prog 26 0 0=true:=by kernel_rfl

theorem fo26_1:fieldOff Try.prog 26 1 1=true:=by kernel_rfl

theorem fo26_2:fieldOff Try.prog 26 2 2=true:=by kernel_rfl

theorem fo26_3:fieldOff Try.prog 26 3 3=true:=by kernel_rfl

theorem fo26_4:fieldOff Try.prog 26 4 4=true:=by kernel_rfl

theorem fo26_5:fieldOff Try.prog 26 5 5=true:=by kernel_rfl

theorem ta26:tyA Try.prog 26 6=true:=by kernel_rfl

theorem ta85:tyA Try.prog 85 3=true:=by kernel_rfl

theorem ts85:sized Try.prog 85 3=true:=by kernel_rfl

theorem tz85:zeroOf Try.prog 85=some (.agg (boundC (⟨0,0,0⟩:Bound)).toArray):=by kernel_rfl

def D.plan_Plan_Formed (a0:Plan):Bool:=(bif (D.plan_within ([(⟨a0.nodes,1,1048576⟩:Bound),(⟨a0.threads,1,16⟩:Bound),(⟨a0.domains,0,64⟩:Bound),(⟨a0.buckets,1,256⟩:Bound),(⟨a0.gen,1,1073741823⟩:Bound)])) then (D.plan_within ([(⟨a0.retire,(IntKind.i64.wrap ((IntKind.i64.wrap (3 * a0.threads))+1)),1024⟩:Bound)])) else false)

theorem c_plan_Plan_Formed (w0:World) 
    (a0:Plan) :
    Calls Try.prog 54 #[.agg (planC a0).toArray] w0 (PureRes (.bool (D.plan_Plan_Formed a0)) w0):=by
 refine enter Try.func54 rfl 31 rfl rfl fun fr r=>?_;have hB:=Below.refl w0.heap.size w0
 refine wsr ?_;refine seq_new (.cells ((planC a0)).toArray 26 (0,0)) r (fun R=>y_box r (v:=(.agg (planC a0).toArray)) rfl) rfl fun fr b1 w2 n3 r=>?_;obtain ⟨e_b1,z_w2,h_b1,hB,zB⟩:=n3.all hB
 refine seq_val (.bool false) r (fun R=>y_assign r rfl) rfl fun fr r=>?_;refine wn ?_
 refine wsr ?_;refine seq_val _ r (fun R=>y_fieldAddr r (o:=0) rfl fo26_0) rfl fun fr r=>?_;refine seq_val (I a0.nodes) r (fun R=>y_load_one r rfl h_b1 to3 rfl) rfl fun fr r=>?_
 refine seq_val (.agg (boundC (⟨a0.nodes,1,1048576⟩:Bound)).toArray) r (fun R=>y_build r (by kernel_rfl)) rfl fun fr r=>?_;refine seq_val _ r (fun R=>y_fieldAddr r (o:=0) rfl fo26_1) rfl fun fr r=>?_
 refine seq_val (I a0.threads) r (fun R=>y_load_one r rfl h_b1 to3 rfl) rfl fun fr r=>?_;refine seq_val (.agg (boundC (⟨a0.threads,1,16⟩:Bound)).toArray) r (fun R=>y_build r (by kernel_rfl)) rfl fun fr r=>?_
 refine seq_val _ r (fun R=>y_fieldAddr r (o:=0) rfl fo26_3) rfl fun fr r=>?_;refine seq_val (I a0.domains) r (fun R=>y_load_one r rfl h_b1 to3 rfl) rfl fun fr r=>?_
 refine seq_val (.agg (boundC (⟨a0.domains,0,64⟩:Bound)).toArray) r (fun R=>y_build r (by kernel_rfl)) rfl fun fr r=>?_;refine seq_val _ r (fun R=>y_fieldAddr r (o:=0) rfl fo26_4) rfl fun fr r=>?_
 refine seq_val (I a0.buckets) r (fun R=>y_load_one r rfl h_b1 to3 rfl) rfl fun fr r=>?_;refine seq_val (.agg (boundC (⟨a0.buckets,1,256⟩:Bound)).toArray) r (fun R=>y_build r (by kernel_rfl)) rfl fun fr r=>?_
 refine seq_val _ r (fun R=>y_fieldAddr r (o:=0) rfl fo26_5) rfl fun fr r=>?_;refine seq_val (I a0.gen) r (fun R=>y_load_one r rfl h_b1 to3 rfl) rfl fun fr r=>?_
 refine seq_val (.agg (boundC (⟨a0.gen,1,1073741823⟩:Bound)).toArray) r (fun R=>y_build r (by kernel_rfl)) rfl fun fr r=>?_;refine seq_newS (.cells ((boundsC [(⟨a0.nodes,1,1048576⟩:Bound),(⟨a0.threads,1,16⟩:Bound),(⟨a0.domains,0,64⟩:Bound),(⟨a0.buckets,1,256⟩:Bound),(⟨a0.gen,1,1073741823⟩:Bound)])).toArray 85 (0,0)) 5 r (fun R=>y_bslice r (by kernel_rfl)) rfl fun fr b4 w5 n6 r=>?_
 have h_b1:=keep n6.below h_b1;obtain ⟨e_b4,z_w5,h_b4,hB,zB⟩:=n6.all hB;refine seq_call r (c_plan_within w5 ([(⟨a0.nodes,1,1048576⟩:Bound),(⟨a0.threads,1,16⟩:Bound),(⟨a0.domains,0,64⟩:Bound),(⟨a0.buckets,1,256⟩:Bound),(⟨a0.gen,1,1073741823⟩:Bound)]) h_b4 (by first | assumption | decide | exact guardI_eq (by assumption) | (simp; done))) (fun R hc=>y_call r rfl cl56 hc) rfl ?_
 rintro _ w7 ⟨rfl,hb⟩;refine ⟨_,rfl,fun fr r=>?_⟩
 have z_w7:=hb.size;have h_b1:=keep hb h_b1;have h_b4:=keep hb h_b4;obtain ⟨hB,zB⟩:=bon hb hB;refine seq_val (.bool (D.plan_within ([(⟨a0.nodes,1,1048576⟩:Bound),(⟨a0.threads,1,16⟩:Bound),(⟨a0.domains,0,64⟩:Bound),(⟨a0.buckets,1,256⟩:Bound),(⟨a0.gen,1,1073741823⟩:Bound)]))) r (fun R=>y_move r rfl) rfl fun fr r=>?_;refine seq_split (D.plan_within ([(⟨a0.nodes,1,1048576⟩:Bound),(⟨a0.threads,1,16⟩:Bound),(⟨a0.domains,0,64⟩:Bound),(⟨a0.buckets,1,256⟩:Bound),(⟨a0.gen,1,1073741823⟩:Bound)])) (fun h8=>?_) (fun h8=>?_)
 ·
  refine s1 r h8 ?_;refine seq_val _ r (fun R=>y_fieldAddr r (o:=0) rfl fo26_2) rfl fun fr r=>?_;refine s1 r h8 ?_
  refine seq_val (I a0.retire) r (fun R=>y_load_one r rfl h_b1 to3 rfl) rfl fun fr r=>?_;refine s1 r h8 ?_
  refine seq_val _ r (fun R=>y_fieldAddr r (o:=0) rfl fo26_1) rfl fun fr r=>?_;refine s1 r h8 ?_
  refine seq_val (I a0.threads) r (fun R=>y_load_one r rfl h_b1 to3 rfl) rfl fun fr r=>?_;refine s1 r h8 ?_
  refine seq_val _ r (fun R=>y_bin r rfl rfl rfl rfl) rfl fun fr r=>?_;refine s1 r h8 ?_
  refine seq_val _ r (fun R=>y_bin r rfl rfl rfl rfl) rfl fun fr r=>?_;refine s1 r h8 ?_
  refine seq_val (.agg (boundC (⟨a0.retire,(W ((W (3 * a0.threads))+1)),1024⟩:Bound)).toArray) r (fun R=>y_build r (by kernel_rfl)) rfl fun fr r=>?_;refine s1 r h8 ?_
  refine seq_newS (.cells ((boundsC [(⟨a0.retire,(W ((W (3 * a0.threads))+1)),1024⟩:Bound)])).toArray 85 (0,0)) 1 r (fun R=>y_bslice r (by kernel_rfl)) rfl fun fr b9 w10 n11 r=>?_;have h_b1:=keep n11.below h_b1
  have h_b4:=keep n11.below h_b4;obtain ⟨e_b9,z_w10,h_b9,hB,zB⟩:=n11.all hB;refine s1 r h8 ?_;refine seq_call r (c_plan_within w10 ([(⟨a0.retire,(W ((W (3 * a0.threads))+1)),1024⟩:Bound)]) h_b9 (by first | assumption | decide | exact guardI_eq (by assumption) | (simp; done))) (fun R hc=>y_call r rfl cl56 hc) rfl ?_
  rintro _ w12 ⟨rfl,hb⟩;refine ⟨_,rfl,fun fr r=>?_⟩
  have z_w12:=hb.size;have h_b1:=keep hb h_b1;have h_b4:=keep hb h_b4;have h_b9:=keep hb h_b9;obtain ⟨hB,zB⟩:=bon hb hB;refine seq_val (.bool (D.plan_within ([(⟨a0.retire,(W ((W (3 * a0.threads))+1)),1024⟩:Bound)]))) r (fun R=>y_pick r (b:=true) (congrArg Value.bool h8) rfl) rfl fun fr r=>?_;refine seq_val (.bool (D.plan_within ([(⟨a0.retire,(W ((W (3 * a0.threads))+1)),1024⟩:Bound)]))) r (fun R=>y_assign r rfl) rfl fun fr r=>?_
  refine wn ?_;refine wp_ret ?_;have hd:D.plan_Plan_Formed a0=(D.plan_within ([(⟨a0.retire,(W ((W (3 * a0.threads))+1)),1024⟩:Bound)])):=(cond_t h8).trans (rfl);refine ret_tmp r rfl rfl ?_;rw [hd];exact ⟨rfl,hB⟩
 refine s0 r h8 fun fr r=>?_;refine s0 r h8 fun fr r=>?_
 refine s0 r h8 fun fr r=>?_;refine s0 r h8 fun fr r=>?_
 refine s0 r h8 fun fr r=>?_;refine s0 r h8 fun fr r=>?_
 refine s0 r h8 fun fr r=>?_;refine s0 r h8 fun fr r=>?_
 refine s0 r h8 fun fr r=>?_;refine seq_val (.bool false) r (fun R=>y_pick r (b:=false) (congrArg Value.bool h8) rfl) rfl fun fr r=>?_
 refine seq_val (.bool false) r (fun R=>y_assign r rfl) rfl fun fr r=>?_;refine wn ?_
 refine wp_ret ?_;have hd:D.plan_Plan_Formed a0=false:=(cond_f h8).trans (rfl);refine ret_tmp r rfl rfl ?_;rw [hd];exact ⟨rfl,hB⟩

def D.plan_Plan_cells (a0:Plan):Int:=(maxI 2 a0.buckets)

theorem c_plan_Plan_cells (w0:World) 
    (a0:Plan) :
    Calls Try.prog 63 #[.agg (planC a0).toArray] w0 (PureRes (.int .i64 (D.plan_Plan_cells a0)) w0):=by
 refine enter Try.func63 rfl 6 rfl rfl fun fr r=>?_;have hB:=Below.refl w0.heap.size w0
 refine wsr ?_;refine seq_new (.cells ((planC a0)).toArray 26 (0,0)) r (fun R=>y_box r (v:=(.agg (planC a0).toArray)) rfl) rfl fun fr b1 w2 n3 r=>?_;obtain ⟨e_b1,z_w2,h_b1,hB,zB⟩:=n3.all hB
 refine seq_val (I 0) r (fun R=>y_assign r rfl) rfl fun fr r=>?_;refine wn ?_
 refine wsr ?_;refine seq_val _ r (fun R=>y_fieldAddr r (o:=0) rfl fo26_4) rfl fun fr r=>?_;refine seq_val (I a0.buckets) r (fun R=>y_load_one r rfl h_b1 to3 rfl) rfl fun fr r=>?_
 refine seq_val (I (maxI 2 a0.buckets)) r (fun R=>y_max r (m:=2) (n:=a0.buckets) rfl rfl) rfl fun fr r=>?_;refine seq_val (I (maxI 2 a0.buckets)) r (fun R=>y_assign r rfl) rfl fun fr r=>?_
 refine wn ?_;refine wp_ret ?_;refine ret_tmp r rfl rfl ?_;exact ⟨rfl,hB⟩

def D.plan_Plan_hazards (a0:Plan):Int:=(IntKind.i64.wrap (1+(IntKind.i64.wrap (a0.domains * (IntKind.i64.wrap (1+(D.plan_Plan_cells a0)))))))

theorem c_plan_Plan_hazards (w0:World) 
    (a0:Plan) :
    Calls Try.prog 39 #[.agg (planC a0).toArray] w0 (PureRes (.int .i64 (D.plan_Plan_hazards a0)) w0):=by
 refine enter Try.func39 rfl 10 rfl rfl fun fr r=>?_;have hB:=Below.refl w0.heap.size w0
 refine wsr ?_;refine seq_new (.cells ((planC a0)).toArray 26 (0,0)) r (fun R=>y_box r (v:=(.agg (planC a0).toArray)) rfl) rfl fun fr b1 w2 n3 r=>?_;obtain ⟨e_b1,z_w2,h_b1,hB,zB⟩:=n3.all hB
 refine seq_val (I 0) r (fun R=>y_assign r rfl) rfl fun fr r=>?_;refine wn ?_
 refine wp_seq ?_;refine wp_drawnF 7 [.val (.pointer (some ⟨b1,3,none⟩)),.val (I a0.domains),.val (.agg (planC a0).toArray),.val (I (D.plan_Plan_cells a0)),.val (I (W (1+(D.plan_Plan_cells a0)))),.val (I (W (a0.domains * (W (1+(D.plan_Plan_cells a0)))))),.val (I (W (1+(W (a0.domains * (W (1+(D.plan_Plan_cells a0))))))))] mixed r (by kernel_rfl) (within_cons (by exact trivial) (within_cons (by exact trivial) (within_cons (by exact trivial) (within_cons (by exact trivial) (within_cons (by exact trivial) (within_cons (by exact trivial) (within_cons (by exact trivial) within_nil))))))) ?_ ?_
 ·
  refine ec r (fun _ u _ b d s=>y_fieldAddr s (b:=b1) (o:=0) rfl fo26_3 bz) ?_;refine ec r (fun _ u _ b d s=>y_load_one s d.1 (keep b h_b1) to3 rfl bz) ?_
  refine ec r (fun _ u _ b d s=>y_load_agg s (cs:=(planC a0)) (n:=6) rfl (keep b h_b1) ta26 rfl bz) ?_;refine ec r (fun fr1 u w' hb' hd r'=>y_call r' (args:=[(.agg (planC a0).toArray)]) (lc hd.1 l0) cl63 ((c_plan_Plan_cells _ a0).mono (by rintro _ w2 ⟨rfl,hb2⟩; exact ⟨_,rfl,hb2,rfl⟩))) ?_
  refine ec r (fun _ u _ b d s=>y_bin s rfl d.1 rfl rfl bz) ?_;refine ec r (fun _ u _ b d s=>y_bin s d.1 d.2.1 rfl rfl bz) ?_
  refine ec r (fun _ u _ b d s=>y_bin s rfl d.1 rfl rfl bz) ?_;exact each_nil
 intro fr u w4 hb hΦ hne r;have r:=r.congr (sc (hΦ 6 (by decide)) (sc (hΦ 5 (by decide)) (sc (hΦ 4 (by decide)) (sc (hΦ 3 (by decide)) (sc (hΦ 2 (by decide)) (sc (hΦ 1 (by decide)) (sc (hΦ 0 (by decide)) rfl)))))));have z_w4:=hb.size;have h_b1:=keep hb h_b1;obtain ⟨hB,zB⟩:=bon hb hB;refine seq_val (I (W (1+(W (a0.domains * (W (1+(D.plan_Plan_cells a0)))))))) r (fun R=>y_assign r rfl) rfl fun fr r=>?_;refine wn ?_
 refine wp_ret ?_;refine ret_tmp r rfl rfl ?_;exact ⟨rfl,hB⟩

def D.plan_Plan_counts (a0:Plan):Int:=(IntKind.i64.wrap ((D.plan_Plan_hazards a0)+(IntKind.i64.wrap (a0.threads * 3))))

theorem c_plan_Plan_counts (w0:World) 
    (a0:Plan) :
    Calls Try.prog 57 #[.agg (planC a0).toArray] w0 (PureRes (.int .i64 (D.plan_Plan_counts a0)) w0):=by
 refine enter Try.func57 rfl 9 rfl rfl fun fr r=>?_;have hB:=Below.refl w0.heap.size w0
 refine wsr ?_;refine seq_new (.cells ((planC a0)).toArray 26 (0,0)) r (fun R=>y_box r (v:=(.agg (planC a0).toArray)) rfl) rfl fun fr b1 w2 n3 r=>?_;obtain ⟨e_b1,z_w2,h_b1,hB,zB⟩:=n3.all hB
 refine seq_val (I 0) r (fun R=>y_assign r rfl) rfl fun fr r=>?_;refine wn ?_
 refine wp_seq ?_;refine wp_drawnF 6 [.val (.agg (planC a0).toArray),.val (I (D.plan_Plan_hazards a0)),.val (.pointer (some ⟨b1,1,none⟩)),.val (I a0.threads),.val (I (W (a0.threads * 3))),.val (I (W ((D.plan_Plan_hazards a0)+(W (a0.threads * 3)))))] mixed r (by kernel_rfl) (within_cons (by exact trivial) (within_cons (by exact trivial) (within_cons (by exact trivial) (within_cons (by exact trivial) (within_cons (by exact trivial) (within_cons (by exact trivial) within_nil)))))) ?_ ?_
 ·
  refine ec r (fun _ u _ b d s=>y_load_agg s (cs:=(planC a0)) (n:=6) rfl (keep b h_b1) ta26 rfl bz) ?_;refine ec r (fun fr1 u w' hb' hd r'=>y_call r' (args:=[(.agg (planC a0).toArray)]) (lc hd.1 l0) cl39 ((c_plan_Plan_hazards _ a0).mono (by rintro _ w2 ⟨rfl,hb2⟩; exact ⟨_,rfl,hb2,rfl⟩))) ?_
  refine ec r (fun _ u _ b d s=>y_fieldAddr s (b:=b1) (o:=0) rfl fo26_1 bz) ?_;refine ec r (fun _ u _ b d s=>y_load_one s d.1 (keep b h_b1) to3 rfl bz) ?_
  refine ec r (fun _ u _ b d s=>y_bin s d.1 rfl rfl rfl bz) ?_;refine ec r (fun _ u _ b d s=>y_bin s d.1 d.2.1 rfl rfl bz) ?_
  exact each_nil
 intro fr u w4 hb hΦ hne r;have r:=r.congr (sc (hΦ 5 (by decide)) (sc (hΦ 4 (by decide)) (sc (hΦ 3 (by decide)) (sc (hΦ 2 (by decide)) (sc (hΦ 1 (by decide)) (sc (hΦ 0 (by decide)) rfl))))));have z_w4:=hb.size;have h_b1:=keep hb h_b1;obtain ⟨hB,zB⟩:=bon hb hB;refine seq_val (I (W ((D.plan_Plan_hazards a0)+(W (a0.threads * 3))))) r (fun R=>y_assign r rfl) rfl fun fr r=>?_;refine wn ?_
 refine wp_ret ?_;refine ret_tmp r rfl rfl ?_;exact ⟨rfl,hB⟩

def D.plan_Plan_nodes (a0:Plan):Int:=(IntKind.i64.wrap ((D.plan_Plan_counts a0)+(IntKind.i64.wrap (a0.threads * (IntKind.i64.wrap (1+a0.retire))))))

theorem c_plan_Plan_nodes (w0:World) 
    (a0:Plan) :
    Calls Try.prog 31 #[.agg (planC a0).toArray] w0 (PureRes (.int .i64 (D.plan_Plan_nodes a0)) w0):=by
 refine enter Try.func31 rfl 12 rfl rfl fun fr r=>?_;have hB:=Below.refl w0.heap.size w0
 refine wsr ?_;refine seq_new (.cells ((planC a0)).toArray 26 (0,0)) r (fun R=>y_box r (v:=(.agg (planC a0).toArray)) rfl) rfl fun fr b1 w2 n3 r=>?_;obtain ⟨e_b1,z_w2,h_b1,hB,zB⟩:=n3.all hB
 refine seq_val (I 0) r (fun R=>y_assign r rfl) rfl fun fr r=>?_;refine wn ?_
 refine wp_seq ?_;refine wp_drawnF 9 [.val (.agg (planC a0).toArray),.val (I (D.plan_Plan_counts a0)),.val (.pointer (some ⟨b1,1,none⟩)),.val (I a0.threads),.val (.pointer (some ⟨b1,2,none⟩)),.val (I a0.retire),.val (I (W (1+a0.retire))),.val (I (W (a0.threads * (W (1+a0.retire))))),.val (I (W ((D.plan_Plan_counts a0)+(W (a0.threads * (W (1+a0.retire)))))))] mixed r (by kernel_rfl) (within_cons (by exact trivial) (within_cons (by exact trivial) (within_cons (by exact trivial) (within_cons (by exact trivial) (within_cons (by exact trivial) (within_cons (by exact trivial) (within_cons (by exact trivial) (within_cons (by exact trivial) (within_cons (by exact trivial) within_nil))))))))) ?_ ?_
 ·
  refine ec r (fun _ u _ b d s=>y_load_agg s (cs:=(planC a0)) (n:=6) rfl (keep b h_b1) ta26 rfl bz) ?_;refine ec r (fun fr1 u w' hb' hd r'=>y_call r' (args:=[(.agg (planC a0).toArray)]) (lc hd.1 l0) cl57 ((c_plan_Plan_counts _ a0).mono (by rintro _ w2 ⟨rfl,hb2⟩; exact ⟨_,rfl,hb2,rfl⟩))) ?_
  refine ec r (fun _ u _ b d s=>y_fieldAddr s (b:=b1) (o:=0) rfl fo26_1 bz) ?_;refine ec r (fun _ u _ b d s=>y_load_one s d.1 (keep b h_b1) to3 rfl bz) ?_
  refine ec r (fun _ u _ b d s=>y_fieldAddr s (b:=b1) (o:=0) rfl fo26_2 bz) ?_;refine ec r (fun _ u _ b d s=>y_load_one s d.1 (keep b h_b1) to3 rfl bz) ?_
  refine ec r (fun _ u _ b d s=>y_bin s rfl d.1 rfl rfl bz) ?_;refine ec r (fun _ u _ b d s=>y_bin s d.1 d.2.1 rfl rfl bz) ?_
  refine ec r (fun _ u _ b d s=>y_bin s d.1 d.2.1 rfl rfl bz) ?_;exact each_nil
 intro fr u w4 hb hΦ hne r;have r:=r.congr (sc (hΦ 8 (by decide)) (sc (hΦ 7 (by decide)) (sc (hΦ 6 (by decide)) (sc (hΦ 5 (by decide)) (sc (hΦ 4 (by decide)) (sc (hΦ 3 (by decide)) (sc (hΦ 2 (by decide)) (sc (hΦ 1 (by decide)) (sc (hΦ 0 (by decide)) rfl)))))))));have z_w4:=hb.size;have h_b1:=keep hb h_b1;obtain ⟨hB,zB⟩:=bon hb hB;refine seq_val (I (W ((D.plan_Plan_counts a0)+(W (a0.threads * (W (1+a0.retire))))))) r (fun R=>y_assign r rfl) rfl fun fr r=>?_;refine wn ?_
 refine wp_ret ?_;refine ret_tmp r rfl rfl ?_;exact ⟨rfl,hB⟩

def D.plan_Plan_Size (a0:Plan):Int:=(bif (!(D.plan_Plan_Formed a0)) then 0 else (IntKind.i64.wrap ((D.plan_Plan_nodes a0)+(IntKind.i64.wrap (a0.nodes * 5)))))

theorem c_plan_Plan_Size (w0:World) 
    (a0:Plan) :
    Calls Try.prog 28 #[.agg (planC a0).toArray] w0 (PureRes (.int .i64 (D.plan_Plan_Size a0)) w0):=by
 refine enter Try.func28 rfl 12 rfl rfl fun fr r=>?_;have hB:=Below.refl w0.heap.size w0
 refine wsr ?_;refine seq_new (.cells ((planC a0)).toArray 26 (0,0)) r (fun R=>y_box r (v:=(.agg (planC a0).toArray)) rfl) rfl fun fr b1 w2 n3 r=>?_;obtain ⟨e_b1,z_w2,h_b1,hB,zB⟩:=n3.all hB
 refine seq_val (I 0) r (fun R=>y_assign r rfl) rfl fun fr r=>?_;refine wn ?_
 refine wp_seq ?_;refine wsr ?_;refine seq_val (.agg (planC a0).toArray) r (fun R=>y_load_agg r (cs:=(planC a0)) (n:=6) rfl h_b1 ta26 rfl) rfl fun fr r=>?_;refine seq_call r (c_plan_Plan_Formed w2 a0) (fun R hc=>y_call r rfl cl54 hc) rfl ?_
 rintro _ w4 ⟨rfl,hb⟩;refine ⟨_,rfl,fun fr r=>?_⟩
 have z_w4:=hb.size;have h_b1:=keep hb h_b1;obtain ⟨hB,zB⟩:=bon hb hB;refine seq_val (.bool (!(D.plan_Plan_Formed a0))) r (fun R=>y_un r (u:=(.bool (D.plan_Plan_Formed a0))) rfl rfl) rfl fun fr r=>?_;refine wn ?_
 refine wp_cond_split (t:=(!(D.plan_Plan_Formed a0))) (r.ev rfl) (fun h5=>?_) (fun h5=>?_)
 ·
  refine wsr ?_;refine seq_val (I 0) r (fun R=>y_assign r rfl) rfl fun fr r=>?_;refine wn ?_
  refine wp_ret ?_;have hd:D.plan_Plan_Size a0=0:=(cond_t h5).trans (rfl);refine ret_tmp r rfl rfl ?_;rw [hd];exact ⟨rfl,hB⟩
 refine wp_skip ?_;refine wp_seq ?_;refine wp_drawnF 6 [.val (.agg (planC a0).toArray),.val (I (D.plan_Plan_nodes a0)),.val (.pointer (some ⟨b1,0,none⟩)),.val (I a0.nodes),.val (I (W (a0.nodes * 5))),.val (I (W ((D.plan_Plan_nodes a0)+(W (a0.nodes * 5)))))] mixed r (by kernel_rfl) (within_cons (by exact trivial) (within_cons (by exact trivial) (within_cons (by exact trivial) (within_cons (by exact trivial) (within_cons (by exact trivial) (within_cons (by exact trivial) within_nil)))))) ?_ ?_
 ·
  refine ec r (fun _ u _ b d s=>y_load_agg s (cs:=(planC a0)) (n:=6) rfl (keep b h_b1) ta26 rfl bz) ?_;refine ec r (fun fr1 u w' hb' hd r'=>y_call r' (args:=[(.agg (planC a0).toArray)]) (lc hd.1 l0) cl31 ((c_plan_Plan_nodes _ a0).mono (by rintro _ w2 ⟨rfl,hb2⟩; exact ⟨_,rfl,hb2,rfl⟩))) ?_
  refine ec r (fun _ u _ b d s=>y_fieldAddr s (b:=b1) (o:=0) rfl fo26_0 bz) ?_;refine ec r (fun _ u _ b d s=>y_load_one s d.1 (keep b h_b1) to3 rfl bz) ?_
  refine ec r (fun _ u _ b d s=>y_bin s d.1 rfl rfl rfl bz) ?_;refine ec r (fun _ u _ b d s=>y_bin s d.1 d.2.1 rfl rfl bz) ?_
  exact each_nil
 intro fr u w6 hb hΦ hne r;have r:=r.congr (sc (hΦ 5 (by decide)) (sc (hΦ 4 (by decide)) (sc (hΦ 3 (by decide)) (sc (hΦ 2 (by decide)) (sc (hΦ 1 (by decide)) (sc (hΦ 0 (by decide)) rfl))))));have z_w6:=hb.size;have h_b1:=keep hb h_b1;obtain ⟨hB,zB⟩:=bon hb hB;refine seq_val (I (W ((D.plan_Plan_nodes a0)+(W (a0.nodes * 5))))) r (fun R=>y_assign r rfl) rfl fun fr r=>?_;refine wn ?_
 refine wp_ret ?_;have hd:D.plan_Plan_Size a0=(W ((D.plan_Plan_nodes a0)+(W (a0.nodes * 5)))):=(cond_f h5).trans (rfl);refine ret_tmp r rfl rfl ?_;rw [hd];exact ⟨rfl,hB⟩

def D.plan_Plan_place (a0:Plan) (a1:Int) (a2:List Bound):Int:=(bif (!(D.plan_Plan_Formed a0)) then (-1) else (bif (!(D.plan_within a2)) then (-1) else a1))

theorem c_plan_Plan_place (w0:World) 
    (a0:Plan) (a1:Int) (a2:List Bound) {a2_b:Nat} (a2_h:w0.heap[a2_b]?=some (.cells ((boundsC a2)).toArray 85 (0,0))) (pre0:a2.length≤8) :
    Calls Try.prog 30 #[.agg (planC a0).toArray,.int .i64 a1,.slice (some ⟨a2_b,0,none⟩) a2.length a2.length] w0 (PureRes (.int .i64 (D.plan_Plan_place a0 a1 a2)) w0):=by
 refine enter Try.func30 rfl 16 rfl rfl fun fr r=>?_;have hB:=Below.refl w0.heap.size w0
 have l_a2_b:=lt_of_block a2_h;refine wsr ?_;refine seq_new (.cells ((planC a0)).toArray 26 (0,0)) r (fun R=>y_box r (v:=(.agg (planC a0).toArray)) rfl) rfl fun fr b1 w2 n3 r=>?_;have a2_h:=keep n3.below a2_h
 obtain ⟨e_b1,z_w2,h_b1,hB,zB⟩:=n3.all hB;refine seq_val (I 0) r (fun R=>y_assign r rfl) rfl fun fr r=>?_;refine wn ?_
 refine wp_seq ?_;refine wsr ?_;refine seq_val (.agg (planC a0).toArray) r (fun R=>y_load_agg r (cs:=(planC a0)) (n:=6) rfl h_b1 ta26 rfl) rfl fun fr r=>?_;refine seq_call r (c_plan_Plan_Formed w2 a0) (fun R hc=>y_call r rfl cl54 hc) rfl ?_
 rintro _ w4 ⟨rfl,hb⟩;refine ⟨_,rfl,fun fr r=>?_⟩
 have z_w4:=hb.size;have a2_h:=keep hb a2_h;have h_b1:=keep hb h_b1;obtain ⟨hB,zB⟩:=bon hb hB;refine seq_val (.bool (!(D.plan_Plan_Formed a0))) r (fun R=>y_un r (u:=(.bool (D.plan_Plan_Formed a0))) rfl rfl) rfl fun fr r=>?_;refine seq_val (.bool (!(D.plan_Plan_Formed a0))) r (fun R=>y_move r rfl) rfl fun fr r=>?_
 refine seq_split (!(D.plan_Plan_Formed a0)) (fun h5=>?_) (fun h5=>?_)
 ·
  refine s0 r h5 fun fr r=>?_;refine s0 r h5 fun fr r=>?_
  refine s0 r h5 fun fr r=>?_;refine seq_val (.bool true) r (fun R=>y_pick r (b:=true) (congrArg Value.bool h5) rfl) rfl fun fr r=>?_
  refine wn ?_;refine wp_cond_split (t:=true) (r.ev rfl) (fun _=>?_) (fun h=>absurd ((rfl:true=_).symm.trans h) (by decide))
  refine wsr ?_;refine seq_val (I (-1)) r (fun R=>y_assign r rfl) rfl fun fr r=>?_;refine wn ?_
  refine wp_ret ?_;have hd:D.plan_Plan_place a0 a1 a2=(-1):=(cond_t h5).trans (rfl);refine ret_tmp r rfl rfl ?_;rw [hd];exact ⟨rfl,hB⟩
 refine s1 r h5 ?_;refine seq_val (.slice (some ⟨a2_b,0,none⟩) a2.length a2.length) r (fun R=>y_move r rfl) rfl fun fr r=>?_;refine s1 r h5 ?_
 refine seq_call r (c_plan_within w4 a2 a2_h (by first | assumption | decide | exact guardI_eq (by assumption) | (simp; done))) (fun R hc=>y_call r rfl cl56 hc) rfl ?_
 rintro _ w6 ⟨rfl,hb⟩;refine ⟨_,rfl,fun fr r=>?_⟩
 have z_w6:=hb.size;have a2_h:=keep hb a2_h;have h_b1:=keep hb h_b1;obtain ⟨hB,zB⟩:=bon hb hB;refine s1 r h5 ?_;refine seq_val (.bool (!(D.plan_within a2))) r (fun R=>y_un r (u:=(.bool (D.plan_within a2))) rfl rfl) rfl fun fr r=>?_;refine seq_val (.bool (!(D.plan_within a2))) r (fun R=>y_pick r (b:=false) (congrArg Value.bool h5) rfl) rfl fun fr r=>?_
 refine wn ?_;refine wp_cond_split (t:=(!(D.plan_within a2))) (r.ev rfl) (fun h7=>?_) (fun h7=>?_)
 ·
  refine wsr ?_;refine seq_val (I (-1)) r (fun R=>y_assign r rfl) rfl fun fr r=>?_;refine wn ?_
  refine wp_ret ?_;have hd:D.plan_Plan_place a0 a1 a2=(-1):=(cond_f h5).trans ((cond_t h7).trans (rfl));refine ret_tmp r rfl rfl ?_;rw [hd];exact ⟨rfl,hB⟩
 refine wp_skip ?_;refine wsr ?_;refine seq_val (I a1) r (fun R=>y_move r rfl) rfl fun fr r=>?_;refine seq_val (I a1) r (fun R=>y_assign r rfl) rfl fun fr r=>?_
 refine wn ?_;refine wp_ret ?_;have hd:D.plan_Plan_place a0 a1 a2=a1:=(cond_f h5).trans ((cond_f h7).trans (rfl));refine ret_tmp r rfl rfl ?_;rw [hd];exact ⟨rfl,hB⟩

theorem c_plan_Plan_place_nil (w0:World) 
    (a0:Plan) (a1:Int) :
    Calls Try.prog 30 #[.agg (planC a0).toArray,.int .i64 a1,.slice none 0 0] w0 (PureRes (.int .i64 (D.plan_Plan_place a0 a1 ([]))) w0):=by
 refine enter Try.func30 rfl 16 rfl rfl fun fr r=>?_;have hB:=Below.refl w0.heap.size w0
 refine wsr ?_;refine seq_new (.cells ((planC a0)).toArray 26 (0,0)) r (fun R=>y_box r (v:=(.agg (planC a0).toArray)) rfl) rfl fun fr b1 w2 n3 r=>?_;obtain ⟨e_b1,z_w2,h_b1,hB,zB⟩:=n3.all hB
 refine seq_val (I 0) r (fun R=>y_assign r rfl) rfl fun fr r=>?_;refine wn ?_
 refine wp_seq ?_;refine wsr ?_;refine seq_val (.agg (planC a0).toArray) r (fun R=>y_load_agg r (cs:=(planC a0)) (n:=6) rfl h_b1 ta26 rfl) rfl fun fr r=>?_;refine seq_call r (c_plan_Plan_Formed w2 a0) (fun R hc=>y_call r rfl cl54 hc) rfl ?_
 rintro _ w4 ⟨rfl,hb⟩;refine ⟨_,rfl,fun fr r=>?_⟩
 have z_w4:=hb.size;have h_b1:=keep hb h_b1;obtain ⟨hB,zB⟩:=bon hb hB;refine seq_val (.bool (!(D.plan_Plan_Formed a0))) r (fun R=>y_un r (u:=(.bool (D.plan_Plan_Formed a0))) rfl rfl) rfl fun fr r=>?_;refine seq_val (.bool (!(D.plan_Plan_Formed a0))) r (fun R=>y_move r rfl) rfl fun fr r=>?_
 refine seq_split (!(D.plan_Plan_Formed a0)) (fun h5=>?_) (fun h5=>?_)
 ·
  refine s0 r h5 fun fr r=>?_;refine s0 r h5 fun fr r=>?_
  refine s0 r h5 fun fr r=>?_;refine seq_val (.bool true) r (fun R=>y_pick r (b:=true) (congrArg Value.bool h5) rfl) rfl fun fr r=>?_
  refine wn ?_;refine wp_cond_split (t:=true) (r.ev rfl) (fun _=>?_) (fun h=>absurd ((rfl:true=_).symm.trans h) (by decide))
  refine wsr ?_;refine seq_val (I (-1)) r (fun R=>y_assign r rfl) rfl fun fr r=>?_;refine wn ?_
  refine wp_ret ?_;have hd:D.plan_Plan_place a0 a1 []=(-1):=(cond_t h5).trans (rfl);refine ret_tmp r rfl rfl ?_;rw [hd];exact ⟨rfl,hB⟩
 refine s1 r h5 ?_;refine seq_val (.slice none 0 0) r (fun R=>y_move r rfl) rfl fun fr r=>?_;refine s1 r h5 ?_
 refine seq_call r (c_plan_within_nil w4 ) (fun R hc=>y_call r rfl cl56 hc) rfl ?_;rintro _ w6 ⟨rfl,hb⟩
 refine ⟨_,rfl,fun fr r=>?_⟩
 have z_w6:=hb.size;have h_b1:=keep hb h_b1;obtain ⟨hB,zB⟩:=bon hb hB;refine s1 r h5 ?_;refine seq_val (.bool (!(D.plan_within ([])))) r (fun R=>y_un r (u:=(.bool (D.plan_within ([])))) rfl rfl) rfl fun fr r=>?_;refine seq_val (.bool (!(D.plan_within ([])))) r (fun R=>y_pick r (b:=false) (congrArg Value.bool h5) rfl) rfl fun fr r=>?_
 refine wn ?_;refine wp_cond_split (t:=(!(D.plan_within ([])))) (r.ev rfl) (fun h7=>?_) (fun h7=>?_)
 ·
  refine wsr ?_;refine seq_val (I (-1)) r (fun R=>y_assign r rfl) rfl fun fr r=>?_;refine wn ?_
  refine wp_ret ?_;have hd:D.plan_Plan_place a0 a1 []=(-1):=(cond_f h5).trans ((cond_t h7).trans (rfl));refine ret_tmp r rfl rfl ?_;rw [hd];exact ⟨rfl,hB⟩
 refine wp_skip ?_;refine wsr ?_;refine seq_val (I a1) r (fun R=>y_move r rfl) rfl fun fr r=>?_;refine seq_val (I a1) r (fun R=>y_assign r rfl) rfl fun fr r=>?_
 refine wn ?_;refine wp_ret ?_;have hd:D.plan_Plan_place a0 a1 []=a1:=(cond_f h5).trans ((cond_f h7).trans (rfl));refine ret_tmp r rfl rfl ?_;rw [hd];exact ⟨rfl,hB⟩

def D.plan_Plan_Head (a0:Plan):Int:=(D.plan_Plan_place a0 0 ([]))

theorem c_plan_Plan_Head (w0:World) 
    (a0:Plan) :
    Calls Try.prog 47 #[.agg (planC a0).toArray] w0 (PureRes (.int .i64 (D.plan_Plan_Head a0)) w0):=by
 refine enter Try.func47 rfl 5 rfl rfl fun fr r=>?_;have hB:=Below.refl w0.heap.size w0
 refine wsr ?_;refine seq_new (.cells ((planC a0)).toArray 26 (0,0)) r (fun R=>y_box r (v:=(.agg (planC a0).toArray)) rfl) rfl fun fr b1 w2 n3 r=>?_;obtain ⟨e_b1,z_w2,h_b1,hB,zB⟩:=n3.all hB
 refine seq_val (I 0) r (fun R=>y_assign r rfl) rfl fun fr r=>?_;refine wn ?_
 refine wsr ?_;refine seq_val (.agg (planC a0).toArray) r (fun R=>y_load_agg r (cs:=(planC a0)) (n:=6) rfl h_b1 ta26 rfl) rfl fun fr r=>?_;refine seq_call r (c_plan_Plan_place_nil w2 a0 0) (fun R hc=>y_call r rfl cl30 hc) rfl ?_
 rintro _ w4 ⟨rfl,hb⟩;refine ⟨_,rfl,fun fr r=>?_⟩
 have z_w4:=hb.size;have h_b1:=keep hb h_b1;obtain ⟨hB,zB⟩:=bon hb hB;refine seq_val (I (D.plan_Plan_place a0 0 ([]))) r (fun R=>y_assign r rfl) rfl fun fr r=>?_;refine wn ?_
 refine wp_ret ?_;refine ret_tmp r rfl rfl ?_;exact ⟨rfl,hB⟩

def D.plan_Plan_node (a0:Plan) (a1:Int):Bound:=(⟨a1,0,(IntKind.i64.wrap (a0.nodes - 1))⟩:Bound)

theorem c_plan_Plan_node (w0:World) 
    (a0:Plan) (a1:Int) :
    Calls Try.prog 32 #[.agg (planC a0).toArray,.int .i64 a1] w0 (PureRes (.agg (boundC (D.plan_Plan_node a0 a1)).toArray) w0):=by
 refine enter Try.func32 rfl 10 rfl rfl fun fr r=>?_;have hB:=Below.refl w0.heap.size w0
 refine wsr ?_;refine seq_new (.cells ((planC a0)).toArray 26 (0,0)) r (fun R=>y_box r (v:=(.agg (planC a0).toArray)) rfl) rfl fun fr b1 w2 n3 r=>?_;obtain ⟨e_b1,z_w2,h_b1,hB,zB⟩:=n3.all hB
 refine seq_new (.cells ((boundC (⟨0,0,0⟩:Bound))).toArray 85 (0,0)) r (fun R=>y_alloc tz85) rfl fun fr b4 w5 n6 r=>?_;have h_b1:=keep n6.below h_b1
 obtain ⟨e_b4,z_w5,h_b4,hB,zB⟩:=n6.all hB;refine wn ?_;refine wsr ?_;refine seq_val (I a1) r (fun R=>y_move r rfl) rfl fun fr r=>?_;refine seq_val _ r (fun R=>y_fieldAddr r (o:=0) rfl fo26_0) rfl fun fr r=>?_
 refine seq_val (I a0.nodes) r (fun R=>y_load_one r rfl h_b1 to3 rfl) rfl fun fr r=>?_;refine seq_val _ r (fun R=>y_bin r rfl rfl rfl rfl) rfl fun fr r=>?_
 refine seq_val (.agg (boundC (⟨a1,0,(W (a0.nodes - 1))⟩:Bound)).toArray) r (fun R=>y_build r (by kernel_rfl)) rfl fun fr r=>?_;refine seq_upd (.cells ((boundC (⟨a1,0,(W (a0.nodes - 1))⟩:Bound))).toArray 85 (0,0)) r (fun R=>y_store r (o:=0) (v:=(.agg (boundC (⟨a1,0,(W (a0.nodes - 1))⟩:Bound)).toArray)) rfl rfl h_b4 ts85 (Nat.le_of_ble_eq_true rfl) rfl rfl) rfl fun fr w7 u8 r=>?_
 have z_w7:=u8.size;have h_b1:=u8.keep h_b1 (by omega)
 have h_b4:=u8.at_;obtain ⟨hB,zB⟩:=u8.on hB (by omega)
 refine wn ?_;refine wp_ret ?_;refine ret_cell r rfl rfl h_b4 (k:=3) rfl ta85 ?_;exact ⟨rfl,hB⟩

def D.plan_Plan_Next (a0:Plan) (a1:Int):Int:=(D.plan_Plan_place a0 (IntKind.i64.wrap ((IntKind.i64.wrap ((D.plan_Plan_nodes a0)+(IntKind.i64.wrap (a1 * 5))))+1)) ([(D.plan_Plan_node a0 a1)]))

theorem c_plan_Plan_Next (w0:World) 
    (a0:Plan) (a1:Int) :
    Calls Try.prog 48 #[.agg (planC a0).toArray,.int .i64 a1] w0 (PureRes (.int .i64 (D.plan_Plan_Next a0 a1)) w0):=by
 refine enter Try.func48 rfl 17 rfl rfl fun fr r=>?_;have hB:=Below.refl w0.heap.size w0
 refine wsr ?_;refine seq_new (.cells ((planC a0)).toArray 26 (0,0)) r (fun R=>y_box r (v:=(.agg (planC a0).toArray)) rfl) rfl fun fr b1 w2 n3 r=>?_;obtain ⟨e_b1,z_w2,h_b1,hB,zB⟩:=n3.all hB
 refine seq_val (I 0) r (fun R=>y_assign r rfl) rfl fun fr r=>?_;refine wn ?_
 refine wp_seq ?_;refine wp_drawnF 12 [.val (.agg (planC a0).toArray),.val (.agg (planC a0).toArray),.val (I (D.plan_Plan_nodes a0)),.val (I a1),.val (I (W (a1 * 5))),.val (I (W ((D.plan_Plan_nodes a0)+(W (a1 * 5))))),.val (I (W ((W ((D.plan_Plan_nodes a0)+(W (a1 * 5))))+1))),.val (.agg (planC a0).toArray),.val (I a1),.val (.agg (boundC (D.plan_Plan_node a0 a1)).toArray),.slice w2.heap.size (.cells ((boundsC [(D.plan_Plan_node a0 a1)])).toArray 85 (0,0)) 1,.val (I (D.plan_Plan_place a0 (W ((W ((D.plan_Plan_nodes a0)+(W (a1 * 5))))+1)) ([(D.plan_Plan_node a0 a1)])))] mixed r (by kernel_rfl) (within_cons (by exact trivial) (within_cons (by exact trivial) (within_cons (by exact trivial) (within_cons (by exact trivial) (within_cons (by exact trivial) (within_cons (by exact trivial) (within_cons (by exact trivial) (within_cons (by exact trivial) (within_cons (by exact trivial) (within_cons (by exact trivial) (within_cons (Nat.le_refl _) (within_cons (by exact trivial) within_nil)))))))))))) ?_ ?_
 ·
  refine ec r (fun _ u _ b d s=>y_load_agg s (cs:=(planC a0)) (n:=6) rfl (keep b h_b1) ta26 rfl bz) ?_;refine ec r (fun _ u _ b d s=>y_load_agg s (cs:=(planC a0)) (n:=6) rfl (keep b h_b1) ta26 rfl bz) ?_
  refine ec r (fun fr1 u w' hb' hd r'=>y_call r' (args:=[(.agg (planC a0).toArray)]) (lc hd.1 l0) cl31 ((c_plan_Plan_nodes _ a0).mono (by rintro _ w2 ⟨rfl,hb2⟩; exact ⟨_,rfl,hb2,rfl⟩))) ?_;refine ec r (fun _ u _ b d s=>y_move s rfl bz) ?_
  refine ec r (fun _ u _ b d s=>y_bin s d.1 rfl rfl rfl bz) ?_;refine ec r (fun _ u _ b d s=>y_bin s d.1 d.2.1 rfl rfl bz) ?_
  refine ec r (fun _ u _ b d s=>y_bin s d.1 rfl rfl rfl bz) ?_;refine ec r (fun _ u _ b d s=>y_load_agg s (cs:=(planC a0)) (n:=6) rfl (keep b h_b1) ta26 rfl bz) ?_
  refine ec r (fun _ u _ b d s=>y_move s rfl bz) ?_;refine ec r (fun fr1 u w' hb' hd r'=>y_call r' (args:=[(.agg (planC a0).toArray),(I a1)]) (lc hd.1 (lc hd.2.1 l0)) cl32 ((c_plan_Plan_node _ a0 a1).mono (by rintro _ w2 ⟨rfl,hb2⟩; exact ⟨_,rfl,hb2,rfl⟩))) ?_
  refine ec r (fun fr1 u w' hb' hd r'=>y_bslice r' (c:=((boundsC [(D.plan_Plan_node a0 a1)])).toArray) (E:=85) (bs1 (congrArg (fun z=>(0,z)) hd.1) (by kernel_rfl)) (fun b w2 n2=>⟨n2.below,b,rfl,Nat.le_of_eq n2.eq.symm,n2.at_⟩)) ?_;refine each_consF r rfl (fun fr1 u w' hb' hd r'=>?_) ?_
  · obtain ⟨d0,d1,d2,d3,_⟩:=hd; obtain ⟨q2,hq2,_,hr2⟩:=d2; exact y_call r' (args:=[(.agg (planC a0).toArray),(I (W ((W ((D.plan_Plan_nodes a0)+(W (a1 * 5))))+1))),(.slice (some ⟨q2,0,none⟩) 1 1)]) (lc d0 (lc d1 (lc hq2 l0))) cl30 ((c_plan_Plan_place _ a0 (W ((W ((D.plan_Plan_nodes a0)+(W (a1 * 5))))+1)) ([(D.plan_Plan_node a0 a1)]) hr2 (by first | assumption | decide | exact guardI_eq (by assumption) | (simp; done))).mono (by rintro _ w2 ⟨rfl,hb2⟩; exact ⟨_,rfl,hb2,rfl⟩))
  exact each_nil
 intro fr u w4 hb hΦ hne r;obtain ⟨b5,g10,e_b5,h_b5⟩:=hΦ 10 (by decide);have l_b5:=lt_of_block h_b5;have r:=r.congr (sc (hΦ 11 (by decide)) (sc g10 (sc (hΦ 9 (by decide)) (sc (hΦ 8 (by decide)) (sc (hΦ 7 (by decide)) (sc (hΦ 6 (by decide)) (sc (hΦ 5 (by decide)) (sc (hΦ 4 (by decide)) (sc (hΦ 3 (by decide)) (sc (hΦ 2 (by decide)) (sc (hΦ 1 (by decide)) (sc (hΦ 0 (by decide)) rfl))))))))))));have z_w4:=hb.size;have h_b1:=keep hb h_b1;obtain ⟨hB,zB⟩:=bon hb hB;refine seq_val (I (D.plan_Plan_place a0 (W ((W ((D.plan_Plan_nodes a0)+(W (a1 * 5))))+1)) ([(D.plan_Plan_node a0 a1)]))) r (fun R=>y_assign r rfl) rfl fun fr r=>?_;refine wn ?_
 refine wp_ret ?_;refine ret_tmp r rfl rfl ?_;exact ⟨rfl,hB⟩

def D.plan_Plan_thread (a0:Plan) (a1:Int):Bound:=(⟨a1,0,(IntKind.i64.wrap (a0.threads - 1))⟩:Bound)

theorem c_plan_Plan_thread (w0:World) 
    (a0:Plan) (a1:Int) :
    Calls Try.prog 40 #[.agg (planC a0).toArray,.int .i64 a1] w0 (PureRes (.agg (boundC (D.plan_Plan_thread a0 a1)).toArray) w0):=by
 refine enter Try.func40 rfl 10 rfl rfl fun fr r=>?_;have hB:=Below.refl w0.heap.size w0
 refine wsr ?_;refine seq_new (.cells ((planC a0)).toArray 26 (0,0)) r (fun R=>y_box r (v:=(.agg (planC a0).toArray)) rfl) rfl fun fr b1 w2 n3 r=>?_;obtain ⟨e_b1,z_w2,h_b1,hB,zB⟩:=n3.all hB
 refine seq_new (.cells ((boundC (⟨0,0,0⟩:Bound))).toArray 85 (0,0)) r (fun R=>y_alloc tz85) rfl fun fr b4 w5 n6 r=>?_;have h_b1:=keep n6.below h_b1
 obtain ⟨e_b4,z_w5,h_b4,hB,zB⟩:=n6.all hB;refine wn ?_;refine wsr ?_;refine seq_val (I a1) r (fun R=>y_move r rfl) rfl fun fr r=>?_;refine seq_val _ r (fun R=>y_fieldAddr r (o:=0) rfl fo26_1) rfl fun fr r=>?_
 refine seq_val (I a0.threads) r (fun R=>y_load_one r rfl h_b1 to3 rfl) rfl fun fr r=>?_;refine seq_val _ r (fun R=>y_bin r rfl rfl rfl rfl) rfl fun fr r=>?_
 refine seq_val (.agg (boundC (⟨a1,0,(W (a0.threads - 1))⟩:Bound)).toArray) r (fun R=>y_build r (by kernel_rfl)) rfl fun fr r=>?_;refine seq_upd (.cells ((boundC (⟨a1,0,(W (a0.threads - 1))⟩:Bound))).toArray 85 (0,0)) r (fun R=>y_store r (o:=0) (v:=(.agg (boundC (⟨a1,0,(W (a0.threads - 1))⟩:Bound)).toArray)) rfl rfl h_b4 ts85 (Nat.le_of_ble_eq_true rfl) rfl rfl) rfl fun fr w7 u8 r=>?_
 have z_w7:=u8.size;have h_b1:=u8.keep h_b1 (by omega)
 have h_b4:=u8.at_;obtain ⟨hB,zB⟩:=u8.on hB (by omega)
 refine wn ?_;refine wp_ret ?_;refine ret_cell r rfl rfl h_b4 (k:=3) rfl ta85 ?_;exact ⟨rfl,hB⟩

def D.plan_Plan_Hazard (a0:Plan) (a1:Int) (a2:Int):Int:=(D.plan_Plan_place a0 (IntKind.i64.wrap ((IntKind.i64.wrap ((D.plan_Plan_hazards a0)+(IntKind.i64.wrap (a1 * 3))))+a2)) ([(D.plan_Plan_thread a0 a1),(⟨a2,0,2⟩:Bound)]))

theorem c_plan_Plan_Hazard (w0:World) 
    (a0:Plan) (a1:Int) (a2:Int) :
    Calls Try.prog 15 #[.agg (planC a0).toArray,.int .i64 a1,.int .i64 a2] w0 (PureRes (.int .i64 (D.plan_Plan_Hazard a0 a1 a2)) w0):=by
 refine enter Try.func15 rfl 22 rfl rfl fun fr r=>?_;have hB:=Below.refl w0.heap.size w0
 refine wsr ?_;refine seq_new (.cells ((planC a0)).toArray 26 (0,0)) r (fun R=>y_box r (v:=(.agg (planC a0).toArray)) rfl) rfl fun fr b1 w2 n3 r=>?_;obtain ⟨e_b1,z_w2,h_b1,hB,zB⟩:=n3.all hB
 refine seq_val (I 0) r (fun R=>y_assign r rfl) rfl fun fr r=>?_;refine wn ?_
 refine wp_seq ?_;refine wp_drawnF 15 [.val (.agg (planC a0).toArray),.val (.agg (planC a0).toArray),.val (I (D.plan_Plan_hazards a0)),.val (I a1),.val (I (W (a1 * 3))),.val (I (W ((D.plan_Plan_hazards a0)+(W (a1 * 3))))),.val (I a2),.val (I (W ((W ((D.plan_Plan_hazards a0)+(W (a1 * 3))))+a2))),.val (.agg (planC a0).toArray),.val (I a1),.val (.agg (boundC (D.plan_Plan_thread a0 a1)).toArray),.val (I a2),.val (.agg (boundC (⟨a2,0,2⟩:Bound)).toArray),.slice w2.heap.size (.cells ((boundsC [(D.plan_Plan_thread a0 a1),(⟨a2,0,2⟩:Bound)])).toArray 85 (0,0)) 2,.val (I (D.plan_Plan_place a0 (W ((W ((D.plan_Plan_hazards a0)+(W (a1 * 3))))+a2)) ([(D.plan_Plan_thread a0 a1),(⟨a2,0,2⟩:Bound)])))] mixed r (by kernel_rfl) (within_cons (by exact trivial) (within_cons (by exact trivial) (within_cons (by exact trivial) (within_cons (by exact trivial) (within_cons (by exact trivial) (within_cons (by exact trivial) (within_cons (by exact trivial) (within_cons (by exact trivial) (within_cons (by exact trivial) (within_cons (by exact trivial) (within_cons (by exact trivial) (within_cons (by exact trivial) (within_cons (by exact trivial) (within_cons (Nat.le_refl _) (within_cons (by exact trivial) within_nil))))))))))))))) ?_ ?_
 ·
  refine ec r (fun _ u _ b d s=>y_load_agg s (cs:=(planC a0)) (n:=6) rfl (keep b h_b1) ta26 rfl bz) ?_;refine ec r (fun _ u _ b d s=>y_load_agg s (cs:=(planC a0)) (n:=6) rfl (keep b h_b1) ta26 rfl bz) ?_
  refine ec r (fun fr1 u w' hb' hd r'=>y_call r' (args:=[(.agg (planC a0).toArray)]) (lc hd.1 l0) cl39 ((c_plan_Plan_hazards _ a0).mono (by rintro _ w2 ⟨rfl,hb2⟩; exact ⟨_,rfl,hb2,rfl⟩))) ?_;refine ec r (fun _ u _ b d s=>y_move s rfl bz) ?_
  refine ec r (fun _ u _ b d s=>y_bin s d.1 rfl rfl rfl bz) ?_;refine ec r (fun _ u _ b d s=>y_bin s d.1 d.2.1 rfl rfl bz) ?_
  refine ec r (fun _ u _ b d s=>y_move s rfl bz) ?_;refine ec r (fun _ u _ b d s=>y_bin s d.1 d.2.1 rfl rfl bz) ?_
  refine ec r (fun _ u _ b d s=>y_load_agg s (cs:=(planC a0)) (n:=6) rfl (keep b h_b1) ta26 rfl bz) ?_;refine ec r (fun _ u _ b d s=>y_move s rfl bz) ?_
  refine ec r (fun fr1 u w' hb' hd r'=>y_call r' (args:=[(.agg (planC a0).toArray),(I a1)]) (lc hd.1 (lc hd.2.1 l0)) cl40 ((c_plan_Plan_thread _ a0 a1).mono (by rintro _ w2 ⟨rfl,hb2⟩; exact ⟨_,rfl,hb2,rfl⟩))) ?_;refine ec r (fun _ u _ b d s=>y_move s rfl bz) ?_
  refine ec r (fun fr1 u w' hb' hd r'=>y_build r' (v:=(.agg (boundC (⟨a2,0,2⟩:Bound)).toArray)) (bs3 (congrArg (fun z=>(0,z)) hd.1) (rfl) (rfl) (by kernel_rfl)) bz) ?_;refine ec r (fun fr1 u w' hb' hd r'=>y_bslice r' (c:=((boundsC [(D.plan_Plan_thread a0 a1),(⟨a2,0,2⟩:Bound)])).toArray) (E:=85) (bs2 (congrArg (fun z=>(0,z)) hd.1) (congrArg (fun z=>(1,z)) hd.2.1) (by kernel_rfl)) (fun b w2 n2=>⟨n2.below,b,rfl,Nat.le_of_eq n2.eq.symm,n2.at_⟩)) ?_
  refine each_consF r rfl (fun fr1 u w' hb' hd r'=>?_) ?_
  · obtain ⟨d0,d1,d2,d3,_⟩:=hd; obtain ⟨q2,hq2,_,hr2⟩:=d2; exact y_call r' (args:=[(.agg (planC a0).toArray),(I (W ((W ((D.plan_Plan_hazards a0)+(W (a1 * 3))))+a2))),(.slice (some ⟨q2,0,none⟩) 2 2)]) (lc d0 (lc d1 (lc hq2 l0))) cl30 ((c_plan_Plan_place _ a0 (W ((W ((D.plan_Plan_hazards a0)+(W (a1 * 3))))+a2)) ([(D.plan_Plan_thread a0 a1),(⟨a2,0,2⟩:Bound)]) hr2 (by first | assumption | decide | exact guardI_eq (by assumption) | (simp; done))).mono (by rintro _ w2 ⟨rfl,hb2⟩; exact ⟨_,rfl,hb2,rfl⟩))
  exact each_nil
 intro fr u w4 hb hΦ hne r;obtain ⟨b5,g13,e_b5,h_b5⟩:=hΦ 13 (by decide);have l_b5:=lt_of_block h_b5;have r:=r.congr (sc (hΦ 14 (by decide)) (sc g13 (sc (hΦ 12 (by decide)) (sc (hΦ 11 (by decide)) (sc (hΦ 10 (by decide)) (sc (hΦ 9 (by decide)) (sc (hΦ 8 (by decide)) (sc (hΦ 7 (by decide)) (sc (hΦ 6 (by decide)) (sc (hΦ 5 (by decide)) (sc (hΦ 4 (by decide)) (sc (hΦ 3 (by decide)) (sc (hΦ 2 (by decide)) (sc (hΦ 1 (by decide)) (sc (hΦ 0 (by decide)) rfl)))))))))))))));have z_w4:=hb.size;have h_b1:=keep hb h_b1;obtain ⟨hB,zB⟩:=bon hb hB;refine seq_val (I (D.plan_Plan_place a0 (W ((W ((D.plan_Plan_hazards a0)+(W (a1 * 3))))+a2)) ([(D.plan_Plan_thread a0 a1),(⟨a2,0,2⟩:Bound)]))) r (fun R=>y_assign r rfl) rfl fun fr r=>?_;refine wn ?_
 refine wp_ret ?_;refine ret_tmp r rfl rfl ?_;exact ⟨rfl,hB⟩

def D.plan_Plan_Field (a0:Plan) (a1:Int) (a2:Int):Int:=(D.plan_Plan_place a0 (IntKind.i64.wrap ((IntKind.i64.wrap ((IntKind.i64.wrap ((D.plan_Plan_nodes a0)+(IntKind.i64.wrap (a1 * 5))))+2))+a2)) ([(D.plan_Plan_node a0 a1),(⟨a2,0,2⟩:Bound)]))

theorem c_plan_Plan_Field (w0:World) 
    (a0:Plan) (a1:Int) (a2:Int) :
    Calls Try.prog 7 #[.agg (planC a0).toArray,.int .i64 a1,.int .i64 a2] w0 (PureRes (.int .i64 (D.plan_Plan_Field a0 a1 a2)) w0):=by
 refine enter Try.func7 rfl 23 rfl rfl fun fr r=>?_;have hB:=Below.refl w0.heap.size w0
 refine wsr ?_;refine seq_new (.cells ((planC a0)).toArray 26 (0,0)) r (fun R=>y_box r (v:=(.agg (planC a0).toArray)) rfl) rfl fun fr b1 w2 n3 r=>?_;obtain ⟨e_b1,z_w2,h_b1,hB,zB⟩:=n3.all hB
 refine seq_val (I 0) r (fun R=>y_assign r rfl) rfl fun fr r=>?_;refine wn ?_
 refine wp_seq ?_;refine wp_drawnF 16 [.val (.agg (planC a0).toArray),.val (.agg (planC a0).toArray),.val (I (D.plan_Plan_nodes a0)),.val (I a1),.val (I (W (a1 * 5))),.val (I (W ((D.plan_Plan_nodes a0)+(W (a1 * 5))))),.val (I (W ((W ((D.plan_Plan_nodes a0)+(W (a1 * 5))))+2))),.val (I a2),.val (I (W ((W ((W ((D.plan_Plan_nodes a0)+(W (a1 * 5))))+2))+a2))),.val (.agg (planC a0).toArray),.val (I a1),.val (.agg (boundC (D.plan_Plan_node a0 a1)).toArray),.val (I a2),.val (.agg (boundC (⟨a2,0,2⟩:Bound)).toArray),.slice w2.heap.size (.cells ((boundsC [(D.plan_Plan_node a0 a1),(⟨a2,0,2⟩:Bound)])).toArray 85 (0,0)) 2,.val (I (D.plan_Plan_place a0 (W ((W ((W ((D.plan_Plan_nodes a0)+(W (a1 * 5))))+2))+a2)) ([(D.plan_Plan_node a0 a1),(⟨a2,0,2⟩:Bound)])))] mixed r (by kernel_rfl) (within_cons (by exact trivial) (within_cons (by exact trivial) (within_cons (by exact trivial) (within_cons (by exact trivial) (within_cons (by exact trivial) (within_cons (by exact trivial) (within_cons (by exact trivial) (within_cons (by exact trivial) (within_cons (by exact trivial) (within_cons (by exact trivial) (within_cons (by exact trivial) (within_cons (by exact trivial) (within_cons (by exact trivial) (within_cons (by exact trivial) (within_cons (Nat.le_refl _) (within_cons (by exact trivial) within_nil)))))))))))))))) ?_ ?_
 ·
  refine ec r (fun _ u _ b d s=>y_load_agg s (cs:=(planC a0)) (n:=6) rfl (keep b h_b1) ta26 rfl bz) ?_;refine ec r (fun _ u _ b d s=>y_load_agg s (cs:=(planC a0)) (n:=6) rfl (keep b h_b1) ta26 rfl bz) ?_
  refine ec r (fun fr1 u w' hb' hd r'=>y_call r' (args:=[(.agg (planC a0).toArray)]) (lc hd.1 l0) cl31 ((c_plan_Plan_nodes _ a0).mono (by rintro _ w2 ⟨rfl,hb2⟩; exact ⟨_,rfl,hb2,rfl⟩))) ?_;refine ec r (fun _ u _ b d s=>y_move s rfl bz) ?_
  refine ec r (fun _ u _ b d s=>y_bin s d.1 rfl rfl rfl bz) ?_;refine ec r (fun _ u _ b d s=>y_bin s d.1 d.2.1 rfl rfl bz) ?_
  refine ec r (fun _ u _ b d s=>y_bin s d.1 rfl rfl rfl bz) ?_;refine ec r (fun _ u _ b d s=>y_move s rfl bz) ?_
  refine ec r (fun _ u _ b d s=>y_bin s d.1 d.2.1 rfl rfl bz) ?_;refine ec r (fun _ u _ b d s=>y_load_agg s (cs:=(planC a0)) (n:=6) rfl (keep b h_b1) ta26 rfl bz) ?_
  refine ec r (fun _ u _ b d s=>y_move s rfl bz) ?_;refine ec r (fun fr1 u w' hb' hd r'=>y_call r' (args:=[(.agg (planC a0).toArray),(I a1)]) (lc hd.1 (lc hd.2.1 l0)) cl32 ((c_plan_Plan_node _ a0 a1).mono (by rintro _ w2 ⟨rfl,hb2⟩; exact ⟨_,rfl,hb2,rfl⟩))) ?_
  refine ec r (fun _ u _ b d s=>y_move s rfl bz) ?_;refine ec r (fun fr1 u w' hb' hd r'=>y_build r' (v:=(.agg (boundC (⟨a2,0,2⟩:Bound)).toArray)) (bs3 (congrArg (fun z=>(0,z)) hd.1) (rfl) (rfl) (by kernel_rfl)) bz) ?_
  refine ec r (fun fr1 u w' hb' hd r'=>y_bslice r' (c:=((boundsC [(D.plan_Plan_node a0 a1),(⟨a2,0,2⟩:Bound)])).toArray) (E:=85) (bs2 (congrArg (fun z=>(0,z)) hd.1) (congrArg (fun z=>(1,z)) hd.2.1) (by kernel_rfl)) (fun b w2 n2=>⟨n2.below,b,rfl,Nat.le_of_eq n2.eq.symm,n2.at_⟩)) ?_;refine each_consF r rfl (fun fr1 u w' hb' hd r'=>?_) ?_
  · obtain ⟨d0,d1,d2,d3,_⟩:=hd; obtain ⟨q2,hq2,_,hr2⟩:=d2; exact y_call r' (args:=[(.agg (planC a0).toArray),(I (W ((W ((W ((D.plan_Plan_nodes a0)+(W (a1 * 5))))+2))+a2))),(.slice (some ⟨q2,0,none⟩) 2 2)]) (lc d0 (lc d1 (lc hq2 l0))) cl30 ((c_plan_Plan_place _ a0 (W ((W ((W ((D.plan_Plan_nodes a0)+(W (a1 * 5))))+2))+a2)) ([(D.plan_Plan_node a0 a1),(⟨a2,0,2⟩:Bound)]) hr2 (by first | assumption | decide | exact guardI_eq (by assumption) | (simp; done))).mono (by rintro _ w2 ⟨rfl,hb2⟩; exact ⟨_,rfl,hb2,rfl⟩))
  exact each_nil
 intro fr u w4 hb hΦ hne r;obtain ⟨b5,g14,e_b5,h_b5⟩:=hΦ 14 (by decide);have l_b5:=lt_of_block h_b5;have r:=r.congr (sc (hΦ 15 (by decide)) (sc g14 (sc (hΦ 13 (by decide)) (sc (hΦ 12 (by decide)) (sc (hΦ 11 (by decide)) (sc (hΦ 10 (by decide)) (sc (hΦ 9 (by decide)) (sc (hΦ 8 (by decide)) (sc (hΦ 7 (by decide)) (sc (hΦ 6 (by decide)) (sc (hΦ 5 (by decide)) (sc (hΦ 4 (by decide)) (sc (hΦ 3 (by decide)) (sc (hΦ 2 (by decide)) (sc (hΦ 1 (by decide)) (sc (hΦ 0 (by decide)) rfl))))))))))))))));have z_w4:=hb.size;have h_b1:=keep hb h_b1;obtain ⟨hB,zB⟩:=bon hb hB;refine seq_val (I (D.plan_Plan_place a0 (W ((W ((W ((D.plan_Plan_nodes a0)+(W (a1 * 5))))+2))+a2)) ([(D.plan_Plan_node a0 a1),(⟨a2,0,2⟩:Bound)]))) r (fun R=>y_assign r rfl) rfl fun fr r=>?_;refine wn ?_
 refine wp_ret ?_;refine ret_tmp r rfl rfl ?_;exact ⟨rfl,hB⟩

end Go.Proofs.Ytikjpdpgdmbdpaa

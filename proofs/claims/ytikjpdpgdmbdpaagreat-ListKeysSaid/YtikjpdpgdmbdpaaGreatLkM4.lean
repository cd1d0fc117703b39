/- Some of our texts, one behind the other. -/
import Derived.Test.YtikjpdpgdmbdpaaGreatRows
import Derived.Test.YtikjpdpgdmbdpaaGreatLkM3
set_option linter.all false
/- Ours. -/
namespace Go.Proofs.YtikjpdpgdmbdpaaGreat
open Go.RowKit
def D.cj (l:List Bound):Bool:=l.all fun b=>!(decide (b.n<b.least))&&!(decide (b.n > b.most))
theorem tC {l:List Bound} {k:Nat} (h:k<l.length) (hb:l[k].n<l[k].least∨l[k].n > l[k].most):D.cj l=false:=by
  unfold D.cj;rw [List.all_eq_false];refine ⟨l[k],List.getElem_mem h,?_⟩
  rcases hb with hb | hb <;> simp [hb]
theorem Ap {l:List Bound} {k:Nat} (h:k<l.length) (hw:D.cj (l.take k)=true) (h1:¬ l[k].n<l[k].least) (h2:¬ l[k].n > l[k].most):D.cj (l.take (k+1))=true:=by
  unfold D.cj at *
  rw [List.take_succ_eq_append_getElem h,List.all_append,hw]
  simp only [List.all_cons,List.all_nil,Bool.true_and,Bool.and_true,Bool.and_eq_true,Bool.not_eq_true',decide_eq_false_iff_not]
  exact ⟨h1,h2⟩
theorem tsb:sized Tryz.prog 182 3:=by kernel_rfl
theorem tab:tyA Tryz.prog 182 3:=by kernel_rfl
theorem tib:tyO Tryz.prog 3:=by kernel_rfl
theorem isb:isSlice Tryz.prog 246:=by kernel_rfl
theorem slb:sliceTy Tryz.prog 246 3:=by kernel_rfl
theorem zb:zeroOf Tryz.prog 182=some (.agg #[.int .i64 0,.int .i64 0,.int .i64 0]):=by kernel_rfl
theorem fb0:ba Tryz.prog 182 0 0:=by kernel_rfl
theorem fb1:ba Tryz.prog 182 1 1:=by kernel_rfl
theorem fb2:ba Tryz.prog 182 2 2:=by kernel_rfl
set_option maxRecDepth 20000 in
set_option maxHeartbeats 1000000 in
theorem oC (w0:World) (l:List Bound) {b:Nat} (hb:w0.heap[b]?=some (.cells (boundsC l).toArray 182 (0,0))) (hl:l.length≤8):Calls Tryz.prog 178 #[.slice (some ⟨b,0,none⟩) l.length l.length] w0 (bw (.bool (D.cj l)) w0):=by
  refine enter (l:=[.slice (some ⟨b,0,none⟩) l.length l.length]) Tryz.func178 rfl 24 rfl rfl fun a0 r=>?_;refine wp_seq (wp_region_lit ?_)
  refine ac (.bool false) r (fun R=>cw r rfl) rfl fun a0 r=>wpList_nil ?_;refine wp_seq (wp_seq (wp_region_lit ?_))
  refine ac (.slice (some ⟨b,0,none⟩) l.length l.length) r (fun R=>aj r rfl) rfl fun a0 r=>?_;refine ac (.int .i64 l.length) r (fun R=>kp r isb rfl) rfl fun a0 r=>?_
  refine ac (.int .i64 0) r (fun R=>aj r rfl) rfl fun a0 r=>wpList_nil (wp_block ?_);refine pC (X:=Nat) (fun k=>[(5,.slice (some ⟨b,0,none⟩) l.length l.length),(6,.int .i64 l.length),(7,.int .i64 k)])
    (fun k w=>k≤l.length∧Below w0.heap.size w0 w∧D.cj (l.take k)=true) (fun k=>l.length - k) 0 r (aw rfl (aw rfl (aw rfl aO))) ⟨by omega,Below.refl _ _,by simp [D.cj]⟩ ?_
  rintro k a0 w g r ⟨hk,hB,hw⟩;have hbw:w.heap[b]?=some (.cells (boundsC l).toArray 182 (0,0)):=by rw [hB.block b (lt_of_block hb)]; exact hb
  refine wp_seq (wp_region_lit ?_);refine ac (.bool (decide ((k:Int)<l.length))) r (fun R=>aP r (u:=.int .i64 k) (u':=.int .i64 l.length) rfl rfl rfl rfl) rfl fun a0 r=>wpList_nil ?_;refine wp_seq (wp_cond_split (t:=decide ((k:Int)<l.length)) (r.ev rfl) (fun h=>?_) (fun h=>?_))
  · have hkl:k<l.length:=by simpa using h
    refine wp_skip ?_;refine wp_seq (wp_block ?_);refine wp_seq (wp_region_lit ?_);refine ac (.pointer (some ⟨b,0+(k:Int).toNat * 3,none⟩)) r (fun R=>iA r slb rfl rfl (by omega) (by omega)) rfl fun a0 r=>?_;refine ac (.agg (bJ l[k]).toArray) r (fun R=>aW r (cs:=bJ l[k]) (n:=3) rfl hbw tab (by have:=uD (f:=bJ) (n:=3) (fun _=>rfl) l k hkl; simpa [boundsC] using this)) rfl fun a0 r=>?_
    refine ai (.cells #[.int .i64 0,.int .i64 0,.int .i64 0] 182 (0,0)) r (fun R=>ah zb) rfl fun a0 b1 w1 n1 r=>?_;have e1:=n1.eq
    have z1:=n1.size;have h1:=n1.at_;have zB:=hB.size;have hB:=hB.trans (n1.below.mono hB.size);refine bi (.cells (bJ l[k]).toArray 182 (0,0)) r (fun R=>aZ r (v:=.agg (bJ l[k]).toArray) rfl rfl h1 tsb (Nat.le_of_ble_eq_true rfl) rfl rfl) rfl fun a0 w2 u2 r=>wpList_nil ?_;have z2:=u2.size
    have h2:=u2.at_;have hB:=u2.below hB (by omega)
    refine wp_seq (wp_region_lit ?_);refine ac (.pointer (some ⟨b1,0,none⟩)) r (fun R=>ax r (o:=0) rfl fb0) rfl fun a0 r=>?_;refine ac (.int .i64 l[k].n) r (fun R=>av r rfl h2 tib rfl) rfl fun a0 r=>?_
    refine ac (.pointer (some ⟨b1,1,none⟩)) r (fun R=>ax r (o:=0) rfl fb1) rfl fun a0 r=>?_;refine ac (.int .i64 l[k].least) r (fun R=>av r rfl h2 tib rfl) rfl fun a0 r=>?_
    refine ac (.bool (decide (l[k].n<l[k].least))) r (fun R=>aP r (u:=.int .i64 l[k].n) (u':=.int .i64 l[k].least) rfl rfl rfl rfl) rfl fun a0 r=>?_;refine ac (.bool (decide (l[k].n<l[k].least))) r (fun R=>aj r rfl) rfl fun a0 r=>?_
    have wi:IntKind.i64.wrap ((k:Int)+1)=((k+1:Nat):Int):=by
      have:IntKind.i64.wrap ((k:Int)+1)=(k:Int)+1:=by simp only [IntKind.wrap]; simp [IntKind.signed,IntKind.bits]; omega
      rw [this]; omega
    refine bX (decide (l[k].n<l[k].least)) (fun h1=>?_) (fun h1=>?_)
    · have hn:=tC hkl (.inl (of_decide_eq_true h1))
      refine iN r rfl rfl rfl (v:=.bool true) (congrArg Value.bool h1) (by simp [aA]) fun a0 r=>?_;refine iN r rfl rfl rfl (v:=.bool true) (congrArg Value.bool h1) (by simp [aA]) fun a0 r=>?_
      refine iN r rfl rfl rfl (v:=.bool true) (congrArg Value.bool h1) (by simp [aA]) fun a0 r=>?_;refine iN r rfl rfl rfl (v:=.bool true) (congrArg Value.bool h1) (by simp [aA]) fun a0 r=>?_
      refine iN r rfl rfl rfl (v:=.bool true) (congrArg Value.bool h1) (by simp [aA]) fun a0 r=>?_;refine ac (.bool true) r (fun R=>aJ r (b:=true) (congrArg Value.bool h1) rfl) rfl fun a0 r=>wpList_nil ?_
      refine wp_cond_split (t:=true) (r.ev rfl) (fun _=>?_) (fun h=>by cases h)
      refine wp_seq (wp_region_lit ?_);refine ac (.bool false) r (fun R=>cw r rfl) rfl fun a0 r=>wpList_nil (wp_ret ?_);refine bd r rfl (v:=.bool false) rfl ?_
      rw [hn]
      exact ⟨rfl,hB⟩
    · refine iK r rfl rfl rfl (congrArg Value.bool h1) ?_
      refine ac (.pointer (some ⟨b1,0,none⟩)) r (fun R=>ax r (o:=0) rfl fb0) rfl fun a0 r=>?_;refine iK r rfl rfl rfl (congrArg Value.bool h1) ?_
      refine ac (.int .i64 l[k].n) r (fun R=>av r rfl h2 tib rfl) rfl fun a0 r=>?_;refine iK r rfl rfl rfl (congrArg Value.bool h1) ?_
      refine ac (.pointer (some ⟨b1,2,none⟩)) r (fun R=>ax r (o:=0) rfl fb2) rfl fun a0 r=>?_;refine iK r rfl rfl rfl (congrArg Value.bool h1) ?_
      refine ac (.int .i64 l[k].most) r (fun R=>av r rfl h2 tib rfl) rfl fun a0 r=>?_;refine iK r rfl rfl rfl (congrArg Value.bool h1) ?_
      refine ac (.bool (decide (l[k].n > l[k].most))) r (fun R=>aP r (u:=.int .i64 l[k].n) (u':=.int .i64 l[k].most) rfl rfl rfl rfl) rfl fun a0 r=>?_;refine ac (.bool (decide (l[k].n > l[k].most))) r (fun R=>aJ r (b:=false) (congrArg Value.bool h1) rfl) rfl fun a0 r=>wpList_nil ?_
      refine wp_cond_split (t:=decide (l[k].n > l[k].most)) (r.ev rfl) (fun h2'=>?_) (fun h2'=>?_)
      · have hn:=tC hkl (.inr (of_decide_eq_true h2'))
        refine wp_seq (wp_region_lit ?_);refine ac (.bool false) r (fun R=>cw r rfl) rfl fun a0 r=>wpList_nil (wp_ret ?_);refine bd r rfl (v:=.bool false) rfl ?_
        rw [hn]
        exact ⟨rfl,hB⟩
      · refine wp_skip ?_
        refine wp_region_lit ?_;refine ac (.int .i64 ((k+1:Nat):Int)) r (fun R=>aP r (u:=.int .i64 k) (u':=.int .i64 1) rfl rfl rfl (congrArg (fun z=>Result.ok (Value.int .i64 z) _) wi)) rfl fun a0 r=>?_;refine ac (.int .i64 ((k+1:Nat):Int)) r (fun R=>aj r rfl) rfl fun a0 r=>wpList_nil ?_
        exact ⟨k+1,_,r,aw rfl (aw rfl (aw rfl aO)),⟨hkl,hB,Ap hkl hw (of_decide_eq_false h1) (of_decide_eq_false h2')⟩,by omega⟩
  · have hkl:k=l.length:=by have:=of_decide_eq_false h; omega
    subst hkl;refine wp_exit ?_;refine wp_seq (wp_region_lit ?_);refine ac (.bool true) r (fun R=>cw r rfl) rfl fun a0 r=>wpList_nil (wp_ret ?_);refine bd r rfl (v:=.bool true) rfl ?_
    rw [List.take_length] at hw
    rw [hw]
    exact ⟨rfl,hB⟩
set_option maxRecDepth 20000 in
set_option maxHeartbeats 1000000 in
theorem yu (w0:World):Calls Tryz.prog 178 #[.slice none 0 0] w0 (bw (.bool (D.cj [])) w0):=by
  refine enter (l:=[.slice none 0 0]) Tryz.func178 rfl 24 rfl rfl fun a0 r=>?_;refine wp_seq (wp_region_lit ?_)
  refine ac (.bool false) r (fun R=>cw r rfl) rfl fun a0 r=>wpList_nil ?_;refine wp_seq (wp_seq (wp_region_lit ?_))
  refine ac (.slice none 0 0) r (fun R=>aj r rfl) rfl fun a0 r=>?_;refine ac (.int .i64 ((0:Nat):Int)) r (fun R=>kp r isb rfl) rfl fun a0 r=>?_
  refine ac (.int .i64 0) r (fun R=>aj r rfl) rfl fun a0 r=>wpList_nil (wp_block ?_);refine pC (X:=Unit) (fun _=>[(6,.int .i64 ((0:Nat):Int)),(7,.int .i64 0)]) (fun _ w=>w=w0) (fun _=>0) () r (aw rfl (aw rfl aO)) rfl ?_
  rintro _ a0 w g r rfl;refine wp_seq (wp_region_lit ?_);refine ac (.bool (decide ((0:Int)<((0:Nat):Int)))) r (fun R=>aP r (u:=.int .i64 0) (u':=.int .i64 ((0:Nat):Int)) rfl rfl rfl rfl) rfl fun a0 r=>wpList_nil ?_;refine wp_seq (wp_cond_split (t:=decide ((0:Int)<((0:Nat):Int))) (r.ev rfl) (fun h=>by cases h) (fun h=>?_))
  refine wp_exit ?_;refine wp_seq (wp_region_lit ?_);refine ac (.bool true) r (fun R=>cw r rfl) rfl fun a0 r=>wpList_nil (wp_ret ?_);refine bd r rfl (v:=.bool true) rfl ?_
  exact ⟨rfl,Below.refl _ _⟩
end Go.Proofs.YtikjpdpgdmbdpaaGreat

/- Ours. -/
set_option maxRecDepth 20000
set_option maxHeartbeats 2000000
namespace Go.Proofs.YtikjpdpgdmbdpaaGreat
open Go.RowKit
theorem mR:ag Tryz.prog 138:=by kernel_rfl
theorem qO:ag Tryz.prog 139:=by kernel_rfl
theorem wG:ag Tryz.prog 146:=by kernel_rfl
theorem qG:ag Tryz.prog 147:=by kernel_rfl
theorem qE:ag Tryz.prog 152:=by kernel_rfl
theorem ng:ag Tryz.prog 178:=by kernel_rfl
theorem qi:ag Tryz.prog 235:=by kernel_rfl
theorem cl94:ag Tryz.prog 94:=by kernel_rfl
theorem cl95:ag Tryz.prog 95:=by kernel_rfl
theorem cl96:ag Tryz.prog 96:=by kernel_rfl
theorem ga:ba Tryz.prog 23 0 0:=by kernel_rfl
theorem iX:ba Tryz.prog 23 1 1:=by kernel_rfl
theorem gV:ba Tryz.prog 23 2 2:=by kernel_rfl
theorem pV:ba Tryz.prog 23 3 3:=by kernel_rfl
theorem uJ:ba Tryz.prog 23 4 4:=by kernel_rfl
theorem uR:ba Tryz.prog 23 5 5:=by kernel_rfl
theorem mixed:Tryz.prog.follows .mixedOrders=true:=by kernel_rfl
theorem qg:tyA Tryz.prog 182 3:=by kernel_rfl
theorem ta23:tyA Tryz.prog 23 6:=by kernel_rfl
theorem to3:tyO Tryz.prog 3:=by kernel_rfl
theorem qm:sized Tryz.prog 182 3:=by kernel_rfl
theorem qy:zeroOf Tryz.prog 182=some (.agg (bJ (⟨0,0,0⟩:Bound)).toArray):=by kernel_rfl
def D.cN (a0:Plan):Bool:=(bif (D.cj ([(⟨a0.nodes,1,1048576⟩:Bound),(⟨a0.threads,1,16⟩:Bound),(⟨a0.domains,0,64⟩:Bound),(⟨a0.buckets,1,256⟩:Bound),(⟨a0.gen,1,1073741823⟩:Bound)])) then (D.cj ([(⟨a0.retire,(IntKind.i64.wrap ((IntKind.i64.wrap (3 * a0.threads))+1)),1024⟩:Bound)])) else false)
theorem nH (w0:World) 
    (a0:Plan) :
    Calls Tryz.prog 152 #[.agg (aa a0).toArray] w0 (bw (.bool (D.cN a0)) w0):=by
 refine kN Tryz.func152 rfl 31 rfl rfl fun fr r hB=>?_;refine wsr ?_
 refine kX 23 (.agg (aa a0).toArray) r rfl rfl fun b1 w2 n3 r=>?_;obtain ⟨E1,Z2,H1,hB,zB⟩:=n3.all hB
 refine kA (.bool false) r rfl rfl fun r=>wn (wsr (kF 0 r rfl ga rfl fun r=>kL (I a0.nodes) r rfl H1 to3 rfl rfl fun r=>kU (.agg (bJ (⟨a0.nodes,1,1048576⟩:Bound)).toArray) r (by kernel_rfl) rfl fun r=>kF 0 r rfl iX rfl fun r=>kL (I a0.threads) r rfl H1 to3 rfl rfl fun r=>kU (.agg (bJ (⟨a0.threads,1,16⟩:Bound)).toArray) r (by kernel_rfl) rfl fun r=>kF 0 r rfl pV rfl fun r=>kL (I a0.domains) r rfl H1 to3 rfl rfl fun r=>kU (.agg (bJ (⟨a0.domains,0,64⟩:Bound)).toArray) r (by kernel_rfl) rfl fun r=>kF 0 r rfl uJ rfl fun r=>kL (I a0.buckets) r rfl H1 to3 rfl rfl fun r=>kU (.agg (bJ (⟨a0.buckets,1,256⟩:Bound)).toArray) r (by kernel_rfl) rfl fun r=>kF 0 r rfl uR rfl fun r=>kL (I a0.gen) r rfl H1 to3 rfl rfl fun r=>kU (.agg (bJ (⟨a0.gen,1,1073741823⟩:Bound)).toArray) r (by kernel_rfl) rfl fun r=>?_));refine m9 (.cells ((boundsC [(⟨a0.nodes,1,1048576⟩:Bound),(⟨a0.threads,1,16⟩:Bound),(⟨a0.domains,0,64⟩:Bound),(⟨a0.buckets,1,256⟩:Bound),(⟨a0.gen,1,1073741823⟩:Bound)])).toArray 182 (0,0)) 5 r (fun R=>dB r (by kernel_rfl)) rfl fun fr b4 w5 n6 r=>?_
 have H1:=keep n6.below H1;obtain ⟨E4,Z5,H4,hB,zB⟩:=n6.all hB;refine kE r (oC w5 ([(⟨a0.nodes,1,1048576⟩:Bound),(⟨a0.threads,1,16⟩:Bound),(⟨a0.domains,0,64⟩:Bound),(⟨a0.buckets,1,256⟩:Bound),(⟨a0.gen,1,1073741823⟩:Bound)]) H4 (by first | assumption | decide | (simp; done))) rfl ng rfl fun w7 hb r=>?_
 have Z7:=hb.size;have H1:=keep hb H1;have H4:=keep hb H4;obtain ⟨hB,zB⟩:=bon hb hB;refine kM (.bool (D.cj ([(⟨a0.nodes,1,1048576⟩:Bound),(⟨a0.threads,1,16⟩:Bound),(⟨a0.domains,0,64⟩:Bound),(⟨a0.buckets,1,256⟩:Bound),(⟨a0.gen,1,1073741823⟩:Bound)]))) r rfl rfl fun r=>?_;refine bX (D.cj ([(⟨a0.nodes,1,1048576⟩:Bound),(⟨a0.threads,1,16⟩:Bound),(⟨a0.domains,0,64⟩:Bound),(⟨a0.buckets,1,256⟩:Bound),(⟨a0.gen,1,1073741823⟩:Bound)])) (fun h8=>?_) (fun h8=>?_)
 ·
  refine s1 r h8 (kF 0 r rfl gV rfl fun r=>s1 r h8 (kL (I a0.retire) r rfl H1 to3 rfl rfl fun r=>s1 r h8 (kF 0 r rfl iX rfl fun r=>s1 r h8 (kL (I a0.threads) r rfl H1 to3 rfl rfl fun r=>s1 r h8 (kB r rfl rfl rfl rfl rfl fun r=>s1 r h8 (kB r rfl rfl rfl rfl rfl fun r=>s1 r h8 (kU (.agg (bJ (⟨a0.retire,(W ((W (3 * a0.threads))+1)),1024⟩:Bound)).toArray) r (by kernel_rfl) rfl fun r=>s1 r h8 ?_)))))));refine m9 (.cells ((boundsC [(⟨a0.retire,(W ((W (3 * a0.threads))+1)),1024⟩:Bound)])).toArray 182 (0,0)) 1 r (fun R=>dB r (by kernel_rfl)) rfl fun fr b9 w10 n11 r=>?_
  have H1:=keep n11.below H1;have H4:=keep n11.below H4;obtain ⟨E9,Z10,H9,hB,zB⟩:=n11.all hB;refine s1 r h8 ?_;refine kE r (oC w10 ([(⟨a0.retire,(W ((W (3 * a0.threads))+1)),1024⟩:Bound)]) H9 (by first | assumption | decide | (simp; done))) rfl ng rfl fun w12 hb r=>?_
  have Z12:=hb.size;have H1:=keep hb H1;have H4:=keep hb H4;have H9:=keep hb H9;obtain ⟨hB,zB⟩:=bon hb hB;refine ac (.bool (D.cj ([(⟨a0.retire,(W ((W (3 * a0.threads))+1)),1024⟩:Bound)]))) r (fun R=>aJ r (b:=true) (congrArg Value.bool h8) rfl) rfl fun fr r=>kA (.bool (D.cj ([(⟨a0.retire,(W ((W (3 * a0.threads))+1)),1024⟩:Bound)]))) r rfl rfl fun r=>wn (wp_ret ?_);have hd:D.cN a0=(D.cj ([(⟨a0.retire,(W ((W (3 * a0.threads))+1)),1024⟩:Bound)])):=(aC h8).trans (rfl)
  refine bd r rfl rfl ?_;rw [hd];exact ⟨rfl,hB⟩
 refine s0 r h8 fun fr r=>s0 r h8 fun fr r=>s0 r h8 fun fr r=>s0 r h8 fun fr r=>s0 r h8 fun fr r=>s0 r h8 fun fr r=>s0 r h8 fun fr r=>s0 r h8 fun fr r=>s0 r h8 fun fr r=>ac (.bool false) r (fun R=>aJ r (b:=false) (congrArg Value.bool h8) rfl) rfl fun fr r=>kA (.bool false) r rfl rfl fun r=>wn (wp_ret ?_);have hd:D.cN a0=false:=(aF h8).trans (rfl)
 refine bd r rfl rfl ?_;rw [hd];exact ⟨rfl,hB⟩
def D.bF (a0:Plan):Int:=(maxI 2 a0.buckets)
theorem nS (w0:World) 
    (a0:Plan) :
    Calls Tryz.prog 95 #[.agg (aa a0).toArray] w0 (bw (.int .i64 (D.bF a0)) w0):=by
 refine kN Tryz.func95 rfl 6 rfl rfl fun fr r hB=>?_;refine wsr ?_
 refine kX 23 (.agg (aa a0).toArray) r rfl rfl fun b1 w2 n3 r=>?_;obtain ⟨E1,Z2,H1,hB,zB⟩:=n3.all hB
 refine kA (I 0) r rfl rfl fun r=>wn (wsr (kF 0 r rfl uJ rfl fun r=>kL (I a0.buckets) r rfl H1 to3 rfl rfl fun r=>ac (I (maxI 2 a0.buckets)) r (fun R=>Dd r (m:=2) (n:=a0.buckets) rfl rfl) rfl fun fr r=>kA (I (maxI 2 a0.buckets)) r rfl rfl fun r=>wn (wp_ret ?_)));refine bd r rfl rfl ?_
 exact ⟨rfl,hB⟩
def D.aH (a0:Plan):Int:=(IntKind.i64.wrap (1+(IntKind.i64.wrap (a0.domains * (IntKind.i64.wrap (1+(D.bF a0)))))))
theorem rp (w0:World) 
    (a0:Plan) :
    Calls Tryz.prog 146 #[.agg (aa a0).toArray] w0 (bw (.int .i64 (D.aH a0)) w0):=by
 refine kN Tryz.func146 rfl 10 rfl rfl fun fr r hB=>?_;refine wsr ?_
 refine kX 23 (.agg (aa a0).toArray) r rfl rfl fun b1 w2 n3 r=>?_;obtain ⟨E1,Z2,H1,hB,zB⟩:=n3.all hB
 refine kA (I 0) r rfl rfl fun r=>wn (wp_seq ?_);refine bH 7 [.val (.pointer (some ⟨b1,3,none⟩)),.val (I a0.domains),.val (.agg (aa a0).toArray),.val (I (D.bF a0)),.val (I (W (1+(D.bF a0)))),.val (I (W (a0.domains * (W (1+(D.bF a0)))))),.val (I (W (1+(W (a0.domains * (W (1+(D.bF a0))))))))] mixed r (by kernel_rfl) (kV (kV (kV (kV (kV (kV (kV bG))))))) ?_ ?_
 ·
  refine ec r (fun _ u _ b d s=>ax s (b:=b1) (o:=0) rfl pV bz) (ec r (fun _ u _ b d s=>av s d.1 (keep b H1) to3 rfl bz) (ec r (fun _ u _ b d s=>aW s (cs:=(aa a0)) (n:=6) rfl (keep b H1) ta23 rfl bz) (ec r (fun fr1 u w' hb' hd r'=>aN r' (args:=[(.agg (aa a0).toArray)]) (lc hd.1 l0) cl95 ((nS _ a0).mono (by rintro _ w2 ⟨rfl,hb2⟩; exact ⟨_,rfl,hb2,rfl⟩))) (ec r (fun _ u _ b d s=>aP s rfl d.1 rfl rfl bz) (ec r (fun _ u _ b d s=>aP s d.1 d.2.1 rfl rfl bz) (ec r (fun _ u _ b d s=>aP s rfl d.1 rfl rfl bz) ?_))))));exact bI
 intro fr u w4 hb hΦ hne r;have r:=r.congr (sc (hΦ 6 (by decide)) (sc (hΦ 5 (by decide)) (sc (hΦ 4 (by decide)) (sc (hΦ 3 (by decide)) (sc (hΦ 2 (by decide)) (sc (hΦ 1 (by decide)) (sc (hΦ 0 (by decide)) rfl)))))));have Z4:=hb.size;have H1:=keep hb H1;obtain ⟨hB,zB⟩:=bon hb hB;refine kA (I (W (1+(W (a0.domains * (W (1+(D.bF a0)))))))) r rfl rfl fun r=>wn (wp_ret ?_);refine bd r rfl rfl ?_
 exact ⟨rfl,hB⟩
def D.cm (a0:Plan):Int:=(IntKind.i64.wrap ((D.aH a0)+(IntKind.i64.wrap (a0.threads * 3))))
theorem nK (w0:World) 
    (a0:Plan) :
    Calls Tryz.prog 235 #[.agg (aa a0).toArray] w0 (bw (.int .i64 (D.cm a0)) w0):=by
 refine kN Tryz.func235 rfl 9 rfl rfl fun fr r hB=>?_;refine wsr ?_
 refine kX 23 (.agg (aa a0).toArray) r rfl rfl fun b1 w2 n3 r=>?_;obtain ⟨E1,Z2,H1,hB,zB⟩:=n3.all hB
 refine kA (I 0) r rfl rfl fun r=>wn (wp_seq ?_);refine bH 6 [.val (.agg (aa a0).toArray),.val (I (D.aH a0)),.val (.pointer (some ⟨b1,1,none⟩)),.val (I a0.threads),.val (I (W (a0.threads * 3))),.val (I (W ((D.aH a0)+(W (a0.threads * 3)))))] mixed r (by kernel_rfl) (kV (kV (kV (kV (kV (kV bG)))))) ?_ ?_
 ·
  refine ec r (fun _ u _ b d s=>aW s (cs:=(aa a0)) (n:=6) rfl (keep b H1) ta23 rfl bz) (ec r (fun fr1 u w' hb' hd r'=>aN r' (args:=[(.agg (aa a0).toArray)]) (lc hd.1 l0) wG ((rp _ a0).mono (by rintro _ w2 ⟨rfl,hb2⟩; exact ⟨_,rfl,hb2,rfl⟩))) (ec r (fun _ u _ b d s=>ax s (b:=b1) (o:=0) rfl iX bz) (ec r (fun _ u _ b d s=>av s d.1 (keep b H1) to3 rfl bz) (ec r (fun _ u _ b d s=>aP s d.1 rfl rfl rfl bz) (ec r (fun _ u _ b d s=>aP s d.1 d.2.1 rfl rfl bz) ?_)))));exact bI
 intro fr u w4 hb hΦ hne r;have r:=r.congr (sc (hΦ 5 (by decide)) (sc (hΦ 4 (by decide)) (sc (hΦ 3 (by decide)) (sc (hΦ 2 (by decide)) (sc (hΦ 1 (by decide)) (sc (hΦ 0 (by decide)) rfl))))));have Z4:=hb.size;have H1:=keep hb H1;obtain ⟨hB,zB⟩:=bon hb hB;refine kA (I (W ((D.aH a0)+(W (a0.threads * 3))))) r rfl rfl fun r=>wn (wp_ret ?_);refine bd r rfl rfl ?_
 exact ⟨rfl,hB⟩
def D.aL (a0:Plan):Int:=(IntKind.i64.wrap ((D.cm a0)+(IntKind.i64.wrap (a0.threads * (IntKind.i64.wrap (1+a0.retire))))))
theorem lj (w0:World) 
    (a0:Plan) :
    Calls Tryz.prog 138 #[.agg (aa a0).toArray] w0 (bw (.int .i64 (D.aL a0)) w0):=by
 refine kN Tryz.func138 rfl 12 rfl rfl fun fr r hB=>?_;refine wsr ?_
 refine kX 23 (.agg (aa a0).toArray) r rfl rfl fun b1 w2 n3 r=>?_;obtain ⟨E1,Z2,H1,hB,zB⟩:=n3.all hB
 refine kA (I 0) r rfl rfl fun r=>wn (wp_seq ?_);refine bH 9 [.val (.agg (aa a0).toArray),.val (I (D.cm a0)),.val (.pointer (some ⟨b1,1,none⟩)),.val (I a0.threads),.val (.pointer (some ⟨b1,2,none⟩)),.val (I a0.retire),.val (I (W (1+a0.retire))),.val (I (W (a0.threads * (W (1+a0.retire))))),.val (I (W ((D.cm a0)+(W (a0.threads * (W (1+a0.retire)))))))] mixed r (by kernel_rfl) (kV (kV (kV (kV (kV (kV (kV (kV (kV bG))))))))) ?_ ?_
 ·
  refine ec r (fun _ u _ b d s=>aW s (cs:=(aa a0)) (n:=6) rfl (keep b H1) ta23 rfl bz) (ec r (fun fr1 u w' hb' hd r'=>aN r' (args:=[(.agg (aa a0).toArray)]) (lc hd.1 l0) qi ((nK _ a0).mono (by rintro _ w2 ⟨rfl,hb2⟩; exact ⟨_,rfl,hb2,rfl⟩))) (ec r (fun _ u _ b d s=>ax s (b:=b1) (o:=0) rfl iX bz) (ec r (fun _ u _ b d s=>av s d.1 (keep b H1) to3 rfl bz) (ec r (fun _ u _ b d s=>ax s (b:=b1) (o:=0) rfl gV bz) (ec r (fun _ u _ b d s=>av s d.1 (keep b H1) to3 rfl bz) (ec r (fun _ u _ b d s=>aP s rfl d.1 rfl rfl bz) (ec r (fun _ u _ b d s=>aP s d.1 d.2.1 rfl rfl bz) (ec r (fun _ u _ b d s=>aP s d.1 d.2.1 rfl rfl bz) ?_))))))));exact bI
 intro fr u w4 hb hΦ hne r;have r:=r.congr (sc (hΦ 8 (by decide)) (sc (hΦ 7 (by decide)) (sc (hΦ 6 (by decide)) (sc (hΦ 5 (by decide)) (sc (hΦ 4 (by decide)) (sc (hΦ 3 (by decide)) (sc (hΦ 2 (by decide)) (sc (hΦ 1 (by decide)) (sc (hΦ 0 (by decide)) rfl)))))))));have Z4:=hb.size;have H1:=keep hb H1;obtain ⟨hB,zB⟩:=bon hb hB;refine kA (I (W ((D.cm a0)+(W (a0.threads * (W (1+a0.retire))))))) r rfl rfl fun r=>wn (wp_ret ?_);refine bd r rfl rfl ?_
 exact ⟨rfl,hB⟩
def D.br (a0:Plan):Int:=(bif (!(D.cN a0)) then 0 else (IntKind.i64.wrap ((D.aL a0)+(IntKind.i64.wrap (a0.nodes * 5)))))
theorem yO (w0:World) 
    (a0:Plan) :
    Calls Tryz.prog 79 #[.agg (aa a0).toArray] w0 (bw (.int .i64 (D.br a0)) w0):=by
 refine kN Tryz.func79 rfl 12 rfl rfl fun fr r hB=>?_;refine wsr ?_
 refine kX 23 (.agg (aa a0).toArray) r rfl rfl fun b1 w2 n3 r=>?_;obtain ⟨E1,Z2,H1,hB,zB⟩:=n3.all hB
 refine kA (I 0) r rfl rfl fun r=>wn (wp_seq (wsr (kG (aa a0) 6 r rfl H1 ta23 rfl rfl fun r=>?_)));refine kE r (nH w2 a0) rfl qE rfl fun w4 hb r=>?_
 have Z4:=hb.size;have H1:=keep hb H1;obtain ⟨hB,zB⟩:=bon hb hB;refine ac (.bool (!(D.cN a0))) r (fun R=>y_un r (u:=(.bool (D.cN a0))) rfl rfl) rfl fun fr r=>wn ?_;refine wp_cond_split (t:=(!(D.cN a0))) (r.ev rfl) (fun h5=>?_) (fun h5=>?_)
 ·
  refine wsr (kA (I 0) r rfl rfl fun r=>wn (wp_ret ?_));have hd:D.br a0=0:=(aC h5).trans (rfl)
  refine bd r rfl rfl ?_;rw [hd];exact ⟨rfl,hB⟩
 refine wp_skip (wp_seq ?_);refine bH 6 [.val (.agg (aa a0).toArray),.val (I (D.aL a0)),.val (zp b1),.val (I a0.nodes),.val (I (W (a0.nodes * 5))),.val (I (W ((D.aL a0)+(W (a0.nodes * 5)))))] mixed r (by kernel_rfl) (kV (kV (kV (kV (kV (kV bG)))))) ?_ ?_
 ·
  refine ec r (fun _ u _ b d s=>aW s (cs:=(aa a0)) (n:=6) rfl (keep b H1) ta23 rfl bz) (ec r (fun fr1 u w' hb' hd r'=>aN r' (args:=[(.agg (aa a0).toArray)]) (lc hd.1 l0) mR ((lj _ a0).mono (by rintro _ w2 ⟨rfl,hb2⟩; exact ⟨_,rfl,hb2,rfl⟩))) (ec r (fun _ u _ b d s=>ax s (b:=b1) (o:=0) rfl ga bz) (ec r (fun _ u _ b d s=>av s d.1 (keep b H1) to3 rfl bz) (ec r (fun _ u _ b d s=>aP s d.1 rfl rfl rfl bz) (ec r (fun _ u _ b d s=>aP s d.1 d.2.1 rfl rfl bz) ?_)))));exact bI
 intro fr u w6 hb hΦ hne r;have r:=r.congr (sc (hΦ 5 (by decide)) (sc (hΦ 4 (by decide)) (sc (hΦ 3 (by decide)) (sc (hΦ 2 (by decide)) (sc (hΦ 1 (by decide)) (sc (hΦ 0 (by decide)) rfl))))));have Z6:=hb.size;have H1:=keep hb H1;obtain ⟨hB,zB⟩:=bon hb hB;refine kA (I (W ((D.aL a0)+(W (a0.nodes * 5))))) r rfl rfl fun r=>wn (wp_ret ?_);have hd:D.br a0=(W ((D.aL a0)+(W (a0.nodes * 5)))):=(aF h5).trans (rfl)
 refine bd r rfl rfl ?_;rw [hd];exact ⟨rfl,hB⟩
def D.bT (a0:Plan) (a1:Int) (a2:List Bound):Int:=(bif (!(D.cN a0)) then (-1) else (bif (!(D.cj a2)) then (-1) else a1))
theorem gq (w0:World) 
    (a0:Plan) (a1:Int) (a2:List Bound) {a2b:Nat} (a2h:w0.heap[a2b]?=some (.cells ((boundsC a2)).toArray 182 (0,0))) (pre0:a2.length≤8) :
    Calls Tryz.prog 94 #[.agg (aa a0).toArray,.int .i64 a1,.slice (some ⟨a2b,0,none⟩) a2.length a2.length] w0 (bw (.int .i64 (D.bT a0 a1 a2)) w0):=by
 refine kN Tryz.func94 rfl 16 rfl rfl fun fr r hB=>?_;have la2b:=lt_of_block a2h
 refine wsr ?_;refine kX 23 (.agg (aa a0).toArray) r rfl rfl fun b1 w2 n3 r=>?_;have a2h:=keep n3.below a2h
 obtain ⟨E1,Z2,H1,hB,zB⟩:=n3.all hB;refine kA (I 0) r rfl rfl fun r=>wn (wp_seq (wsr (kG (aa a0) 6 r rfl H1 ta23 rfl rfl fun r=>?_)));refine kE r (nH w2 a0) rfl qE rfl fun w4 hb r=>?_
 have Z4:=hb.size;have a2h:=keep hb a2h;have H1:=keep hb H1;obtain ⟨hB,zB⟩:=bon hb hB;refine ac (.bool (!(D.cN a0))) r (fun R=>y_un r (u:=(.bool (D.cN a0))) rfl rfl) rfl fun fr r=>kM (.bool (!(D.cN a0))) r rfl rfl fun r=>?_;refine bX (!(D.cN a0)) (fun h5=>?_) (fun h5=>?_)
 ·
  refine s0 r h5 fun fr r=>s0 r h5 fun fr r=>s0 r h5 fun fr r=>ac (.bool true) r (fun R=>aJ r (b:=true) (congrArg Value.bool h5) rfl) rfl fun fr r=>wn ?_;refine wp_cond_split (t:=true) (r.ev rfl) (fun _=>?_) (fun h=>absurd ((rfl:true=_).symm.trans h) (by decide))
  refine wsr (kA (I (-1)) r rfl rfl fun r=>wn (wp_ret ?_));have hd:D.bT a0 a1 a2=(-1):=(aC h5).trans (rfl)
  refine bd r rfl rfl ?_;rw [hd];exact ⟨rfl,hB⟩
 refine s1 r h5 (kM (.slice (some ⟨a2b,0,none⟩) a2.length a2.length) r rfl rfl fun r=>s1 r h5 ?_);refine kE r (oC w4 a2 a2h (by first | assumption | decide | (simp; done))) rfl ng rfl fun w6 hb r=>?_
 have Z6:=hb.size;have a2h:=keep hb a2h;have H1:=keep hb H1;obtain ⟨hB,zB⟩:=bon hb hB;refine s1 r h5 (ac (.bool (!(D.cj a2))) r (fun R=>y_un r (u:=(.bool (D.cj a2))) rfl rfl) rfl fun fr r=>ac (.bool (!(D.cj a2))) r (fun R=>aJ r (b:=false) (congrArg Value.bool h5) rfl) rfl fun fr r=>wn ?_);refine wp_cond_split (t:=(!(D.cj a2))) (r.ev rfl) (fun h7=>?_) (fun h7=>?_)
 ·
  refine wsr (kA (I (-1)) r rfl rfl fun r=>wn (wp_ret ?_));have hd:D.bT a0 a1 a2=(-1):=(aF h5).trans ((aC h7).trans (rfl))
  refine bd r rfl rfl ?_;rw [hd];exact ⟨rfl,hB⟩
 refine wp_skip (wsr (kM (I a1) r rfl rfl fun r=>kA (I a1) r rfl rfl fun r=>wn (wp_ret ?_)));have hd:D.bT a0 a1 a2=a1:=(aF h5).trans ((aF h7).trans (rfl))
 refine bd r rfl rfl ?_;rw [hd];exact ⟨rfl,hB⟩
theorem xw (w0:World) 
    (a0:Plan) (a1:Int) :
    Calls Tryz.prog 94 #[.agg (aa a0).toArray,.int .i64 a1,.slice none 0 0] w0 (bw (.int .i64 (D.bT a0 a1 ([]))) w0):=by
 refine kN Tryz.func94 rfl 16 rfl rfl fun fr r hB=>?_;refine wsr ?_
 refine kX 23 (.agg (aa a0).toArray) r rfl rfl fun b1 w2 n3 r=>?_;obtain ⟨E1,Z2,H1,hB,zB⟩:=n3.all hB
 refine kA (I 0) r rfl rfl fun r=>wn (wp_seq (wsr (kG (aa a0) 6 r rfl H1 ta23 rfl rfl fun r=>?_)));refine kE r (nH w2 a0) rfl qE rfl fun w4 hb r=>?_
 have Z4:=hb.size;have H1:=keep hb H1;obtain ⟨hB,zB⟩:=bon hb hB;refine ac (.bool (!(D.cN a0))) r (fun R=>y_un r (u:=(.bool (D.cN a0))) rfl rfl) rfl fun fr r=>kM (.bool (!(D.cN a0))) r rfl rfl fun r=>?_;refine bX (!(D.cN a0)) (fun h5=>?_) (fun h5=>?_)
 ·
  refine s0 r h5 fun fr r=>s0 r h5 fun fr r=>s0 r h5 fun fr r=>ac (.bool true) r (fun R=>aJ r (b:=true) (congrArg Value.bool h5) rfl) rfl fun fr r=>wn ?_;refine wp_cond_split (t:=true) (r.ev rfl) (fun _=>?_) (fun h=>absurd ((rfl:true=_).symm.trans h) (by decide))
  refine wsr (kA (I (-1)) r rfl rfl fun r=>wn (wp_ret ?_));have hd:D.bT a0 a1 []=(-1):=(aC h5).trans (rfl)
  refine bd r rfl rfl ?_;rw [hd];exact ⟨rfl,hB⟩
 refine s1 r h5 (kM (.slice none 0 0) r rfl rfl fun r=>s1 r h5 ?_);refine kE r (yu w4 ) rfl ng rfl fun w6 hb r=>?_
 have Z6:=hb.size;have H1:=keep hb H1;obtain ⟨hB,zB⟩:=bon hb hB;refine s1 r h5 (ac (.bool (!(D.cj ([])))) r (fun R=>y_un r (u:=(.bool (D.cj ([])))) rfl rfl) rfl fun fr r=>ac (.bool (!(D.cj ([])))) r (fun R=>aJ r (b:=false) (congrArg Value.bool h5) rfl) rfl fun fr r=>wn ?_);refine wp_cond_split (t:=(!(D.cj ([])))) (r.ev rfl) (fun h7=>?_) (fun h7=>?_)
 ·
  refine wsr (kA (I (-1)) r rfl rfl fun r=>wn (wp_ret ?_));have hd:D.bT a0 a1 []=(-1):=(aF h5).trans ((aC h7).trans (rfl))
  refine bd r rfl rfl ?_;rw [hd];exact ⟨rfl,hB⟩
 refine wp_skip (wsr (kM (I a1) r rfl rfl fun r=>kA (I a1) r rfl rfl fun r=>wn (wp_ret ?_)));have hd:D.bT a0 a1 []=a1:=(aF h5).trans ((aF h7).trans (rfl))
 refine bd r rfl rfl ?_;rw [hd];exact ⟨rfl,hB⟩
def D.cZ (a0:Plan):Int:=(D.bT a0 0 ([]))
theorem jm (w0:World) 
    (a0:Plan) :
    Calls Tryz.prog 142 #[.agg (aa a0).toArray] w0 (bw (.int .i64 (D.cZ a0)) w0):=by
 refine kN Tryz.func142 rfl 5 rfl rfl fun fr r hB=>?_;refine wsr ?_
 refine kX 23 (.agg (aa a0).toArray) r rfl rfl fun b1 w2 n3 r=>?_;obtain ⟨E1,Z2,H1,hB,zB⟩:=n3.all hB
 refine kA (I 0) r rfl rfl fun r=>wn (wsr (kG (aa a0) 6 r rfl H1 ta23 rfl rfl fun r=>?_));refine kE r (xw w2 a0 0) rfl cl94 rfl fun w4 hb r=>?_
 have Z4:=hb.size;have H1:=keep hb H1;obtain ⟨hB,zB⟩:=bon hb hB;refine kA (I (D.bT a0 0 ([]))) r rfl rfl fun r=>wn (wp_ret ?_);refine bd r rfl rfl ?_
 exact ⟨rfl,hB⟩
def D.cy (a0:Plan) (a1:Int):Bound:=(⟨a1,0,(IntKind.i64.wrap (a0.nodes - 1))⟩:Bound)
theorem o6 (w0:World) 
    (a0:Plan) (a1:Int) :
    Calls Tryz.prog 139 #[.agg (aa a0).toArray,.int .i64 a1] w0 (bw (.agg (bJ (D.cy a0 a1)).toArray) w0):=by
 refine kN Tryz.func139 rfl 10 rfl rfl fun fr r hB=>?_;refine wsr ?_
 refine kX 23 (.agg (aa a0).toArray) r rfl rfl fun b1 w2 n3 r=>?_;obtain ⟨E1,Z2,H1,hB,zB⟩:=n3.all hB
 refine ai (.cells ((bJ (⟨0,0,0⟩:Bound))).toArray 182 (0,0)) r (fun R=>ah qy) rfl fun fr b4 w5 n6 r=>?_;have H1:=keep n6.below H1
 obtain ⟨E4,Z5,H4,hB,zB⟩:=n6.all hB;refine wn (wsr (kM (I a1) r rfl rfl fun r=>kF 0 r rfl ga rfl fun r=>kL (I a0.nodes) r rfl H1 to3 rfl rfl fun r=>kB r rfl rfl rfl rfl rfl fun r=>kU (.agg (bJ (⟨a1,0,(W (a0.nodes - 1))⟩:Bound)).toArray) r (by kernel_rfl) rfl fun r=>?_));refine bi (.cells ((bJ (⟨a1,0,(W (a0.nodes - 1))⟩:Bound))).toArray 182 (0,0)) r (fun R=>aZ r (o:=0) (v:=(.agg (bJ (⟨a1,0,(W (a0.nodes - 1))⟩:Bound)).toArray)) rfl rfl H4 qm (Nat.le_of_ble_eq_true rfl) rfl rfl) rfl fun fr w7 u8 r=>?_
 have Z7:=u8.size;have H1:=u8.keep H1 (by omega)
 have H4:=u8.at_;obtain ⟨hB,zB⟩:=u8.on hB (by omega)
 refine wn (wp_ret ?_);refine aq r rfl rfl H4 (k:=3) rfl qg ?_;exact ⟨rfl,hB⟩
def D.dh (a0:Plan) (a1:Int):Int:=(D.bT a0 (IntKind.i64.wrap ((IntKind.i64.wrap ((D.aL a0)+(IntKind.i64.wrap (a1 * 5))))+1)) ([(D.cy a0 a1)]))
theorem ll (w0:World) 
    (a0:Plan) (a1:Int) :
    Calls Tryz.prog 143 #[.agg (aa a0).toArray,.int .i64 a1] w0 (bw (.int .i64 (D.dh a0 a1)) w0):=by
 refine kN Tryz.func143 rfl 17 rfl rfl fun fr r hB=>?_;refine wsr ?_
 refine kX 23 (.agg (aa a0).toArray) r rfl rfl fun b1 w2 n3 r=>?_;obtain ⟨E1,Z2,H1,hB,zB⟩:=n3.all hB
 refine kA (I 0) r rfl rfl fun r=>wn (wp_seq ?_);refine bH 12 [.val (.agg (aa a0).toArray),.val (.agg (aa a0).toArray),.val (I (D.aL a0)),.val (I a1),.val (I (W (a1 * 5))),.val (I (W ((D.aL a0)+(W (a1 * 5))))),.val (I (W ((W ((D.aL a0)+(W (a1 * 5))))+1))),.val (.agg (aa a0).toArray),.val (I a1),.val (.agg (bJ (D.cy a0 a1)).toArray),.slice w2.heap.size (.cells ((boundsC [(D.cy a0 a1)])).toArray 182 (0,0)) 1,.val (I (D.bT a0 (W ((W ((D.aL a0)+(W (a1 * 5))))+1)) ([(D.cy a0 a1)])))] mixed r (by kernel_rfl) (kV (kV (kV (kV (kV (kV (kV (kV (kV (kV (bZ (Nat.le_refl _) (kV bG)))))))))))) ?_ ?_
 ·
  refine ec r (fun _ u _ b d s=>aW s (cs:=(aa a0)) (n:=6) rfl (keep b H1) ta23 rfl bz) (ec r (fun _ u _ b d s=>aW s (cs:=(aa a0)) (n:=6) rfl (keep b H1) ta23 rfl bz) (ec r (fun fr1 u w' hb' hd r'=>aN r' (args:=[(.agg (aa a0).toArray)]) (lc hd.1 l0) mR ((lj _ a0).mono (by rintro _ w2 ⟨rfl,hb2⟩; exact ⟨_,rfl,hb2,rfl⟩))) (ec r (fun _ u _ b d s=>aj s rfl bz) (ec r (fun _ u _ b d s=>aP s d.1 rfl rfl rfl bz) (ec r (fun _ u _ b d s=>aP s d.1 d.2.1 rfl rfl bz) (ec r (fun _ u _ b d s=>aP s d.1 rfl rfl rfl bz) (ec r (fun _ u _ b d s=>aW s (cs:=(aa a0)) (n:=6) rfl (keep b H1) ta23 rfl bz) (ec r (fun _ u _ b d s=>aj s rfl bz) (ec r (fun fr1 u w' hb' hd r'=>aN r' (args:=[(.agg (aa a0).toArray),(I a1)]) (lc hd.1 (lc hd.2.1 l0)) qO ((o6 _ a0 a1).mono (by rintro _ w2 ⟨rfl,hb2⟩; exact ⟨_,rfl,hb2,rfl⟩))) (ec r (fun fr1 u w' hb' hd r'=>dB r' (c:=((boundsC [(D.cy a0 a1)])).toArray) (E:=182) (bs1 (congrArg (fun z=>(0,z)) hd.1) (by kernel_rfl)) (fun b w2 n2=>⟨n2.below,b,rfl,Nat.le_of_eq n2.eq.symm,n2.at_⟩)) ?_))))))))));refine cR r rfl (fun fr1 u w' hb' hd r'=>?_) ?_
  · obtain ⟨d0,d1,d2,d3,_⟩:=hd; obtain ⟨q2,hq2,_,hr2⟩:=d2; exact aN r' (args:=[(.agg (aa a0).toArray),(I (W ((W ((D.aL a0)+(W (a1 * 5))))+1))),(.slice (some ⟨q2,0,none⟩) 1 1)]) (lc d0 (lc d1 (lc hq2 l0))) cl94 ((gq _ a0 (W ((W ((D.aL a0)+(W (a1 * 5))))+1)) ([(D.cy a0 a1)]) hr2 (by first | assumption | decide | (simp; done))).mono (by rintro _ w2 ⟨rfl,hb2⟩; exact ⟨_,rfl,hb2,rfl⟩))
  exact bI
 intro fr u w4 hb hΦ hne r;obtain ⟨b5,g10,E5,H5⟩:=hΦ 10 (by decide);have l_b5:=lt_of_block H5;have r:=r.congr (sc (hΦ 11 (by decide)) (sc g10 (sc (hΦ 9 (by decide)) (sc (hΦ 8 (by decide)) (sc (hΦ 7 (by decide)) (sc (hΦ 6 (by decide)) (sc (hΦ 5 (by decide)) (sc (hΦ 4 (by decide)) (sc (hΦ 3 (by decide)) (sc (hΦ 2 (by decide)) (sc (hΦ 1 (by decide)) (sc (hΦ 0 (by decide)) rfl))))))))))));have Z4:=hb.size;have H1:=keep hb H1;obtain ⟨hB,zB⟩:=bon hb hB;refine kA (I (D.bT a0 (W ((W ((D.aL a0)+(W (a1 * 5))))+1)) ([(D.cy a0 a1)]))) r rfl rfl fun r=>wn (wp_ret ?_);refine bd r rfl rfl ?_
 exact ⟨rfl,hB⟩
def D.cG (a0:Plan) (a1:Int):Int:=(D.bT a0 (IntKind.i64.wrap ((D.aL a0)+(IntKind.i64.wrap (a1 * 5)))) ([(D.cy a0 a1)]))
theorem hH (w0:World) 
    (a0:Plan) (a1:Int) :
    Calls Tryz.prog 64 #[.agg (aa a0).toArray,.int .i64 a1] w0 (bw (.int .i64 (D.cG a0 a1)) w0):=by
 refine kN Tryz.func64 rfl 16 rfl rfl fun fr r hB=>?_;refine wsr ?_
 refine kX 23 (.agg (aa a0).toArray) r rfl rfl fun b1 w2 n3 r=>?_;obtain ⟨E1,Z2,H1,hB,zB⟩:=n3.all hB
 refine kA (I 0) r rfl rfl fun r=>wn (wp_seq ?_);refine bH 11 [.val (.agg (aa a0).toArray),.val (.agg (aa a0).toArray),.val (I (D.aL a0)),.val (I a1),.val (I (W (a1 * 5))),.val (I (W ((D.aL a0)+(W (a1 * 5))))),.val (.agg (aa a0).toArray),.val (I a1),.val (.agg (bJ (D.cy a0 a1)).toArray),.slice w2.heap.size (.cells ((boundsC [(D.cy a0 a1)])).toArray 182 (0,0)) 1,.val (I (D.bT a0 (W ((D.aL a0)+(W (a1 * 5)))) ([(D.cy a0 a1)])))] mixed r (by kernel_rfl) (kV (kV (kV (kV (kV (kV (kV (kV (kV (bZ (Nat.le_refl _) (kV bG))))))))))) ?_ ?_
 ·
  refine ec r (fun _ u _ b d s=>aW s (cs:=(aa a0)) (n:=6) rfl (keep b H1) ta23 rfl bz) (ec r (fun _ u _ b d s=>aW s (cs:=(aa a0)) (n:=6) rfl (keep b H1) ta23 rfl bz) (ec r (fun fr1 u w' hb' hd r'=>aN r' (args:=[(.agg (aa a0).toArray)]) (lc hd.1 l0) mR ((lj _ a0).mono (by rintro _ w2 ⟨rfl,hb2⟩; exact ⟨_,rfl,hb2,rfl⟩))) (ec r (fun _ u _ b d s=>aj s rfl bz) (ec r (fun _ u _ b d s=>aP s d.1 rfl rfl rfl bz) (ec r (fun _ u _ b d s=>aP s d.1 d.2.1 rfl rfl bz) (ec r (fun _ u _ b d s=>aW s (cs:=(aa a0)) (n:=6) rfl (keep b H1) ta23 rfl bz) (ec r (fun _ u _ b d s=>aj s rfl bz) (ec r (fun fr1 u w' hb' hd r'=>aN r' (args:=[(.agg (aa a0).toArray),(I a1)]) (lc hd.1 (lc hd.2.1 l0)) qO ((o6 _ a0 a1).mono (by rintro _ w2 ⟨rfl,hb2⟩; exact ⟨_,rfl,hb2,rfl⟩))) (ec r (fun fr1 u w' hb' hd r'=>dB r' (c:=((boundsC [(D.cy a0 a1)])).toArray) (E:=182) (bs1 (congrArg (fun z=>(0,z)) hd.1) (by kernel_rfl)) (fun b w2 n2=>⟨n2.below,b,rfl,Nat.le_of_eq n2.eq.symm,n2.at_⟩)) ?_)))))))));refine cR r rfl (fun fr1 u w' hb' hd r'=>?_) ?_
  · obtain ⟨d0,d1,d2,d3,_⟩:=hd; obtain ⟨q2,hq2,_,hr2⟩:=d2; exact aN r' (args:=[(.agg (aa a0).toArray),(I (W ((D.aL a0)+(W (a1 * 5))))),(.slice (some ⟨q2,0,none⟩) 1 1)]) (lc d0 (lc d1 (lc hq2 l0))) cl94 ((gq _ a0 (W ((D.aL a0)+(W (a1 * 5)))) ([(D.cy a0 a1)]) hr2 (by first | assumption | decide | (simp; done))).mono (by rintro _ w2 ⟨rfl,hb2⟩; exact ⟨_,rfl,hb2,rfl⟩))
  exact bI
 intro fr u w4 hb hΦ hne r;obtain ⟨b5,g9,E5,H5⟩:=hΦ 9 (by decide);have l_b5:=lt_of_block H5;have r:=r.congr (sc (hΦ 10 (by decide)) (sc g9 (sc (hΦ 8 (by decide)) (sc (hΦ 7 (by decide)) (sc (hΦ 6 (by decide)) (sc (hΦ 5 (by decide)) (sc (hΦ 4 (by decide)) (sc (hΦ 3 (by decide)) (sc (hΦ 2 (by decide)) (sc (hΦ 1 (by decide)) (sc (hΦ 0 (by decide)) rfl)))))))))));have Z4:=hb.size;have H1:=keep hb H1;obtain ⟨hB,zB⟩:=bon hb hB;refine kA (I (D.bT a0 (W ((D.aL a0)+(W (a1 * 5)))) ([(D.cy a0 a1)]))) r rfl rfl fun r=>wn (wp_ret ?_);refine bd r rfl rfl ?_
 exact ⟨rfl,hB⟩
def D.cx (a0:Plan) (a1:Int):Bound:=(⟨a1,0,(IntKind.i64.wrap (a0.threads - 1))⟩:Bound)
theorem nG (w0:World) 
    (a0:Plan) (a1:Int) :
    Calls Tryz.prog 147 #[.agg (aa a0).toArray,.int .i64 a1] w0 (bw (.agg (bJ (D.cx a0 a1)).toArray) w0):=by
 refine kN Tryz.func147 rfl 10 rfl rfl fun fr r hB=>?_;refine wsr ?_
 refine kX 23 (.agg (aa a0).toArray) r rfl rfl fun b1 w2 n3 r=>?_;obtain ⟨E1,Z2,H1,hB,zB⟩:=n3.all hB
 refine ai (.cells ((bJ (⟨0,0,0⟩:Bound))).toArray 182 (0,0)) r (fun R=>ah qy) rfl fun fr b4 w5 n6 r=>?_;have H1:=keep n6.below H1
 obtain ⟨E4,Z5,H4,hB,zB⟩:=n6.all hB;refine wn (wsr (kM (I a1) r rfl rfl fun r=>kF 0 r rfl iX rfl fun r=>kL (I a0.threads) r rfl H1 to3 rfl rfl fun r=>kB r rfl rfl rfl rfl rfl fun r=>kU (.agg (bJ (⟨a1,0,(W (a0.threads - 1))⟩:Bound)).toArray) r (by kernel_rfl) rfl fun r=>?_));refine bi (.cells ((bJ (⟨a1,0,(W (a0.threads - 1))⟩:Bound))).toArray 182 (0,0)) r (fun R=>aZ r (o:=0) (v:=(.agg (bJ (⟨a1,0,(W (a0.threads - 1))⟩:Bound)).toArray)) rfl rfl H4 qm (Nat.le_of_ble_eq_true rfl) rfl rfl) rfl fun fr w7 u8 r=>?_
 have Z7:=u8.size;have H1:=u8.keep H1 (by omega)
 have H4:=u8.at_;obtain ⟨hB,zB⟩:=u8.on hB (by omega)
 refine wn (wp_ret ?_);refine aq r rfl rfl H4 (k:=3) rfl qg ?_;exact ⟨rfl,hB⟩
def D.dw (a0:Plan) (a1:Int):Int:=(D.bT a0 (IntKind.i64.wrap ((D.cm a0)+(IntKind.i64.wrap (a1 * (IntKind.i64.wrap (1+a0.retire)))))) ([(D.cx a0 a1)]))
theorem ld (w0:World) 
    (a0:Plan) (a1:Int) :
    Calls Tryz.prog 144 #[.agg (aa a0).toArray,.int .i64 a1] w0 (bw (.int .i64 (D.dw a0 a1)) w0):=by
 refine kN Tryz.func144 rfl 19 rfl rfl fun fr r hB=>?_;refine wsr ?_
 refine kX 23 (.agg (aa a0).toArray) r rfl rfl fun b1 w2 n3 r=>?_;obtain ⟨E1,Z2,H1,hB,zB⟩:=n3.all hB
 refine kA (I 0) r rfl rfl fun r=>wn (wp_seq ?_);refine bH 14 [.val (.agg (aa a0).toArray),.val (.agg (aa a0).toArray),.val (I (D.cm a0)),.val (I a1),.val (.pointer (some ⟨b1,2,none⟩)),.val (I a0.retire),.val (I (W (1+a0.retire))),.val (I (W (a1 * (W (1+a0.retire))))),.val (I (W ((D.cm a0)+(W (a1 * (W (1+a0.retire))))))),.val (.agg (aa a0).toArray),.val (I a1),.val (.agg (bJ (D.cx a0 a1)).toArray),.slice w2.heap.size (.cells ((boundsC [(D.cx a0 a1)])).toArray 182 (0,0)) 1,.val (I (D.bT a0 (W ((D.cm a0)+(W (a1 * (W (1+a0.retire)))))) ([(D.cx a0 a1)])))] mixed r (by kernel_rfl) (kV (kV (kV (kV (kV (kV (kV (kV (kV (kV (kV (kV (bZ (Nat.le_refl _) (kV bG)))))))))))))) ?_ ?_
 ·
  refine ec r (fun _ u _ b d s=>aW s (cs:=(aa a0)) (n:=6) rfl (keep b H1) ta23 rfl bz) (ec r (fun _ u _ b d s=>aW s (cs:=(aa a0)) (n:=6) rfl (keep b H1) ta23 rfl bz) (ec r (fun fr1 u w' hb' hd r'=>aN r' (args:=[(.agg (aa a0).toArray)]) (lc hd.1 l0) qi ((nK _ a0).mono (by rintro _ w2 ⟨rfl,hb2⟩; exact ⟨_,rfl,hb2,rfl⟩))) (ec r (fun _ u _ b d s=>aj s rfl bz) (ec r (fun _ u _ b d s=>ax s (b:=b1) (o:=0) rfl gV bz) (ec r (fun _ u _ b d s=>av s d.1 (keep b H1) to3 rfl bz) (ec r (fun _ u _ b d s=>aP s rfl d.1 rfl rfl bz) (ec r (fun _ u _ b d s=>aP s d.1 d.2.1 rfl rfl bz) (ec r (fun _ u _ b d s=>aP s d.1 d.2.1 rfl rfl bz) (ec r (fun _ u _ b d s=>aW s (cs:=(aa a0)) (n:=6) rfl (keep b H1) ta23 rfl bz) (ec r (fun _ u _ b d s=>aj s rfl bz) (ec r (fun fr1 u w' hb' hd r'=>aN r' (args:=[(.agg (aa a0).toArray),(I a1)]) (lc hd.1 (lc hd.2.1 l0)) qG ((nG _ a0 a1).mono (by rintro _ w2 ⟨rfl,hb2⟩; exact ⟨_,rfl,hb2,rfl⟩))) (ec r (fun fr1 u w' hb' hd r'=>dB r' (c:=((boundsC [(D.cx a0 a1)])).toArray) (E:=182) (bs1 (congrArg (fun z=>(0,z)) hd.1) (by kernel_rfl)) (fun b w2 n2=>⟨n2.below,b,rfl,Nat.le_of_eq n2.eq.symm,n2.at_⟩)) ?_))))))))))));refine cR r rfl (fun fr1 u w' hb' hd r'=>?_) ?_
  · obtain ⟨d0,d1,d2,d3,_⟩:=hd; obtain ⟨q2,hq2,_,hr2⟩:=d2; exact aN r' (args:=[(.agg (aa a0).toArray),(I (W ((D.cm a0)+(W (a1 * (W (1+a0.retire))))))),(.slice (some ⟨q2,0,none⟩) 1 1)]) (lc d0 (lc d1 (lc hq2 l0))) cl94 ((gq _ a0 (W ((D.cm a0)+(W (a1 * (W (1+a0.retire)))))) ([(D.cx a0 a1)]) hr2 (by first | assumption | decide | (simp; done))).mono (by rintro _ w2 ⟨rfl,hb2⟩; exact ⟨_,rfl,hb2,rfl⟩))
  exact bI
 intro fr u w4 hb hΦ hne r;obtain ⟨b5,g12,E5,H5⟩:=hΦ 12 (by decide);have l_b5:=lt_of_block H5;have r:=r.congr (sc (hΦ 13 (by decide)) (sc g12 (sc (hΦ 11 (by decide)) (sc (hΦ 10 (by decide)) (sc (hΦ 9 (by decide)) (sc (hΦ 8 (by decide)) (sc (hΦ 7 (by decide)) (sc (hΦ 6 (by decide)) (sc (hΦ 5 (by decide)) (sc (hΦ 4 (by decide)) (sc (hΦ 3 (by decide)) (sc (hΦ 2 (by decide)) (sc (hΦ 1 (by decide)) (sc (hΦ 0 (by decide)) rfl))))))))))))));have Z4:=hb.size;have H1:=keep hb H1;obtain ⟨hB,zB⟩:=bon hb hB;refine kA (I (D.bT a0 (W ((D.cm a0)+(W (a1 * (W (1+a0.retire)))))) ([(D.cx a0 a1)]))) r rfl rfl fun r=>wn (wp_ret ?_);refine bd r rfl rfl ?_
 exact ⟨rfl,hB⟩
def D.cY (a0:Plan) (a1:Int) (a2:Int):Int:=(D.bT a0 (IntKind.i64.wrap ((IntKind.i64.wrap ((IntKind.i64.wrap ((D.cm a0)+(IntKind.i64.wrap (a1 * (IntKind.i64.wrap (1+a0.retire))))))+1))+a2)) ([(D.cx a0 a1),(⟨a2,0,(IntKind.i64.wrap (a0.retire - 1))⟩:Bound)]))
theorem l4 (w0:World) 
    (a0:Plan) (a1:Int) (a2:Int) :
    Calls Tryz.prog 145 #[.agg (aa a0).toArray,.int .i64 a1,.int .i64 a2] w0 (bw (.int .i64 (D.cY a0 a1 a2)) w0):=by
 refine kN Tryz.func145 rfl 29 rfl rfl fun fr r hB=>?_;refine wsr ?_
 refine kX 23 (.agg (aa a0).toArray) r rfl rfl fun b1 w2 n3 r=>?_;obtain ⟨E1,Z2,H1,hB,zB⟩:=n3.all hB
 refine kA (I 0) r rfl rfl fun r=>wn (wp_seq ?_);refine bH 22 [.val (.agg (aa a0).toArray),.val (.agg (aa a0).toArray),.val (I (D.cm a0)),.val (I a1),.val (.pointer (some ⟨b1,2,none⟩)),.val (I a0.retire),.val (I (W (1+a0.retire))),.val (I (W (a1 * (W (1+a0.retire))))),.val (I (W ((D.cm a0)+(W (a1 * (W (1+a0.retire))))))),.val (I (W ((W ((D.cm a0)+(W (a1 * (W (1+a0.retire))))))+1))),.val (I a2),.val (I (W ((W ((W ((D.cm a0)+(W (a1 * (W (1+a0.retire))))))+1))+a2))),.val (.agg (aa a0).toArray),.val (I a1),.val (.agg (bJ (D.cx a0 a1)).toArray),.val (I a2),.val (.pointer (some ⟨b1,2,none⟩)),.val (I a0.retire),.val (I (W (a0.retire - 1))),.val (.agg (bJ (⟨a2,0,(W (a0.retire - 1))⟩:Bound)).toArray),.slice w2.heap.size (.cells ((boundsC [(D.cx a0 a1),(⟨a2,0,(W (a0.retire - 1))⟩:Bound)])).toArray 182 (0,0)) 2,.val (I (D.bT a0 (W ((W ((W ((D.cm a0)+(W (a1 * (W (1+a0.retire))))))+1))+a2)) ([(D.cx a0 a1),(⟨a2,0,(W (a0.retire - 1))⟩:Bound)])))] mixed r (by kernel_rfl) (kV (kV (kV (kV (kV (kV (kV (kV (kV (kV (kV (kV (kV (kV (kV (kV (kV (kV (kV (kV (bZ (Nat.le_refl _) (kV bG)))))))))))))))))))))) ?_ ?_
 ·
  refine ec r (fun _ u _ b d s=>aW s (cs:=(aa a0)) (n:=6) rfl (keep b H1) ta23 rfl bz) (ec r (fun _ u _ b d s=>aW s (cs:=(aa a0)) (n:=6) rfl (keep b H1) ta23 rfl bz) (ec r (fun fr1 u w' hb' hd r'=>aN r' (args:=[(.agg (aa a0).toArray)]) (lc hd.1 l0) qi ((nK _ a0).mono (by rintro _ w2 ⟨rfl,hb2⟩; exact ⟨_,rfl,hb2,rfl⟩))) (ec r (fun _ u _ b d s=>aj s rfl bz) (ec r (fun _ u _ b d s=>ax s (b:=b1) (o:=0) rfl gV bz) (ec r (fun _ u _ b d s=>av s d.1 (keep b H1) to3 rfl bz) (ec r (fun _ u _ b d s=>aP s rfl d.1 rfl rfl bz) (ec r (fun _ u _ b d s=>aP s d.1 d.2.1 rfl rfl bz) (ec r (fun _ u _ b d s=>aP s d.1 d.2.1 rfl rfl bz) (ec r (fun _ u _ b d s=>aP s d.1 rfl rfl rfl bz) (ec r (fun _ u _ b d s=>aj s rfl bz) (ec r (fun _ u _ b d s=>aP s d.1 d.2.1 rfl rfl bz) (ec r (fun _ u _ b d s=>aW s (cs:=(aa a0)) (n:=6) rfl (keep b H1) ta23 rfl bz) (ec r (fun _ u _ b d s=>aj s rfl bz) (ec r (fun fr1 u w' hb' hd r'=>aN r' (args:=[(.agg (aa a0).toArray),(I a1)]) (lc hd.1 (lc hd.2.1 l0)) qG ((nG _ a0 a1).mono (by rintro _ w2 ⟨rfl,hb2⟩; exact ⟨_,rfl,hb2,rfl⟩))) (ec r (fun _ u _ b d s=>aj s rfl bz) (ec r (fun _ u _ b d s=>ax s (b:=b1) (o:=0) rfl gV bz) (ec r (fun _ u _ b d s=>av s d.1 (keep b H1) to3 rfl bz) (ec r (fun _ u _ b d s=>aP s d.1 rfl rfl rfl bz) (ec r (fun fr1 u w' hb' hd r'=>eF r' (v:=(.agg (bJ (⟨a2,0,(W (a0.retire - 1))⟩:Bound)).toArray)) (bs3 (congrArg (fun z=>(0,z)) hd.1) (rfl) (congrArg (fun z=>(2,z)) hd.2.1) (by kernel_rfl)) bz) (ec r (fun fr1 u w' hb' hd r'=>dB r' (c:=((boundsC [(D.cx a0 a1),(⟨a2,0,(W (a0.retire - 1))⟩:Bound)])).toArray) (E:=182) (bs2 (congrArg (fun z=>(0,z)) hd.1) (congrArg (fun z=>(1,z)) hd.2.1) (by kernel_rfl)) (fun b w2 n2=>⟨n2.below,b,rfl,Nat.le_of_eq n2.eq.symm,n2.at_⟩)) ?_))))))))))))))))))))
  refine cR r rfl (fun fr1 u w' hb' hd r'=>?_) ?_
  · obtain ⟨d0,d1,d2,d3,_⟩:=hd; obtain ⟨q2,hq2,_,hr2⟩:=d2; exact aN r' (args:=[(.agg (aa a0).toArray),(I (W ((W ((W ((D.cm a0)+(W (a1 * (W (1+a0.retire))))))+1))+a2))),(.slice (some ⟨q2,0,none⟩) 2 2)]) (lc d0 (lc d1 (lc hq2 l0))) cl94 ((gq _ a0 (W ((W ((W ((D.cm a0)+(W (a1 * (W (1+a0.retire))))))+1))+a2)) ([(D.cx a0 a1),(⟨a2,0,(W (a0.retire - 1))⟩:Bound)]) hr2 (by first | assumption | decide | (simp; done))).mono (by rintro _ w2 ⟨rfl,hb2⟩; exact ⟨_,rfl,hb2,rfl⟩))
  exact bI
 intro fr u w4 hb hΦ hne r;obtain ⟨b5,g20,E5,H5⟩:=hΦ 20 (by decide);have l_b5:=lt_of_block H5;have r:=r.congr (sc (hΦ 21 (by decide)) (sc g20 (sc (hΦ 19 (by decide)) (sc (hΦ 18 (by decide)) (sc (hΦ 17 (by decide)) (sc (hΦ 16 (by decide)) (sc (hΦ 15 (by decide)) (sc (hΦ 14 (by decide)) (sc (hΦ 13 (by decide)) (sc (hΦ 12 (by decide)) (sc (hΦ 11 (by decide)) (sc (hΦ 10 (by decide)) (sc (hΦ 9 (by decide)) (sc (hΦ 8 (by decide)) (sc (hΦ 7 (by decide)) (sc (hΦ 6 (by decide)) (sc (hΦ 5 (by decide)) (sc (hΦ 4 (by decide)) (sc (hΦ 3 (by decide)) (sc (hΦ 2 (by decide)) (sc (hΦ 1 (by decide)) (sc (hΦ 0 (by decide)) rfl))))))))))))))))))))));have Z4:=hb.size;have H1:=keep hb H1;obtain ⟨hB,zB⟩:=bon hb hB;refine kA (I (D.bT a0 (W ((W ((W ((D.cm a0)+(W (a1 * (W (1+a0.retire))))))+1))+a2)) ([(D.cx a0 a1),(⟨a2,0,(W (a0.retire - 1))⟩:Bound)]))) r rfl rfl fun r=>wn (wp_ret ?_);refine bd r rfl rfl ?_
 exact ⟨rfl,hB⟩
def D.eI (a0:Plan) (a1:Int) (a2:Int):Int:=(D.bT a0 (IntKind.i64.wrap ((IntKind.i64.wrap ((D.aH a0)+(IntKind.i64.wrap (a1 * 3))))+a2)) ([(D.cx a0 a1),(⟨a2,0,2⟩:Bound)]))
theorem rz (w0:World) 
    (a0:Plan) (a1:Int) (a2:Int) :
    Calls Tryz.prog 67 #[.agg (aa a0).toArray,.int .i64 a1,.int .i64 a2] w0 (bw (.int .i64 (D.eI a0 a1 a2)) w0):=by
 refine kN Tryz.func67 rfl 22 rfl rfl fun fr r hB=>?_;refine wsr ?_
 refine kX 23 (.agg (aa a0).toArray) r rfl rfl fun b1 w2 n3 r=>?_;obtain ⟨E1,Z2,H1,hB,zB⟩:=n3.all hB
 refine kA (I 0) r rfl rfl fun r=>wn (wp_seq ?_);refine bH 15 [.val (.agg (aa a0).toArray),.val (.agg (aa a0).toArray),.val (I (D.aH a0)),.val (I a1),.val (I (W (a1 * 3))),.val (I (W ((D.aH a0)+(W (a1 * 3))))),.val (I a2),.val (I (W ((W ((D.aH a0)+(W (a1 * 3))))+a2))),.val (.agg (aa a0).toArray),.val (I a1),.val (.agg (bJ (D.cx a0 a1)).toArray),.val (I a2),.val (.agg (bJ (⟨a2,0,2⟩:Bound)).toArray),.slice w2.heap.size (.cells ((boundsC [(D.cx a0 a1),(⟨a2,0,2⟩:Bound)])).toArray 182 (0,0)) 2,.val (I (D.bT a0 (W ((W ((D.aH a0)+(W (a1 * 3))))+a2)) ([(D.cx a0 a1),(⟨a2,0,2⟩:Bound)])))] mixed r (by kernel_rfl) (kV (kV (kV (kV (kV (kV (kV (kV (kV (kV (kV (kV (kV (bZ (Nat.le_refl _) (kV bG))))))))))))))) ?_ ?_
 ·
  refine ec r (fun _ u _ b d s=>aW s (cs:=(aa a0)) (n:=6) rfl (keep b H1) ta23 rfl bz) (ec r (fun _ u _ b d s=>aW s (cs:=(aa a0)) (n:=6) rfl (keep b H1) ta23 rfl bz) (ec r (fun fr1 u w' hb' hd r'=>aN r' (args:=[(.agg (aa a0).toArray)]) (lc hd.1 l0) wG ((rp _ a0).mono (by rintro _ w2 ⟨rfl,hb2⟩; exact ⟨_,rfl,hb2,rfl⟩))) (ec r (fun _ u _ b d s=>aj s rfl bz) (ec r (fun _ u _ b d s=>aP s d.1 rfl rfl rfl bz) (ec r (fun _ u _ b d s=>aP s d.1 d.2.1 rfl rfl bz) (ec r (fun _ u _ b d s=>aj s rfl bz) (ec r (fun _ u _ b d s=>aP s d.1 d.2.1 rfl rfl bz) (ec r (fun _ u _ b d s=>aW s (cs:=(aa a0)) (n:=6) rfl (keep b H1) ta23 rfl bz) (ec r (fun _ u _ b d s=>aj s rfl bz) (ec r (fun fr1 u w' hb' hd r'=>aN r' (args:=[(.agg (aa a0).toArray),(I a1)]) (lc hd.1 (lc hd.2.1 l0)) qG ((nG _ a0 a1).mono (by rintro _ w2 ⟨rfl,hb2⟩; exact ⟨_,rfl,hb2,rfl⟩))) (ec r (fun _ u _ b d s=>aj s rfl bz) (ec r (fun fr1 u w' hb' hd r'=>eF r' (v:=(.agg (bJ (⟨a2,0,2⟩:Bound)).toArray)) (bs3 (congrArg (fun z=>(0,z)) hd.1) (rfl) (rfl) (by kernel_rfl)) bz) (ec r (fun fr1 u w' hb' hd r'=>dB r' (c:=((boundsC [(D.cx a0 a1),(⟨a2,0,2⟩:Bound)])).toArray) (E:=182) (bs2 (congrArg (fun z=>(0,z)) hd.1) (congrArg (fun z=>(1,z)) hd.2.1) (by kernel_rfl)) (fun b w2 n2=>⟨n2.below,b,rfl,Nat.le_of_eq n2.eq.symm,n2.at_⟩)) ?_)))))))))))));refine cR r rfl (fun fr1 u w' hb' hd r'=>?_) ?_
  · obtain ⟨d0,d1,d2,d3,_⟩:=hd; obtain ⟨q2,hq2,_,hr2⟩:=d2; exact aN r' (args:=[(.agg (aa a0).toArray),(I (W ((W ((D.aH a0)+(W (a1 * 3))))+a2))),(.slice (some ⟨q2,0,none⟩) 2 2)]) (lc d0 (lc d1 (lc hq2 l0))) cl94 ((gq _ a0 (W ((W ((D.aH a0)+(W (a1 * 3))))+a2)) ([(D.cx a0 a1),(⟨a2,0,2⟩:Bound)]) hr2 (by first | assumption | decide | (simp; done))).mono (by rintro _ w2 ⟨rfl,hb2⟩; exact ⟨_,rfl,hb2,rfl⟩))
  exact bI
 intro fr u w4 hb hΦ hne r;obtain ⟨b5,g13,E5,H5⟩:=hΦ 13 (by decide);have l_b5:=lt_of_block H5;have r:=r.congr (sc (hΦ 14 (by decide)) (sc g13 (sc (hΦ 12 (by decide)) (sc (hΦ 11 (by decide)) (sc (hΦ 10 (by decide)) (sc (hΦ 9 (by decide)) (sc (hΦ 8 (by decide)) (sc (hΦ 7 (by decide)) (sc (hΦ 6 (by decide)) (sc (hΦ 5 (by decide)) (sc (hΦ 4 (by decide)) (sc (hΦ 3 (by decide)) (sc (hΦ 2 (by decide)) (sc (hΦ 1 (by decide)) (sc (hΦ 0 (by decide)) rfl)))))))))))))));have Z4:=hb.size;have H1:=keep hb H1;obtain ⟨hB,zB⟩:=bon hb hB;refine kA (I (D.bT a0 (W ((W ((D.aH a0)+(W (a1 * 3))))+a2)) ([(D.cx a0 a1),(⟨a2,0,2⟩:Bound)]))) r rfl rfl fun r=>wn (wp_ret ?_);refine bd r rfl rfl ?_
 exact ⟨rfl,hB⟩
def D.bf (a0:Plan) (a1:Int) (a2:Int):Int:=(D.bT a0 (IntKind.i64.wrap ((IntKind.i64.wrap ((IntKind.i64.wrap ((D.aL a0)+(IntKind.i64.wrap (a1 * 5))))+2))+a2)) ([(D.cy a0 a1),(⟨a2,0,2⟩:Bound)]))
theorem dJ (w0:World) 
    (a0:Plan) (a1:Int) (a2:Int) :
    Calls Tryz.prog 85 #[.agg (aa a0).toArray,.int .i64 a1,.int .i64 a2] w0 (bw (.int .i64 (D.bf a0 a1 a2)) w0):=by
 refine kN Tryz.func85 rfl 23 rfl rfl fun fr r hB=>?_;refine wsr ?_
 refine kX 23 (.agg (aa a0).toArray) r rfl rfl fun b1 w2 n3 r=>?_;obtain ⟨E1,Z2,H1,hB,zB⟩:=n3.all hB
 refine kA (I 0) r rfl rfl fun r=>wn (wp_seq ?_);refine bH 16 [.val (.agg (aa a0).toArray),.val (.agg (aa a0).toArray),.val (I (D.aL a0)),.val (I a1),.val (I (W (a1 * 5))),.val (I (W ((D.aL a0)+(W (a1 * 5))))),.val (I (W ((W ((D.aL a0)+(W (a1 * 5))))+2))),.val (I a2),.val (I (W ((W ((W ((D.aL a0)+(W (a1 * 5))))+2))+a2))),.val (.agg (aa a0).toArray),.val (I a1),.val (.agg (bJ (D.cy a0 a1)).toArray),.val (I a2),.val (.agg (bJ (⟨a2,0,2⟩:Bound)).toArray),.slice w2.heap.size (.cells ((boundsC [(D.cy a0 a1),(⟨a2,0,2⟩:Bound)])).toArray 182 (0,0)) 2,.val (I (D.bT a0 (W ((W ((W ((D.aL a0)+(W (a1 * 5))))+2))+a2)) ([(D.cy a0 a1),(⟨a2,0,2⟩:Bound)])))] mixed r (by kernel_rfl) (kV (kV (kV (kV (kV (kV (kV (kV (kV (kV (kV (kV (kV (kV (bZ (Nat.le_refl _) (kV bG)))))))))))))))) ?_ ?_
 ·
  refine ec r (fun _ u _ b d s=>aW s (cs:=(aa a0)) (n:=6) rfl (keep b H1) ta23 rfl bz) (ec r (fun _ u _ b d s=>aW s (cs:=(aa a0)) (n:=6) rfl (keep b H1) ta23 rfl bz) (ec r (fun fr1 u w' hb' hd r'=>aN r' (args:=[(.agg (aa a0).toArray)]) (lc hd.1 l0) mR ((lj _ a0).mono (by rintro _ w2 ⟨rfl,hb2⟩; exact ⟨_,rfl,hb2,rfl⟩))) (ec r (fun _ u _ b d s=>aj s rfl bz) (ec r (fun _ u _ b d s=>aP s d.1 rfl rfl rfl bz) (ec r (fun _ u _ b d s=>aP s d.1 d.2.1 rfl rfl bz) (ec r (fun _ u _ b d s=>aP s d.1 rfl rfl rfl bz) (ec r (fun _ u _ b d s=>aj s rfl bz) (ec r (fun _ u _ b d s=>aP s d.1 d.2.1 rfl rfl bz) (ec r (fun _ u _ b d s=>aW s (cs:=(aa a0)) (n:=6) rfl (keep b H1) ta23 rfl bz) (ec r (fun _ u _ b d s=>aj s rfl bz) (ec r (fun fr1 u w' hb' hd r'=>aN r' (args:=[(.agg (aa a0).toArray),(I a1)]) (lc hd.1 (lc hd.2.1 l0)) qO ((o6 _ a0 a1).mono (by rintro _ w2 ⟨rfl,hb2⟩; exact ⟨_,rfl,hb2,rfl⟩))) (ec r (fun _ u _ b d s=>aj s rfl bz) (ec r (fun fr1 u w' hb' hd r'=>eF r' (v:=(.agg (bJ (⟨a2,0,2⟩:Bound)).toArray)) (bs3 (congrArg (fun z=>(0,z)) hd.1) (rfl) (rfl) (by kernel_rfl)) bz) (ec r (fun fr1 u w' hb' hd r'=>dB r' (c:=((boundsC [(D.cy a0 a1),(⟨a2,0,2⟩:Bound)])).toArray) (E:=182) (bs2 (congrArg (fun z=>(0,z)) hd.1) (congrArg (fun z=>(1,z)) hd.2.1) (by kernel_rfl)) (fun b w2 n2=>⟨n2.below,b,rfl,Nat.le_of_eq n2.eq.symm,n2.at_⟩)) ?_))))))))))))));refine cR r rfl (fun fr1 u w' hb' hd r'=>?_) ?_
  · obtain ⟨d0,d1,d2,d3,_⟩:=hd; obtain ⟨q2,hq2,_,hr2⟩:=d2; exact aN r' (args:=[(.agg (aa a0).toArray),(I (W ((W ((W ((D.aL a0)+(W (a1 * 5))))+2))+a2))),(.slice (some ⟨q2,0,none⟩) 2 2)]) (lc d0 (lc d1 (lc hq2 l0))) cl94 ((gq _ a0 (W ((W ((W ((D.aL a0)+(W (a1 * 5))))+2))+a2)) ([(D.cy a0 a1),(⟨a2,0,2⟩:Bound)]) hr2 (by first | assumption | decide | (simp; done))).mono (by rintro _ w2 ⟨rfl,hb2⟩; exact ⟨_,rfl,hb2,rfl⟩))
  exact bI
 intro fr u w4 hb hΦ hne r;obtain ⟨b5,g14,E5,H5⟩:=hΦ 14 (by decide);have l_b5:=lt_of_block H5;have r:=r.congr (sc (hΦ 15 (by decide)) (sc g14 (sc (hΦ 13 (by decide)) (sc (hΦ 12 (by decide)) (sc (hΦ 11 (by decide)) (sc (hΦ 10 (by decide)) (sc (hΦ 9 (by decide)) (sc (hΦ 8 (by decide)) (sc (hΦ 7 (by decide)) (sc (hΦ 6 (by decide)) (sc (hΦ 5 (by decide)) (sc (hΦ 4 (by decide)) (sc (hΦ 3 (by decide)) (sc (hΦ 2 (by decide)) (sc (hΦ 1 (by decide)) (sc (hΦ 0 (by decide)) rfl))))))))))))))));have Z4:=hb.size;have H1:=keep hb H1;obtain ⟨hB,zB⟩:=bon hb hB;refine kA (I (D.bT a0 (W ((W ((W ((D.aL a0)+(W (a1 * 5))))+2))+a2)) ([(D.cy a0 a1),(⟨a2,0,2⟩:Bound)]))) r rfl rfl fun r=>wn (wp_ret ?_);refine bd r rfl rfl ?_
 exact ⟨rfl,hB⟩
def D.rq (a0:Plan):Bool:=(bif (decide (a0.nodes<1)) then false else (bif (decide (a0.nodes > 1048576)) then false else (bif (decide (a0.threads<1)) then false else (bif (decide (a0.threads > 16)) then false else (bif (decide (a0.domains<0)) then false else (bif (decide (a0.domains > 64)) then false else (bif (decide (a0.buckets≥1)) then (bif (decide (a0.buckets≤256)) then (bif (decide (a0.gen≥1)) then (bif (decide (a0.gen≤1073741823)) then (bif (decide (a0.retire > (IntKind.i64.wrap (3 * a0.threads)))) then (decide (a0.retire≤1024)) else false) else false) else false) else false) else false)))))))
def D.eK (a0:Plan) (a1:Int):Bound:=(⟨a1,0,(IntKind.i64.wrap (a0.domains - 1))⟩:Bound)
theorem ye (w0:World) 
    (a0:Plan) (a1:Int) :
    Calls Tryz.prog 96 #[.agg (aa a0).toArray,.int .i64 a1] w0 (bw (.agg (bJ (D.eK a0 a1)).toArray) w0):=by
 refine kN Tryz.func96 rfl 10 rfl rfl fun fr r hB=>?_;refine wsr ?_
 refine kX 23 (.agg (aa a0).toArray) r rfl rfl fun b1 w2 n3 r=>?_;obtain ⟨E1,Z2,H1,hB,zB⟩:=n3.all hB
 refine ai (.cells ((bJ (⟨0,0,0⟩:Bound))).toArray 182 (0,0)) r (fun R=>ah qy) rfl fun fr b4 w5 n6 r=>?_;have H1:=keep n6.below H1
 obtain ⟨E4,Z5,H4,hB,zB⟩:=n6.all hB;refine wn (wsr (kM (I a1) r rfl rfl fun r=>kF 0 r rfl pV rfl fun r=>kL (I a0.domains) r rfl H1 to3 rfl rfl fun r=>kB r rfl rfl rfl rfl rfl fun r=>kU (.agg (bJ (⟨a1,0,(W (a0.domains - 1))⟩:Bound)).toArray) r (by kernel_rfl) rfl fun r=>?_));refine bi (.cells ((bJ (⟨a1,0,(W (a0.domains - 1))⟩:Bound))).toArray 182 (0,0)) r (fun R=>aZ r (o:=0) (v:=(.agg (bJ (⟨a1,0,(W (a0.domains - 1))⟩:Bound)).toArray)) rfl rfl H4 qm (Nat.le_of_ble_eq_true rfl) rfl rfl) rfl fun fr w7 u8 r=>?_
 have Z7:=u8.size;have H1:=u8.keep H1 (by omega)
 have H4:=u8.at_;obtain ⟨hB,zB⟩:=u8.on hB (by omega)
 refine wn (wp_ret ?_);refine aq r rfl rfl H4 (k:=3) rfl qg ?_;exact ⟨rfl,hB⟩
def D.bE (a0:Plan) (a1:Int) (a2:Int):Int:=(D.bT a0 (IntKind.i64.wrap ((IntKind.i64.wrap (2+(IntKind.i64.wrap (a1 * (IntKind.i64.wrap (1+(D.bF a0)))))))+a2)) ([(D.eK a0 a1),(⟨a2,0,(IntKind.i64.wrap ((D.bF a0) - 1))⟩:Bound)]))
theorem nV (w0:World) 
    (a0:Plan) (a1:Int) (a2:Int) :
    Calls Tryz.prog 49 #[.agg (aa a0).toArray,.int .i64 a1,.int .i64 a2] w0 (bw (.int .i64 (D.bE a0 a1 a2)) w0):=by
 refine kN Tryz.func49 rfl 26 rfl rfl fun fr r hB=>?_;refine wsr ?_
 refine kX 23 (.agg (aa a0).toArray) r rfl rfl fun b1 w2 n3 r=>?_;obtain ⟨E1,Z2,H1,hB,zB⟩:=n3.all hB
 refine kA (I 0) r rfl rfl fun r=>wn (wp_seq ?_);refine bH 19 [.val (.agg (aa a0).toArray),.val (I a1),.val (.agg (aa a0).toArray),.val (I (D.bF a0)),.val (I (W (1+(D.bF a0)))),.val (I (W (a1 * (W (1+(D.bF a0)))))),.val (I (W (2+(W (a1 * (W (1+(D.bF a0)))))))),.val (I a2),.val (I (W ((W (2+(W (a1 * (W (1+(D.bF a0)))))))+a2))),.val (.agg (aa a0).toArray),.val (I a1),.val (.agg (bJ (D.eK a0 a1)).toArray),.val (I a2),.val (.agg (aa a0).toArray),.val (I (D.bF a0)),.val (I (W ((D.bF a0) - 1))),.val (.agg (bJ (⟨a2,0,(W ((D.bF a0) - 1))⟩:Bound)).toArray),.slice w2.heap.size (.cells ((boundsC [(D.eK a0 a1),(⟨a2,0,(W ((D.bF a0) - 1))⟩:Bound)])).toArray 182 (0,0)) 2,.val (I (D.bT a0 (W ((W (2+(W (a1 * (W (1+(D.bF a0)))))))+a2)) ([(D.eK a0 a1),(⟨a2,0,(W ((D.bF a0) - 1))⟩:Bound)])))] mixed r (by kernel_rfl) (kV (kV (kV (kV (kV (kV (kV (kV (kV (kV (kV (kV (kV (kV (kV (kV (kV (bZ (Nat.le_refl _) (kV bG))))))))))))))))))) ?_ ?_
 ·
  refine ec r (fun _ u _ b d s=>aW s (cs:=(aa a0)) (n:=6) rfl (keep b H1) ta23 rfl bz) (ec r (fun _ u _ b d s=>aj s rfl bz) (ec r (fun _ u _ b d s=>aW s (cs:=(aa a0)) (n:=6) rfl (keep b H1) ta23 rfl bz) (ec r (fun fr1 u w' hb' hd r'=>aN r' (args:=[(.agg (aa a0).toArray)]) (lc hd.1 l0) cl95 ((nS _ a0).mono (by rintro _ w2 ⟨rfl,hb2⟩; exact ⟨_,rfl,hb2,rfl⟩))) (ec r (fun _ u _ b d s=>aP s rfl d.1 rfl rfl bz) (ec r (fun _ u _ b d s=>aP s d.1 d.2.1 rfl rfl bz) (ec r (fun _ u _ b d s=>aP s rfl d.1 rfl rfl bz) (ec r (fun _ u _ b d s=>aj s rfl bz) (ec r (fun _ u _ b d s=>aP s d.1 d.2.1 rfl rfl bz) (ec r (fun _ u _ b d s=>aW s (cs:=(aa a0)) (n:=6) rfl (keep b H1) ta23 rfl bz) (ec r (fun _ u _ b d s=>aj s rfl bz) (ec r (fun fr1 u w' hb' hd r'=>aN r' (args:=[(.agg (aa a0).toArray),(I a1)]) (lc hd.1 (lc hd.2.1 l0)) cl96 ((ye _ a0 a1).mono (by rintro _ w2 ⟨rfl,hb2⟩; exact ⟨_,rfl,hb2,rfl⟩))) (ec r (fun _ u _ b d s=>aj s rfl bz) (ec r (fun _ u _ b d s=>aW s (cs:=(aa a0)) (n:=6) rfl (keep b H1) ta23 rfl bz) (ec r (fun fr1 u w' hb' hd r'=>aN r' (args:=[(.agg (aa a0).toArray)]) (lc hd.1 l0) cl95 ((nS _ a0).mono (by rintro _ w2 ⟨rfl,hb2⟩; exact ⟨_,rfl,hb2,rfl⟩))) (ec r (fun _ u _ b d s=>aP s d.1 rfl rfl rfl bz) (ec r (fun fr1 u w' hb' hd r'=>eF r' (v:=(.agg (bJ (⟨a2,0,(W ((D.bF a0) - 1))⟩:Bound)).toArray)) (bs3 (congrArg (fun z=>(0,z)) hd.1) (rfl) (congrArg (fun z=>(2,z)) hd.2.1) (by kernel_rfl)) bz) (ec r (fun fr1 u w' hb' hd r'=>dB r' (c:=((boundsC [(D.eK a0 a1),(⟨a2,0,(W ((D.bF a0) - 1))⟩:Bound)])).toArray) (E:=182) (bs2 (congrArg (fun z=>(0,z)) hd.1) (congrArg (fun z=>(1,z)) hd.2.1) (by kernel_rfl)) (fun b w2 n2=>⟨n2.below,b,rfl,Nat.le_of_eq n2.eq.symm,n2.at_⟩)) ?_)))))))))))))))))
  refine cR r rfl (fun fr1 u w' hb' hd r'=>?_) ?_
  · obtain ⟨d0,d1,d2,d3,_⟩:=hd; obtain ⟨q2,hq2,_,hr2⟩:=d2; exact aN r' (args:=[(.agg (aa a0).toArray),(I (W ((W (2+(W (a1 * (W (1+(D.bF a0)))))))+a2))),(.slice (some ⟨q2,0,none⟩) 2 2)]) (lc d0 (lc d1 (lc hq2 l0))) cl94 ((gq _ a0 (W ((W (2+(W (a1 * (W (1+(D.bF a0)))))))+a2)) ([(D.eK a0 a1),(⟨a2,0,(W ((D.bF a0) - 1))⟩:Bound)]) hr2 (by first | assumption | decide | (simp; done))).mono (by rintro _ w2 ⟨rfl,hb2⟩; exact ⟨_,rfl,hb2,rfl⟩))
  exact bI
 intro fr u w4 hb hΦ hne r;obtain ⟨b5,g17,E5,H5⟩:=hΦ 17 (by decide);have l_b5:=lt_of_block H5;have r:=r.congr (sc (hΦ 18 (by decide)) (sc g17 (sc (hΦ 16 (by decide)) (sc (hΦ 15 (by decide)) (sc (hΦ 14 (by decide)) (sc (hΦ 13 (by decide)) (sc (hΦ 12 (by decide)) (sc (hΦ 11 (by decide)) (sc (hΦ 10 (by decide)) (sc (hΦ 9 (by decide)) (sc (hΦ 8 (by decide)) (sc (hΦ 7 (by decide)) (sc (hΦ 6 (by decide)) (sc (hΦ 5 (by decide)) (sc (hΦ 4 (by decide)) (sc (hΦ 3 (by decide)) (sc (hΦ 2 (by decide)) (sc (hΦ 1 (by decide)) (sc (hΦ 0 (by decide)) rfl)))))))))))))))))));have Z4:=hb.size;have H1:=keep hb H1;obtain ⟨hB,zB⟩:=bon hb hB;refine kA (I (D.bT a0 (W ((W (2+(W (a1 * (W (1+(D.bF a0)))))))+a2)) ([(D.eK a0 a1),(⟨a2,0,(W ((D.bF a0) - 1))⟩:Bound)]))) r rfl rfl fun r=>wn (wp_ret ?_);refine bd r rfl rfl ?_
 exact ⟨rfl,hB⟩
end Go.Proofs.YtikjpdpgdmbdpaaGreat

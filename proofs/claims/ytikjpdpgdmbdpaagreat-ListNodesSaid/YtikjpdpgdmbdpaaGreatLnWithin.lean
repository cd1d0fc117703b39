/- Ours. -/
import Derived.Test.YtikjpdpgdmbdpaaGreatRows
import Derived.Test.YtikjpdpgdmbdpaaGreatLnM3
set_option linter.all false
namespace Go.Proofs.YtikjpdpgdmbdpaaGreat
open Go.RowKit
def D.zaQ (l:List Bound):Bool:=l.all fun b=>!(decide (b.n<b.least))&&!(decide (b.n > b.most))
theorem zlW {l:List Bound} {k:Nat} (h:k<l.length) (hb:l[k].n<l[k].least∨l[k].n > l[k].most):D.zaQ l=false:=by
  unfold D.zaQ;rw [List.all_eq_false];refine ⟨l[k],List.getElem_mem h,?_⟩
  rcases hb with hb | hb <;> simp [hb]
theorem zmv {l:List Bound} {k:Nat} (h:k<l.length) (hw:D.zaQ (l.take k)=true) (h1:¬ l[k].n<l[k].least) (h2:¬ l[k].n > l[k].most):D.zaQ (l.take (k+1))=true:=by
  unfold D.zaQ at *
  rw [List.take_succ_eq_append_getElem h,List.all_append,hw]
  simp only [List.all_cons,List.all_nil,Bool.true_and,Bool.and_true,Bool.and_eq_true,Bool.not_eq_true',decide_eq_false_iff_not]
  exact ⟨h1,h2⟩
theorem tsb:sized Tryz.prog 182 3:=kz
theorem tab:tyA Tryz.prog 182 3:=kz
theorem tib:tyO Tryz.prog 3:=kz
theorem isb:isSlice Tryz.prog 246:=kz
theorem slb:sliceTy Tryz.prog 246 3:=kz
theorem zb:zeroOf Tryz.prog 182=some (.agg #[.int .i64 0,.int .i64 0,.int .i64 0]):=kz
theorem fb0:zpm Tryz.prog 182 0 0:=kz
theorem fb1:zpm Tryz.prog 182 1 1:=kz
theorem fb2:zpm Tryz.prog 182 2 2:=kz
set_option maxRecDepth 20000 in
set_option maxHeartbeats 1000000 in
theorem zg4 (w0:World) (l:List Bound) {b:Nat} (hb:w0.heap[b]?=some (.cells (boundsC l).toArray 182 (0,0))) (hl:l.length≤8):Calls Tryz.prog 178 #[.slice (some ⟨b,0,none⟩) l.length l.length] w0 (zpt (.bool (D.zaQ l)) w0):=by
  refine enter (l:=[.slice (some ⟨b,0,none⟩) l.length l.length]) Tryz.func178 rfl 24 rfl rfl fun a0 r=>?_;refine wp_seq (wp_region_lit ?_)
  refine za0 (.bool false) r (fun R=>zbD r rfl) rfl fun a0 r=>wpList_nil ?_;refine wp_seq (wp_seq (wp_region_lit ?_))
  refine za0 (.slice (some ⟨b,0,none⟩) l.length l.length) r (fun R=>zav r rfl) rfl fun a0 r=>?_;refine za0 (.int .i64 l.length) r (fun R=>zqA r isb rfl) rfl fun a0 r=>?_
  refine za0 (.int .i64 0) r (fun R=>zav r rfl) rfl fun a0 r=>wpList_nil (wp_block ?_);refine zl9 (X:=Nat) (fun k=>[(5,.slice (some ⟨b,0,none⟩) l.length l.length),(6,.int .i64 l.length),(7,.int .i64 k)])
    (fun k w=>k≤l.length∧Below w0.heap.size w0 w∧D.zaQ (l.take k)=true) (fun k=>l.length - k) 0 r (zac rfl (zac rfl (zac rfl zaI))) ⟨kw,Below.refl _ _,by simp [D.zaQ]⟩ ?_
  rintro k a0 w g r ⟨hk,hB,hw⟩;have hbw:w.heap[b]?=some (.cells (boundsC l).toArray 182 (0,0)):=by rw [hB.block b (lt_of_block hb)]; exact hb
  refine wp_seq (wp_region_lit ?_);refine za0 (.bool (decide ((k:Int)<l.length))) r (fun R=>zpB r (u:=.int .i64 k) (u':=.int .i64 l.length) rfl rfl rfl rfl) rfl fun a0 r=>wpList_nil ?_;refine wp_seq (wp_cond_split (t:=decide ((k:Int)<l.length)) (r.ev rfl) (fun h=>?_) (fun h=>?_))
  · have hkl:k<l.length:=by simpa using h
    refine wp_skip ?_;refine wp_seq (wp_block ?_);refine wp_seq (wp_region_lit ?_);refine za0 (.pointer (some ⟨b,0+(k:Int).toNat * 3,none⟩)) r (fun R=>zeh r slb rfl rfl kw kw) rfl fun a0 r=>?_;refine za0 (.agg (zpG l[k]).toArray) r (fun R=>zag r (cs:=zpG l[k]) (n:=3) rfl hbw tab (by have:=znF (f:=zpG) (n:=3) (fun _=>rfl) l k hkl; simpa [boundsC] using this)) rfl fun a0 r=>?_
    refine za7 (.cells #[.int .i64 0,.int .i64 0,.int .i64 0] 182 (0,0)) r (fun R=>za6 zb) rfl fun a0 b1 w1 n1 r=>?_;have e1:=n1.eq
    have z1:=n1.size;have h1:=n1.at_;have zB:=hB.size;have hB:=hB.trans (n1.below.mono hB.size);refine zaS (.cells (zpG l[k]).toArray 182 (0,0)) r (fun R=>zaN r (v:=.agg (zpG l[k]).toArray) rfl rfl h1 tsb (Nat.le_of_ble_eq_true rfl) rfl rfl) rfl fun a0 w2 u2 r=>wpList_nil ?_;have z2:=u2.size
    have h2:=u2.at_;have hB:=u2.below hB kw
    refine wp_seq (wp_region_lit ?_);refine za0 (.pointer (some ⟨b1,0,none⟩)) r (fun R=>za3 r (o:=0) rfl fb0) rfl fun a0 r=>?_;refine za0 (.int .i64 l[k].n) r (fun R=>za4 r rfl h2 tib rfl) rfl fun a0 r=>?_
    refine za0 (.pointer (some ⟨b1,1,none⟩)) r (fun R=>za3 r (o:=0) rfl fb1) rfl fun a0 r=>?_;refine za0 (.int .i64 l[k].least) r (fun R=>za4 r rfl h2 tib rfl) rfl fun a0 r=>?_
    refine za0 (.bool (decide (l[k].n<l[k].least))) r (fun R=>zpB r (u:=.int .i64 l[k].n) (u':=.int .i64 l[k].least) rfl rfl rfl rfl) rfl fun a0 r=>?_;refine za0 (.bool (decide (l[k].n<l[k].least))) r (fun R=>zav r rfl) rfl fun a0 r=>?_
    have wi:IntKind.i64.wrap ((k:Int)+1)=((k+1:Nat):Int):=by
      have:IntKind.i64.wrap ((k:Int)+1)=(k:Int)+1:=by simp only [IntKind.wrap]; simp [IntKind.signed,IntKind.bits]; omega
      rw [this]; omega
    refine zaD (decide (l[k].n<l[k].least)) (fun h1=>?_) (fun h1=>?_)
    · have hn:=zlW hkl (.inl (of_decide_eq_true h1))
      refine zcF r rfl rfl rfl (v:=.bool true) (congrArg Value.bool h1) (by simp [zps]) fun a0 r=>?_;refine zcF r rfl rfl rfl (v:=.bool true) (congrArg Value.bool h1) (by simp [zps]) fun a0 r=>?_
      refine zcF r rfl rfl rfl (v:=.bool true) (congrArg Value.bool h1) (by simp [zps]) fun a0 r=>?_;refine zcF r rfl rfl rfl (v:=.bool true) (congrArg Value.bool h1) (by simp [zps]) fun a0 r=>?_
      refine zcF r rfl rfl rfl (v:=.bool true) (congrArg Value.bool h1) (by simp [zps]) fun a0 r=>?_;refine za0 (.bool true) r (fun R=>zam r (b:=true) (congrArg Value.bool h1) rfl) rfl fun a0 r=>wpList_nil ?_
      refine wp_cond_split (t:=true) (r.ev rfl) (fun _=>?_) (fun h=>by cases h)
      refine wp_seq (wp_region_lit ?_);refine za0 (.bool false) r (fun R=>zbD r rfl) rfl fun a0 r=>wpList_nil (wp_ret ?_);refine zay r rfl (v:=.bool false) rfl ?_
      rw [hn]
      exact ⟨rfl,hB⟩
    · refine zhk r rfl rfl rfl (congrArg Value.bool h1) ?_
      refine za0 (.pointer (some ⟨b1,0,none⟩)) r (fun R=>za3 r (o:=0) rfl fb0) rfl fun a0 r=>?_;refine zhk r rfl rfl rfl (congrArg Value.bool h1) ?_
      refine za0 (.int .i64 l[k].n) r (fun R=>za4 r rfl h2 tib rfl) rfl fun a0 r=>?_;refine zhk r rfl rfl rfl (congrArg Value.bool h1) ?_
      refine za0 (.pointer (some ⟨b1,2,none⟩)) r (fun R=>za3 r (o:=0) rfl fb2) rfl fun a0 r=>?_;refine zhk r rfl rfl rfl (congrArg Value.bool h1) ?_
      refine za0 (.int .i64 l[k].most) r (fun R=>za4 r rfl h2 tib rfl) rfl fun a0 r=>?_;refine zhk r rfl rfl rfl (congrArg Value.bool h1) ?_
      refine za0 (.bool (decide (l[k].n > l[k].most))) r (fun R=>zpB r (u:=.int .i64 l[k].n) (u':=.int .i64 l[k].most) rfl rfl rfl rfl) rfl fun a0 r=>?_;refine za0 (.bool (decide (l[k].n > l[k].most))) r (fun R=>zam r (b:=false) (congrArg Value.bool h1) rfl) rfl fun a0 r=>wpList_nil ?_
      refine wp_cond_split (t:=decide (l[k].n > l[k].most)) (r.ev rfl) (fun h2'=>?_) (fun h2'=>?_)
      · have hn:=zlW hkl (.inr (of_decide_eq_true h2'))
        refine wp_seq (wp_region_lit ?_);refine za0 (.bool false) r (fun R=>zbD r rfl) rfl fun a0 r=>wpList_nil (wp_ret ?_);refine zay r rfl (v:=.bool false) rfl ?_
        rw [hn]
        exact ⟨rfl,hB⟩
      · refine wp_skip ?_
        refine wp_region_lit ?_;refine za0 (.int .i64 ((k+1:Nat):Int)) r (fun R=>zpB r (u:=.int .i64 k) (u':=.int .i64 1) rfl rfl rfl (congrArg (fun z=>Result.ok (Value.int .i64 z) _) wi)) rfl fun a0 r=>?_;refine za0 (.int .i64 ((k+1:Nat):Int)) r (fun R=>zav r rfl) rfl fun a0 r=>wpList_nil ?_
        exact ⟨k+1,_,r,zac rfl (zac rfl (zac rfl zaI)),⟨hkl,hB,zmv hkl hw (of_decide_eq_false h1) (of_decide_eq_false h2')⟩,kw⟩
  · have hkl:k=l.length:=by have:=of_decide_eq_false h; omega
    subst hkl;refine wp_exit ?_;refine wp_seq (wp_region_lit ?_);refine za0 (.bool true) r (fun R=>zbD r rfl) rfl fun a0 r=>wpList_nil (wp_ret ?_);refine zay r rfl (v:=.bool true) rfl ?_
    rw [List.take_length] at hw
    rw [hw]
    exact ⟨rfl,hB⟩
set_option maxRecDepth 20000 in
set_option maxHeartbeats 1000000 in
theorem ziP (w0:World):Calls Tryz.prog 178 #[.slice none 0 0] w0 (zpt (.bool (D.zaQ [])) w0):=by
  refine enter (l:=[.slice none 0 0]) Tryz.func178 rfl 24 rfl rfl fun a0 r=>?_;refine wp_seq (wp_region_lit ?_)
  refine za0 (.bool false) r (fun R=>zbD r rfl) rfl fun a0 r=>wpList_nil ?_;refine wp_seq (wp_seq (wp_region_lit ?_))
  refine za0 (.slice none 0 0) r (fun R=>zav r rfl) rfl fun a0 r=>?_;refine za0 (.int .i64 ((0:Nat):Int)) r (fun R=>zqA r isb rfl) rfl fun a0 r=>?_
  refine za0 (.int .i64 0) r (fun R=>zav r rfl) rfl fun a0 r=>wpList_nil (wp_block ?_);refine zl9 (X:=Unit) (fun _=>[(6,.int .i64 ((0:Nat):Int)),(7,.int .i64 0)]) (fun _ w=>w=w0) (fun _=>0) () r (zac rfl (zac rfl zaI)) rfl ?_
  rintro _ a0 w g r rfl;refine wp_seq (wp_region_lit ?_);refine za0 (.bool (decide ((0:Int)<((0:Nat):Int)))) r (fun R=>zpB r (u:=.int .i64 0) (u':=.int .i64 ((0:Nat):Int)) rfl rfl rfl rfl) rfl fun a0 r=>wpList_nil ?_;refine wp_seq (wp_cond_split (t:=decide ((0:Int)<((0:Nat):Int))) (r.ev rfl) (fun h=>by cases h) (fun h=>?_))
  refine wp_exit ?_;refine wp_seq (wp_region_lit ?_);refine za0 (.bool true) r (fun R=>zbD r rfl) rfl fun a0 r=>wpList_nil (wp_ret ?_);refine zay r rfl (v:=.bool true) rfl ?_
  exact ⟨rfl,Below.refl _ _⟩
end Go.Proofs.YtikjpdpgdmbdpaaGreat

/- Ours. -/
import Derived.Test.YtikjpdpgdmbdpaaGreatLrM10
import Derived.Test.YtikjpdpgdmbdpaaGreatLrM23
set_option linter.all false
namespace Go.Proofs.YtikjpdpgdmbdpaaGreat
open Go.RowKit
set_option maxRecDepth 20000 in
set_option maxHeartbeats 20000000 in
theorem nL {fu:Nat} (w0:World) {a0v:Value} {a0F:List Nat} (a0:Nat × T Res) {a1g:MG} (a1:Mem) (a2:Cap) (hS:Sep [aW Tryz.prog aj a0 a0v a0F,memK a1g a1] w0) {res:(Nat × T Res) × Bool × Mem} (hD:D.jd fu a0 a1 a2=some res) :
    Calls Tryz.prog 27 #[a0v,zp a1g.mb,.agg (capC a2).toArray] w0 (fun e w'=>∃ (v0:Value) (F0:List Nat),e=.returned (.tuple #[v0,(.bool res.2.1)])∧Done (fun b=>b∈a0F∨b∈(memK a1g a1).own) No [memK a1g res.2.2,aW Tryz.prog aj res.1 v0 F0] w0 w'∧(res.2.1=false→v0=a0v∧res.1=a0)):=by
 refine enter Tryz.func27 rfl 28 rfl rfl fun fr r=>?_;have hP:Post (fun b=>b∈a0F∨b∈(memK a1g a1).own) [aW Tryz.prog aj a0 a0v a0F,memK a1g a1] w0 w0:=.start hS (by intro c hc b hb; rcases List.mem_cons.1 hc with rfl | hc; exact .inl hb; rcases List.mem_singleton.1 hc with rfl; exact .inr hb)
 unfold D.jd at hD
 refine wsr ?_;refine kX 57 a0v r rfl rfl fun b1 w2 n3 r=>?_;have hP:Post (fun b=>b∈a0F∨b∈(memK a1g a1).own) [aW Tryz.prog aj a0 a0v a0F,memK a1g a1,aa b1 a0v.cells 57] w0 w2:=hP.new n3
 refine kX 68 (.agg (capC a2).toArray) r rfl rfl fun b5 w6 n7 r=>?_;have hP:Post (fun b=>b∈a0F∨b∈(memK a1g a1).own) [aW Tryz.prog aj a0 a0v a0F,memK a1g a1,aa b1 a0v.cells 57,aa b5 ((capC a2)).toArray 68] w0 w6:=hP.new n7
 refine ai (.cells (af false aj.zero 0 0 0 0 .nilFunc) 57 (0,0)) r (fun R=>ah tz57) rfl fun fr b9 w10 n11 r=>?_;have hP:Post (fun b=>b∈a0F∨b∈(memK a1g a1).own) [aW Tryz.prog aj a0 a0v a0F,memK a1g a1,aa b1 a0v.cells 57,aa b5 ((capC a2)).toArray 68,aa b9 (af false aj.zero 0 0 0 0 .nilFunc) 57] w0 w10:=hP.new n11
 refine kA (.bool false) r rfl rfl fun r=>wn (wp_seq (wsr (ac _ r (fun R=>ax r (b:=b1) (o:=0) (k:=0) rfl qk) rfl fun fr r=>kL (.bool a0.2.bd) r rfl (hP.cell (i:=2) rfl) to4 (Rep.iT (hP.progz (i:=0) rfl)) rfl fun r=>wn ?_)));refine wp_cond_split (t:=a0.2.bd) (r.ev rfl) (fun h13=>?_) (fun h13=>?_)
 ·
  have hD:=(az h13).symm.trans hD;refine wsr (ac a0v r (fun R=>dP r (hP.progz (i:=0) rfl).shape rfl (hP.cell (i:=2) rfl) ta57) rfl fun fr r=>?_);refine kP r (hP.progz (i:=0) rfl).shape rfl rfl (hP.cell (i:=4) rfl) ts57 rfl rfl fun w14 u15 r=>?_
  have hP:Post (fun b=>b∈a0F∨b∈(memK a1g a1).own) [aW Tryz.prog aj a0 a0v a0F,memK a1g a1,aa b1 a0v.cells 57,aa b5 ((capC a2)).toArray 68,aa b9 a0v.cells 57] w0 w14:=hP.upd (i:=4) rfl u15
  refine kA (.bool false) r rfl rfl fun r=>wn (wp_ret ?_);have hv:(a0,false,a1)=res:=Option.some.inj hD
  try dsimp only [Exit.then,Exit.inBlock]
  have hs:=(hP.progz (i:=0) rfl).shape.cells;refine fk (fn:=Tryz.f27) r rfl rfl (v':=(.bool false)) rfl (hP.cell (i:=4) rfl) (k:=8) hs.1 ta57 ?_;rw [←hs.2.2];subst hv;exact ⟨a0v,a0F,rfl,(hP.pick [1,0] rfl rfl).done (cP rfl (cP rfl dl)),fun _=>⟨rfl,rfl⟩⟩
 have hD:=(aB h13).symm.trans hD;refine wp_skip (wsr (kM (zp a1g.mb) r rfl rfl fun r=>kG (capC a2) 2 r rfl (hP.cell (i:=3) rfl) ta68 rfl rfl fun r=>ac _ r (fun R=>ax r (b:=b1) (o:=0) (k:=3) rfl Dl) rfl fun fr r=>kG (ba (T.acc a0.2)) 4 r rfl (hP.cell (i:=2) rfl) ta38 (Rep.vL (hP.progz (i:=0) rfl) h13) rfl fun r=>?_));obtain ⟨x16,hx16,hD⟩:=aY hD
 refine kC r (su w10 a1 a2 (T.acc a0.2) (hP.sep.pk [1] rfl rfl) hx16) rfl cl86 rfl ?_;rintro _ w17 ⟨rfl,hq⟩;refine ⟨_,rfl,fun fr r=>?_⟩
 have hP:Post (fun b=>b∈a0F∨b∈(memK a1g a1).own) [aW Tryz.prog aj a0 a0v a0F,memK a1g x16.2.2,aa b1 a0v.cells 57,aa b5 ((capC a2)).toArray 68,aa b9 (af false aj.zero 0 0 0 0 .nilFunc) 57] w0 w17:=hP.setN (i:=1) rfl hq
 refine kM (.tuple #[(U x16.1),(.bool x16.2.1)]) r rfl rfl fun r=>ac (U x16.1) r (fun R=>bM r (vs:=#[(U x16.1),(.bool x16.2.1)]) rfl rfl) rfl fun fr r=>ac (.bool x16.2.1) r (fun R=>bM r (vs:=#[(U x16.1),(.bool x16.2.1)]) rfl rfl) rfl fun fr r=>kA (U x16.1) r rfl rfl fun r=>kA (.bool x16.2.1) r rfl rfl fun r=>wn (wp_seq (wsr (kM (.bool x16.2.1) r rfl rfl fun r=>ac (.bool (!x16.2.1)) r (fun R=>y_un r (u:=(.bool x16.2.1)) rfl rfl) rfl fun fr r=>wn ?_)));refine wp_cond_split (t:=(!x16.2.1)) (r.ev rfl) (fun h18=>?_) (fun h18=>?_)
 ·
  have hD:=(az h18).symm.trans hD;refine wsr (ac a0v r (fun R=>dP r (hP.progz (i:=0) rfl).shape rfl (hP.cell (i:=2) rfl) ta57) rfl fun fr r=>?_);refine kP r (hP.progz (i:=0) rfl).shape rfl rfl (hP.cell (i:=4) rfl) ts57 rfl rfl fun w19 u20 r=>?_
  have hP:Post (fun b=>b∈a0F∨b∈(memK a1g a1).own) [aW Tryz.prog aj a0 a0v a0F,memK a1g x16.2.2,aa b1 a0v.cells 57,aa b5 ((capC a2)).toArray 68,aa b9 a0v.cells 57] w0 w19:=hP.upd (i:=4) rfl u20
  refine kA (.bool false) r rfl rfl fun r=>wn (wp_ret ?_);have hv:(a0,false,x16.2.2)=res:=Option.some.inj hD
  try dsimp only [Exit.then,Exit.inBlock]
  have hs:=(hP.progz (i:=0) rfl).shape.cells;refine fk (fn:=Tryz.f27) r rfl rfl (v':=(.bool false)) rfl (hP.cell (i:=4) rfl) (k:=8) hs.1 ta57 ?_;rw [←hs.2.2];subst hv;exact ⟨a0v,a0F,rfl,(hP.pick [1,0] rfl rfl).done (cP rfl (cP rfl dl)),fun _=>⟨rfl,rfl⟩⟩
 have hD:=(aB h18).symm.trans hD;refine wp_skip (wsr (ac _ r (fun R=>ax r (b:=b1) (o:=0) (k:=7) rfl D1) rfl fun fr r=>?_));obtain ⟨nf21,n122,n223,hv24,hk25⟩:=RepL.pY (hP.progl (i:=0) rfl) h13
 refine kL (.func (.func nf21) n122.toArray n223.toArray) r rfl (hP.cell (i:=2) rfl) to55 hv24 rfl fun r=>kM (U x16.1) r rfl rfl fun r=>?_;obtain ⟨x26,hx26,hD⟩:=aY hD
 refine cA r (hk25.at_.2 x26 (by rw [ux hx26]; exact Nat.lt_succ_self _) x16.1 w17 (Same.refl _ _) (Nat.le_refl _)) (fun R hc=>dn r rfl rfl hk25.at_.1 hc) rfl ?_;rintro _ w27 ⟨v28,rfl,hb,hr29⟩
 refine ⟨_,rfl,fun fr r=>?_⟩
 have zw27:=hP.size;have hP:Post (fun b=>b∈a0F∨b∈(memK a1g a1).own) [aW Tryz.prog aj (x26,T.next a0.2 x16.1) v28 (a0F++rg w17.heap.size w27.heap.size),memK a1g x16.2.2,aa b1 a0v.cells 57,aa b5 ((capC a2)).toArray 68,aa b9 (af false aj.zero 0 0 0 0 .nilFunc) 57] w0 w27:=hP.callL (k:=0) rfl hb hr29
 refine kP r (hP.progz (i:=0) rfl).shape rfl rfl (hP.cell (i:=4) rfl) ts57 rfl rfl fun w31 u32 r=>?_;have hP:Post (fun b=>b∈a0F∨b∈(memK a1g a1).own) [aW Tryz.prog aj (x26,T.next a0.2 x16.1) v28 (a0F++rg w17.heap.size w27.heap.size),memK a1g x16.2.2,aa b1 a0v.cells 57,aa b5 ((capC a2)).toArray 68,aa b9 v28.cells 57] w0 w31:=hP.upd (i:=4) rfl u32
 refine kA (.bool true) r rfl rfl fun r=>wn (wp_ret ?_);have hv:((x26,T.next a0.2 x16.1),true,x16.2.2)=res:=Option.some.inj hD
 try dsimp only [Exit.then,Exit.inBlock]
 have hs:=(hP.progz (i:=0) rfl).shape.cells;refine fk (fn:=Tryz.f27) r rfl rfl (v':=(.bool true)) rfl (hP.cell (i:=4) rfl) (k:=8) hs.1 ta57 ?_;rw [←hs.2.2];subst hv;exact ⟨v28,(a0F++rg w17.heap.size w27.heap.size),rfl,(hP.pick [1,0] rfl rfl).done (cP rfl (cP rfl dl)),fun h=>by cases h⟩
set_option maxRecDepth 20000 in
set_option maxHeartbeats 20000000 in
theorem oo {fu:Nat} (w0:World) {a0v:Value} {a0F:List Nat} (a0:Nat × T Res) {a1g:MG} (a1:Mem) (a2:Cap) (a3:Int) (hS:Sep [aW Tryz.prog aj a0 a0v a0F,memK a1g a1] w0) {res:Res × Int × Bool × Mem} (hD:D.jC fu a0 a1 a2 a3=some res) :
    Calls Tryz.prog 37 #[a0v,zp a1g.mb,.agg (capC a2).toArray,.int .i64 a3] w0 (fun e w'=>e=.returned (.tuple #[(.agg (resC res.1).toArray),(.int .i64 res.2.1),(.bool res.2.2.1)])∧Done (fun b=>b∈a0F∨b∈(memK a1g a1).own) No [memK a1g res.2.2.2] w0 w'):=by
 refine enter Tryz.func37 rfl 39 rfl rfl fun fr r=>?_;have hP:Post (fun b=>b∈a0F∨b∈(memK a1g a1).own) [aW Tryz.prog aj a0 a0v a0F,memK a1g a1] w0 w0:=.start hS (by intro c hc b hb; rcases List.mem_cons.1 hc with rfl | hc; exact .inl hb; rcases List.mem_singleton.1 hc with rfl; exact .inr hb)
 unfold D.jC at hD
 refine wsr ?_;refine kX 57 a0v r rfl rfl fun b1 w2 n3 r=>?_;have hP:Post (fun b=>b∈a0F∨b∈(memK a1g a1).own) [aW Tryz.prog aj a0 a0v a0F,memK a1g a1,aa b1 a0v.cells 57] w0 w2:=hP.new n3
 refine kX 68 (.agg (capC a2).toArray) r rfl rfl fun b5 w6 n7 r=>?_;have hP:Post (fun b=>b∈a0F∨b∈(memK a1g a1).own) [aW Tryz.prog aj a0 a0v a0F,memK a1g a1,aa b1 a0v.cells 57,aa b5 ((capC a2)).toArray 68] w0 w6:=hP.new n7
 refine ai (.cells ((resC (⟨0,0⟩:Res))).toArray 54 (0,0)) r (fun R=>ah tz54) rfl fun fr b9 w10 n11 r=>?_;have hP:Post (fun b=>b∈a0F∨b∈(memK a1g a1).own) [aW Tryz.prog aj a0 a0v a0F,memK a1g a1,aa b1 a0v.cells 57,aa b5 ((capC a2)).toArray 68,aa b9 ((resC (⟨0,0⟩:Res))).toArray 54] w0 w10:=hP.new n11
 refine kA (I 0) r rfl rfl fun r=>kA (.bool false) r rfl rfl fun r=>wn (wsr (kA (I 0) r rfl rfl fun r=>wn (wp_seq ?_)));refine fA (X:=Int × Mem × (Nat × T Res)) (G:=Value × List Nat) (x0:=(0,a1,a0)) (fun x γ=>[(0,a0v),(1,(zp a1g.mb)),(2,(.agg (capC a2).toArray)),(3,(I a3)),(4,(zp b1)),(6,(zp b5)),(8,(zp b9)),(9,(I 0)),(10,(.bool false)),(11,(I x.1))]) (fun x γ w=>Post (fun b=>b∈a0F∨b∈(memK a1g a1).own) [aW Tryz.prog aj x.2.2 γ.1 γ.2,memK a1g x.2.1,aa b1 γ.1.cells 57,aa b5 ((capC a2)).toArray 68,aa b9 ((resC (⟨0,0⟩:Res))).toArray 54] w0 w) (a0v,a0F) r (kO (kO (aq rfl (aq rfl aN)))) hP hD ?_ ?_
 ·
  rintro x13 γ14 fr w16 g y15 RPy15 nxy15 bky15 rty15 r hP hD;have hP:Post (fun b=>b∈a0F∨b∈(memK a1g a1).own) [aW Tryz.prog aj x13.2.2 γ14.1 γ14.2,memK a1g x13.2.1,aa b1 γ14.1.cells 57,aa b5 ((capC a2)).toArray 68,aa b9 ((resC (⟨0,0⟩:Res))).toArray 54] w0 w16:=hP
  refine wp_seq (wp_seq ?_);refine cL (N:=39) (Y:=Bool) (G:=Unit) (fun x γ=>[(0,a0v),(1,(zp a1g.mb)),(2,(.agg (capC a2).toArray)),(3,(I a3)),(4,(zp b1)),(6,(zp b5)),(8,(zp b9)),(9,(I 0)),(10,(.bool false)),(11,(I x13.1)),(21,(.bool x))]) (fun x γ w=>Post (fun b=>b∈a0F∨b∈(memK a1g a1).own) [aW Tryz.prog aj x13.2.2 γ14.1 γ14.2,memK a1g x13.2.1,aa b1 γ14.1.cells 57,aa b5 ((capC a2)).toArray 68,aa b9 ((resC (⟨0,0⟩:Res))).toArray 54] w0 w) hD ?_ ?_
  ·
   rintro y17 RPy17 nxy17 hD;refine wp_region_lit (kM (I x13.1) r rfl rfl fun r=>kM (I a3) r rfl rfl fun r=>kB r rfl rfl rfl rfl rfl fun r=>kM (.bool (decide (x13.1<a3))) r rfl rfl fun r=>?_);refine bA (decide (x13.1<a3)) (fun h18=>?_) (fun h18=>?_)
   ·
    have hD:=(az h18).symm.trans hD;refine s1 r h18 (ac _ r (fun R=>ax r (b:=b1) (o:=0) (k:=0) rfl qk) rfl fun fr r=>s1 r h18 (kL (.bool x13.2.2.2.bd) r rfl (hP.cell (i:=2) rfl) to4 (Rep.iT (hP.progz (i:=0) rfl)) rfl fun r=>s1 r h18 (ac (.bool (!x13.2.2.2.bd)) r (fun R=>y_un r (u:=(.bool x13.2.2.2.bd)) rfl rfl) rfl fun fr r=>ac (.bool (!x13.2.2.2.bd)) r (fun R=>aw r (b:=true) (congrArg Value.bool h18) rfl) rfl fun fr r=>wn ?_)));exact nxy17 (!x13.2.2.2.bd) () _ _ _ hD r (kO (kO (aq rfl (aq rfl (aq rfl aN))))) (hP.pick [0,1,2,3,4] rfl rfl)
   have hD:=(aB h18).symm.trans hD;refine s0 r h18 fun fr r=>s0 r h18 fun fr r=>s0 r h18 fun fr r=>ac (.bool false) r (fun R=>aw r (b:=false) (congrArg Value.bool h18) rfl) rfl fun fr r=>wn ?_;exact nxy17 false () _ _ _ hD r (kO (kO (aq rfl (aq rfl (aq rfl aN))))) (hP.pick [0,1,2,3,4] rfl rfl)
  rintro x19 γ20 fr w21 g r hP hD;have hP:Post (fun b=>b∈a0F∨b∈(memK a1g a1).own) [aW Tryz.prog aj x13.2.2 γ14.1 γ14.2,memK a1g x13.2.1,aa b1 γ14.1.cells 57,aa b5 ((capC a2)).toArray 68,aa b9 ((resC (⟨0,0⟩:Res))).toArray 54] w0 w21:=hP
  refine wp_cond_split (t:=x19) (r.ev rfl) (fun h22=>?_) (fun h22=>?_)
  ·
   have hD:=(az h22).symm.trans hD;refine wp_skip (wp_block (wsr (ac γ14.1 r (fun R=>dP r (hP.progz (i:=0) rfl).shape rfl (hP.cell (i:=2) rfl) ta57) rfl fun fr r=>kM (zp a1g.mb) r rfl rfl fun r=>kG (capC a2) 2 r rfl (hP.cell (i:=3) rfl) ta68 rfl rfl fun r=>?_)));obtain ⟨x23,hx23,hD⟩:=aY hD
   have hsh:=(hP.progz (i:=0) rfl).shape.cells.1;refine kC r (nL w21 x13.2.2 x13.2.1 a2 (hP.sep.pk [0,1] rfl rfl) hx23) rfl cl27 rfl ?_;rintro _ w24 ⟨v25,F26,rfl,hq,hsame⟩;refine ⟨_,rfl,fun fr r=>?_⟩
   have hP:Post (fun b=>b∈a0F∨b∈(memK a1g a1).own) [aW Tryz.prog aj x23.1 v25 F26,memK a1g x23.2.2,aa b1 γ14.1.cells 57,aa b5 ((capC a2)).toArray 68,aa b9 ((resC (⟨0,0⟩:Res))).toArray 54] w0 w24:=(Post.frame (A:=[aa b1 γ14.1.cells 57,aa b5 ((capC a2)).toArray 68,aa b9 ((resC (⟨0,0⟩:Res))).toArray 54]) (B:=[aW Tryz.prog aj x13.2.2 γ14.1 γ14.2,memK a1g x13.2.1,]) (hP.pick [2,3,4,0,1] rfl rfl) hq (fun b hb=>hb.elim (fun h=>⟨_,List.mem_cons_self ..,h⟩) fun h=>⟨_,List.mem_cons_of_mem _ (List.mem_singleton.2 rfl),h⟩)).pick [4,3,0,1,2] rfl rfl
   refine kM (.tuple #[v25,(.bool x23.2.1)]) r rfl rfl fun r=>ac v25 r (fun R=>bM r (vs:=#[v25,(.bool x23.2.1)]) rfl rfl) rfl fun fr r=>ac (.bool x23.2.1) r (fun R=>bM r (vs:=#[v25,(.bool x23.2.1)]) rfl rfl) rfl fun fr r=>?_;refine ai (.cells (af false aj.zero 0 0 0 0 .nilFunc) 57 (0,0)) r (fun R=>ah tz57) rfl fun fr b28 w29 n30 r=>?_
   have hP:Post (fun b=>b∈a0F∨b∈(memK a1g a1).own) [aW Tryz.prog aj x23.1 v25 F26,memK a1g x23.2.2,aa b1 γ14.1.cells 57,aa b5 ((capC a2)).toArray 68,aa b9 ((resC (⟨0,0⟩:Res))).toArray 54,aa b28 (af false aj.zero 0 0 0 0 .nilFunc) 57] w0 w29:=hP.new n30
   refine kP r (hP.progz (i:=0) rfl).shape rfl rfl (hP.cell (i:=5) rfl) ts57 rfl rfl fun w32 u33 r=>?_;have hP:Post (fun b=>b∈a0F∨b∈(memK a1g a1).own) [aW Tryz.prog aj x23.1 v25 F26,memK a1g x23.2.2,aa b1 γ14.1.cells 57,aa b5 ((capC a2)).toArray 68,aa b9 ((resC (⟨0,0⟩:Res))).toArray 54,aa b28 v25.cells 57] w0 w32:=hP.upd (i:=5) rfl u33
   refine kA (.bool x23.2.1) r rfl rfl fun r=>wn (wp_seq (wsr (kM (.bool x23.2.1) r rfl rfl fun r=>ac (.bool (!x23.2.1)) r (fun R=>y_un r (u:=(.bool x23.2.1)) rfl rfl) rfl fun fr r=>wn ?_)));refine wp_cond_split (t:=(!x23.2.1)) (r.ev rfl) (fun h34=>?_) (fun h34=>?_)
   ·
    have hD:=(az h34).symm.trans hD;refine wp_exit ?_;obtain ⟨e1,e2⟩:=hsame (by simpa using h34)
    rw [e1,e2] at hP
    exact bky15 (x13.1,x23.2.2,x13.2.2) (γ14.1,F26) _ _ _ hD r (kO (kO (aq rfl (aq rfl aN)))) (hP.pick [0,1,2,3,4] rfl rfl)
   have hD:=(aB h34).symm.trans hD;refine wp_skip (wsr (ac v25 r (fun R=>dP r (hP.progz (i:=0) rfl).shape rfl (hP.cell (i:=5) rfl) ta57) rfl fun fr r=>?_));refine kP r (hP.progz (i:=0) rfl).shape rfl rfl (hP.cell (i:=2) rfl) ts57 (by have h:=hsh; simpa using h) rfl fun w35 u36 r=>?_
   have hP:Post (fun b=>b∈a0F∨b∈(memK a1g a1).own) [aW Tryz.prog aj x23.1 v25 F26,memK a1g x23.2.2,aa b1 v25.cells 57,aa b5 ((capC a2)).toArray 68,aa b9 ((resC (⟨0,0⟩:Res))).toArray 54,aa b28 v25.cells 57] w0 w35:=hP.upd (i:=2) rfl u36
   refine wn ?_;refine wp_region_lit (kM (I x13.1) r rfl rfl fun r=>kB r rfl rfl rfl rfl rfl fun r=>kA (I (W (x13.1+1))) r rfl rfl fun r=>wn ?_);exact nxy15 ((W (x13.1+1)),x23.2.2,x23.1) (v25,F26) _ _ _ hD r (kO (kO (aq rfl (aq rfl aN)))) (hP.pick [0,1,2,3,4] rfl rfl)
  have hD:=(aB h22).symm.trans hD;refine wp_exit ?_;exact bky15 (x13.1,x13.2.1,x13.2.2) (γ14.1,γ14.2) _ _ _ hD r (kO (kO (aq rfl (aq rfl aN)))) (hP.pick [0,1,2,3,4] rfl rfl)
 rintro x37 γ38 fr w39 g r hP hD;have hP:Post (fun b=>b∈a0F∨b∈(memK a1g a1).own) [aW Tryz.prog aj x37.2.2 γ38.1 γ38.2,memK a1g x37.2.1,aa b1 γ38.1.cells 57,aa b5 ((capC a2)).toArray 68,aa b9 ((resC (⟨0,0⟩:Res))).toArray 54] w0 w39:=hP
 refine wp_seq ?_;refine fY [b9] [.val (.pointer (some ⟨b1,1,none⟩)),.val (.agg (resC (T.res (⟨0,0⟩:Res) x37.2.2.2)).toArray),.val (I x37.1),.val (zp b1),.val (.bool x37.2.2.2.bd),.eff (EffP w39.heap.size (aa b9 ((resC (T.res (⟨0,0⟩:Res) x37.2.2.2))).toArray 54) (fun _:Unit=>undef) (fun _:Unit=>[])) (EffP.st _ _ _ _),.val (I x37.1),.val (.bool x37.2.2.2.bd)] mixed r (fun b hb=>hP.sep.lt (i:=4) rfl (.inl hb)) kz ?_ ?_
 ·
  refine bO r rfl kz (fun fr1 g w' hb' hd r'=>?_) ?_
  · exact ax r' (b:=b1) (o:=0) (k:=1) rfl Db ⟨Below.refl _ _,rfl⟩
  refine bO r rfl kz (fun fr1 g w' hb' hd r'=>?_) ?_
  · exact aS r' (cs:=(resC (T.res (⟨0,0⟩:Res) x37.2.2.2))) (n:=2) (hd 0 rfl).1 ((hP.below (dr hb')).cell (i:=2) rfl) ta54 (Rep.D3 (d:=(⟨0,0⟩:Res)) rfl ((hP.below (dr hb')).progz (i:=0) rfl)) ⟨Below.refl _ _,rfl⟩
  refine aF r rfl (fun fr1 g w' hk' hd r'=>?_) ?_
  · exact ay r' (v:=(I x37.1)) rfl ⟨Below.refl _ _,rfl⟩
  refine aF r rfl (fun fr1 g w' hk' hd r'=>?_) ?_
  · exact ax r' (b:=b1) (o:=0) (k:=0) rfl qk ⟨Below.refl _ _,rfl⟩
  refine aF r rfl (fun fr1 g w' hk' hd r'=>?_) ?_
  · exact av r' (v:=(.bool x37.2.2.2.bd)) (hd 3 rfl).1 (hP.cellK (j:=4) rfl (drK hk') (i:=2) rfl rfl) to4 (Rep.iT (RepL.zero (show RepL _ _ _ _ _ _ _ from hP.okK (j:=4) rfl (drK hk') (i:=0) rfl rfl))) ⟨Below.refl _ _,rfl⟩
  refine bO r rfl kz (fun fr1 g w' hb' hd r'=>?_) ?_
  · exact aT r' (o:=0) (v:=(.agg (resC (T.res (⟨0,0⟩:Res) x37.2.2.2)).toArray)) rfl (hd 1 rfl).1 ((hP.below (dr hb')).cell (i:=4) rfl) ts54 (Nat.le_of_ble_eq_true rfl) rfl rfl (fun w2 u2=>⟨u2.kept,(),rfl,u2.at_,(fun b hb=>hP.sep.lt (i:=4) rfl hb),pw⟩)
  refine aF r rfl (fun fr1 g w' hk' hd r'=>?_) ?_
  · exact cf r' (v:=(I x37.1)) (hd 2 rfl).1 ⟨Below.refl _ _,rfl⟩
  refine aF r rfl (fun fr1 g w' hk' hd r'=>?_) ?_
  · exact cf r' (v:=(.bool x37.2.2.2.bd)) (hd 4 rfl).1 ⟨Below.refl _ _,rfl⟩
  exact cc
 intro fr gg w40 hb hΦ hap r;obtain ⟨⟨⟩,g5,hcE,_,hs5⟩:=(hΦ 5 rfl).1;have r:=r.congr (sc ((hΦ 7 rfl).1) (sc ((hΦ 6 rfl).1) (sc ((hΦ 4 rfl).1) (sc ((hΦ 3 rfl).1) (sc ((hΦ 2 rfl).1) (sc ((hΦ 1 rfl).1) (sc ((hΦ 0 rfl).1) rfl)))))));have hP:Post (fun b=>b∈a0F∨b∈(memK a1g a1).own) [aW Tryz.prog aj x37.2.2 γ38.1 γ38.2,memK a1g x37.2.1,aa b1 γ38.1.cells 57,aa b5 ((capC a2)).toArray 68,aa b9 ((resC (T.res (⟨0,0⟩:Res) x37.2.2.2))).toArray 54] w0 w40:=hP.effL (i:=4) (l:=[]) rfl hb hcE rfl rfl trivial
 refine wp_ret ?_;have hv:((T.res (⟨0,0⟩:Res) x37.2.2.2),x37.1,x37.2.2.2.bd,x37.2.1)=res:=Option.some.inj hD
 try dsimp only [Exit.then,Exit.inBlock]
 refine sS (fn:=Tryz.f37) r rfl rfl (v':=(I x37.1)) (v2:=(.bool x37.2.2.2.bd)) rfl rfl (hP.cell (i:=4) rfl) (k:=2) rfl ta54 ?_;subst hv;exact ⟨rfl,(hP.pick [1] rfl rfl).done (cP rfl dl)⟩
end Go.Proofs.YtikjpdpgdmbdpaaGreat

/- Some of our texts, one behind the other. -/
import Derived.Test.YtikjpdpgdmbdpaaGreatLnM13
import Derived.Test.YtikjpdpgdmbdpaaGreatLnM25
import Derived.Test.YtikjpdpgdmbdpaaGreatLnM24
import Derived.Test.YtikjpdpgdmbdpaaGreatLnM18
import Derived.Test.YtikjpdpgdmbdpaaGreatLnM19
set_option linter.all false
/- Ours. -/
namespace Go.Proofs.YtikjpdpgdmbdpaaGreat
open Go.RowKit
set_option maxRecDepth 20000 in
set_option maxHeartbeats 20000000 in
theorem zgY {fu:Nat} (w0:World) {a0v:Value} {a0F:List Nat} (a0:Nat × T Res) {a1g:MG} (a1:Mem) (a2:Cap) (hS:Sep [zpM Tryz.prog zpj a0 a0v a0F,memK a1g a1] w0) {res:(Nat × T Res) × Bool × Mem} (hD:D.zdU fu a0 a1 a2=some res) :
    Calls Tryz.prog 27 #[a0v,zp a1g.mb,.agg (capC a2).toArray] w0 (fun e w'=>∃ (v0:Value) (F0:List Nat),e=.returned (.tuple #[v0,(.bool res.2.1)])∧Done (fun b=>b∈a0F∨b∈(memK a1g a1).own) No [memK a1g res.2.2,zpM Tryz.prog zpj res.1 v0 F0] w0 w'∧(res.2.1=false→v0=a0v∧res.1=a0)):=by
 refine enter Tryz.func27 rfl 28 rfl rfl fun fr r=>?_;have hP:Post (fun b=>b∈a0F∨b∈(memK a1g a1).own) [zpM Tryz.prog zpj a0 a0v a0F,memK a1g a1] w0 w0:=.start hS (by intro c hc b hb; rcases List.mem_cons.1 hc with rfl | hc; exact .inl hb; rcases List.mem_singleton.1 hc with rfl; exact .inr hb)
 unfold D.zdU at hD
 refine wsr ?_;refine kX 57 a0v r rfl rfl fun b1 w2 n3 r=>?_;have hP:Post (fun b=>b∈a0F∨b∈(memK a1g a1).own) [zpM Tryz.prog zpj a0 a0v a0F,memK a1g a1,zpg b1 a0v.cells 57] w0 w2:=hP.new n3
 refine kX 68 (.agg (capC a2).toArray) r rfl rfl fun b5 w6 n7 r=>?_;have hP:Post (fun b=>b∈a0F∨b∈(memK a1g a1).own) [zpM Tryz.prog zpj a0 a0v a0F,memK a1g a1,zpg b1 a0v.cells 57,zpg b5 ((capC a2)).toArray 68] w0 w6:=hP.new n7
 refine za7 (.cells (zpc false zpj.zero 0 0 0 0 .nilFunc) 57 (0,0)) r (fun R=>za6 tz57) rfl fun fr b9 w10 n11 r=>?_;have hP:Post (fun b=>b∈a0F∨b∈(memK a1g a1).own) [zpM Tryz.prog zpj a0 a0v a0F,memK a1g a1,zpg b1 a0v.cells 57,zpg b5 ((capC a2)).toArray 68,zpg b9 (zpc false zpj.zero 0 0 0 0 .nilFunc) 57] w0 w10:=hP.new n11
 refine kA (.bool false) r rfl rfl fun r=>wn (wp_seq (wsr (za0 _ r (fun R=>za3 r (b:=b1) (o:=0) (k:=0) rfl zng) rfl fun fr r=>kL (.bool a0.2.zpx) r rfl (hP.cell (i:=2) rfl) to4 (Rep.zj3 (hP.progz (i:=0) rfl)) rfl fun r=>wn ?_)));refine wp_cond_split (t:=a0.2.zpx) (r.ev rfl) (fun h13=>?_) (fun h13=>?_)
 ·
  have hD:=(zal h13).symm.trans hD;refine wsr (za0 a0v r (fun R=>zgO r (hP.progz (i:=0) rfl).shape rfl (hP.cell (i:=2) rfl) ta57) rfl fun fr r=>?_);refine kP r (hP.progz (i:=0) rfl).shape rfl rfl (hP.cell (i:=4) rfl) ts57 rfl rfl fun w14 u15 r=>?_
  have hP:Post (fun b=>b∈a0F∨b∈(memK a1g a1).own) [zpM Tryz.prog zpj a0 a0v a0F,memK a1g a1,zpg b1 a0v.cells 57,zpg b5 ((capC a2)).toArray 68,zpg b9 a0v.cells 57] w0 w14:=hP.upd (i:=4) rfl u15
  refine kA (.bool false) r rfl rfl fun r=>wn (wp_ret ?_);have hv:(a0,false,a1)=res:=Option.some.inj hD
  try dsimp only [Exit.then,Exit.inBlock]
  have hs:=(hP.progz (i:=0) rfl).shape.cells;refine zcb (fn:=Tryz.f27) r rfl rfl (v':=(.bool false)) rfl (hP.cell (i:=4) rfl) (k:=8) hs.1 ta57 ?_;rw [←hs.2.2];subst hv;exact ⟨a0v,a0F,rfl,(hP.pick [1,0] rfl rfl).done (zbv rfl (zbv rfl zc6)),fun _=>⟨rfl,rfl⟩⟩
 have hD:=(zaf h13).symm.trans hD;refine wp_skip (wsr (kM (zp a1g.mb) r rfl rfl fun r=>kG (capC a2) 2 r rfl (hP.cell (i:=3) rfl) ta68 rfl rfl fun r=>za0 _ r (fun R=>za3 r (b:=b1) (o:=0) (k:=3) rfl zp7) rfl fun fr r=>kG (zpq (T.acc a0.2)) 4 r rfl (hP.cell (i:=2) rfl) ta38 (Rep.zoj (hP.progz (i:=0) rfl) h13) rfl fun r=>?_));obtain ⟨x16,hx16,hD⟩:=zan hD
 refine kC r (zgN w10 a1 a2 (T.acc a0.2) (hP.sep.pk [1] rfl rfl) hx16) rfl cl86 rfl ?_;rintro _ w17 ⟨rfl,hq⟩;refine ⟨_,rfl,fun fr r=>?_⟩
 have hP:Post (fun b=>b∈a0F∨b∈(memK a1g a1).own) [zpM Tryz.prog zpj a0 a0v a0F,memK a1g x16.2.2,zpg b1 a0v.cells 57,zpg b5 ((capC a2)).toArray 68,zpg b9 (zpc false zpj.zero 0 0 0 0 .nilFunc) 57] w0 w17:=hP.setN (i:=1) rfl hq
 refine kM (.tuple #[(U x16.1),(.bool x16.2.1)]) r rfl rfl fun r=>za0 (U x16.1) r (fun R=>zb8 r (vs:=#[(U x16.1),(.bool x16.2.1)]) rfl rfl) rfl fun fr r=>za0 (.bool x16.2.1) r (fun R=>zb8 r (vs:=#[(U x16.1),(.bool x16.2.1)]) rfl rfl) rfl fun fr r=>kA (U x16.1) r rfl rfl fun r=>kA (.bool x16.2.1) r rfl rfl fun r=>wn (wp_seq (wsr (kM (.bool x16.2.1) r rfl rfl fun r=>za0 (.bool (!x16.2.1)) r (fun R=>y_un r (u:=(.bool x16.2.1)) rfl rfl) rfl fun fr r=>wn ?_)));refine wp_cond_split (t:=(!x16.2.1)) (r.ev rfl) (fun h18=>?_) (fun h18=>?_)
 ·
  have hD:=(zal h18).symm.trans hD;refine wsr (za0 a0v r (fun R=>zgO r (hP.progz (i:=0) rfl).shape rfl (hP.cell (i:=2) rfl) ta57) rfl fun fr r=>?_);refine kP r (hP.progz (i:=0) rfl).shape rfl rfl (hP.cell (i:=4) rfl) ts57 rfl rfl fun w19 u20 r=>?_
  have hP:Post (fun b=>b∈a0F∨b∈(memK a1g a1).own) [zpM Tryz.prog zpj a0 a0v a0F,memK a1g x16.2.2,zpg b1 a0v.cells 57,zpg b5 ((capC a2)).toArray 68,zpg b9 a0v.cells 57] w0 w19:=hP.upd (i:=4) rfl u20
  refine kA (.bool false) r rfl rfl fun r=>wn (wp_ret ?_);have hv:(a0,false,x16.2.2)=res:=Option.some.inj hD
  try dsimp only [Exit.then,Exit.inBlock]
  have hs:=(hP.progz (i:=0) rfl).shape.cells;refine zcb (fn:=Tryz.f27) r rfl rfl (v':=(.bool false)) rfl (hP.cell (i:=4) rfl) (k:=8) hs.1 ta57 ?_;rw [←hs.2.2];subst hv;exact ⟨a0v,a0F,rfl,(hP.pick [1,0] rfl rfl).done (zbv rfl (zbv rfl zc6)),fun _=>⟨rfl,rfl⟩⟩
 have hD:=(zaf h18).symm.trans hD;refine wp_skip (wsr (za0 _ r (fun R=>za3 r (b:=b1) (o:=0) (k:=7) rfl zp9) rfl fun fr r=>?_));obtain ⟨nf21,n122,n223,hv24,hk25⟩:=RepL.zma (hP.progl (i:=0) rfl) h13
 refine kL (.func (.func nf21) n122.toArray n223.toArray) r rfl (hP.cell (i:=2) rfl) to55 hv24 rfl fun r=>kM (U x16.1) r rfl rfl fun r=>?_;obtain ⟨x26,hx26,hD⟩:=zan hD
 refine zbx r (hk25.at_.2 x26 (by rw [zlS hx26]; exact Nat.lt_succ_self _) x16.1 w17 (Same.refl _ _) (Nat.le_refl _)) (fun R hc=>zcc r rfl rfl hk25.at_.1 hc) rfl ?_;rintro _ w27 ⟨v28,rfl,hb,hr29⟩
 refine ⟨_,rfl,fun fr r=>?_⟩
 have zw27:=hP.size;have hP:Post (fun b=>b∈a0F∨b∈(memK a1g a1).own) [zpM Tryz.prog zpj (x26,T.next a0.2 x16.1) v28 (a0F++rg w17.heap.size w27.heap.size),memK a1g x16.2.2,zpg b1 a0v.cells 57,zpg b5 ((capC a2)).toArray 68,zpg b9 (zpc false zpj.zero 0 0 0 0 .nilFunc) 57] w0 w27:=hP.callL (k:=0) rfl hb hr29
 refine kP r (hP.progz (i:=0) rfl).shape rfl rfl (hP.cell (i:=4) rfl) ts57 rfl rfl fun w31 u32 r=>?_;have hP:Post (fun b=>b∈a0F∨b∈(memK a1g a1).own) [zpM Tryz.prog zpj (x26,T.next a0.2 x16.1) v28 (a0F++rg w17.heap.size w27.heap.size),memK a1g x16.2.2,zpg b1 a0v.cells 57,zpg b5 ((capC a2)).toArray 68,zpg b9 v28.cells 57] w0 w31:=hP.upd (i:=4) rfl u32
 refine kA (.bool true) r rfl rfl fun r=>wn (wp_ret ?_);have hv:((x26,T.next a0.2 x16.1),true,x16.2.2)=res:=Option.some.inj hD
 try dsimp only [Exit.then,Exit.inBlock]
 have hs:=(hP.progz (i:=0) rfl).shape.cells;refine zcb (fn:=Tryz.f27) r rfl rfl (v':=(.bool true)) rfl (hP.cell (i:=4) rfl) (k:=8) hs.1 ta57 ?_;rw [←hs.2.2];subst hv;exact ⟨v28,(a0F++rg w17.heap.size w27.heap.size),rfl,(hP.pick [1,0] rfl rfl).done (zbv rfl (zbv rfl zc6)),fun h=>by cases h⟩
set_option maxRecDepth 20000 in
set_option maxHeartbeats 20000000 in
theorem zhb {fu:Nat} (w0:World) {a0v:Value} {a0F:List Nat} (a0:Nat × T Res) {a1g:MG} (a1:Mem) (a2:Cap) (a3:Int) (hS:Sep [zpM Tryz.prog zpj a0 a0v a0F,memK a1g a1] w0) {res:Res × Int × Bool × Mem} (hD:D.zez fu a0 a1 a2 a3=some res) :
    Calls Tryz.prog 37 #[a0v,zp a1g.mb,.agg (capC a2).toArray,.int .i64 a3] w0 (fun e w'=>e=.returned (.tuple #[(.agg (resC res.1).toArray),(.int .i64 res.2.1),(.bool res.2.2.1)])∧Done (fun b=>b∈a0F∨b∈(memK a1g a1).own) No [memK a1g res.2.2.2] w0 w'):=by
 refine enter Tryz.func37 rfl 39 rfl rfl fun fr r=>?_;have hP:Post (fun b=>b∈a0F∨b∈(memK a1g a1).own) [zpM Tryz.prog zpj a0 a0v a0F,memK a1g a1] w0 w0:=.start hS (by intro c hc b hb; rcases List.mem_cons.1 hc with rfl | hc; exact .inl hb; rcases List.mem_singleton.1 hc with rfl; exact .inr hb)
 unfold D.zez at hD
 refine wsr ?_;refine kX 57 a0v r rfl rfl fun b1 w2 n3 r=>?_;have hP:Post (fun b=>b∈a0F∨b∈(memK a1g a1).own) [zpM Tryz.prog zpj a0 a0v a0F,memK a1g a1,zpg b1 a0v.cells 57] w0 w2:=hP.new n3
 refine kX 68 (.agg (capC a2).toArray) r rfl rfl fun b5 w6 n7 r=>?_;have hP:Post (fun b=>b∈a0F∨b∈(memK a1g a1).own) [zpM Tryz.prog zpj a0 a0v a0F,memK a1g a1,zpg b1 a0v.cells 57,zpg b5 ((capC a2)).toArray 68] w0 w6:=hP.new n7
 refine za7 (.cells ((resC (⟨0,0⟩:Res))).toArray 54 (0,0)) r (fun R=>za6 tz54) rfl fun fr b9 w10 n11 r=>?_;have hP:Post (fun b=>b∈a0F∨b∈(memK a1g a1).own) [zpM Tryz.prog zpj a0 a0v a0F,memK a1g a1,zpg b1 a0v.cells 57,zpg b5 ((capC a2)).toArray 68,zpg b9 ((resC (⟨0,0⟩:Res))).toArray 54] w0 w10:=hP.new n11
 refine kA (I 0) r rfl rfl fun r=>kA (.bool false) r rfl rfl fun r=>wn (wsr (kA (I 0) r rfl rfl fun r=>wn (wp_seq ?_)));refine zd7 (X:=Int × Mem × (Nat × T Res)) (G:=Value × List Nat) (x0:=(0,a1,a0)) (fun x γ=>[(0,a0v),(1,(zp a1g.mb)),(2,(.agg (capC a2).toArray)),(3,(I a3)),(4,(zp b1)),(6,(zp b5)),(8,(zp b9)),(9,(I 0)),(10,(.bool false)),(11,(I x.1))]) (fun x γ w=>Post (fun b=>b∈a0F∨b∈(memK a1g a1).own) [zpM Tryz.prog zpj x.2.2 γ.1 γ.2,memK a1g x.2.1,zpg b1 γ.1.cells 57,zpg b5 ((capC a2)).toArray 68,zpg b9 ((resC (⟨0,0⟩:Res))).toArray 54] w0 w) (a0v,a0F) r (kO (kO (zac rfl (zac rfl zaI)))) hP hD ?_ ?_
 ·
  rintro x13 γ14 fr w16 g y15 RPy15 nxy15 bky15 rty15 r hP hD;have hP:Post (fun b=>b∈a0F∨b∈(memK a1g a1).own) [zpM Tryz.prog zpj x13.2.2 γ14.1 γ14.2,memK a1g x13.2.1,zpg b1 γ14.1.cells 57,zpg b5 ((capC a2)).toArray 68,zpg b9 ((resC (⟨0,0⟩:Res))).toArray 54] w0 w16:=hP
  refine wp_seq (wp_seq ?_);refine zbP (N:=39) (Y:=Bool) (G:=Unit) (fun x γ=>[(0,a0v),(1,(zp a1g.mb)),(2,(.agg (capC a2).toArray)),(3,(I a3)),(4,(zp b1)),(6,(zp b5)),(8,(zp b9)),(9,(I 0)),(10,(.bool false)),(11,(I x13.1)),(21,(.bool x))]) (fun x γ w=>Post (fun b=>b∈a0F∨b∈(memK a1g a1).own) [zpM Tryz.prog zpj x13.2.2 γ14.1 γ14.2,memK a1g x13.2.1,zpg b1 γ14.1.cells 57,zpg b5 ((capC a2)).toArray 68,zpg b9 ((resC (⟨0,0⟩:Res))).toArray 54] w0 w) hD ?_ ?_
  ·
   rintro y17 RPy17 nxy17 hD;refine wp_region_lit (kM (I x13.1) r rfl rfl fun r=>kM (I a3) r rfl rfl fun r=>kB r rfl rfl rfl rfl rfl fun r=>kM (.bool (decide (x13.1<a3))) r rfl rfl fun r=>?_);refine zaD (decide (x13.1<a3)) (fun h18=>?_) (fun h18=>?_)
   ·
    have hD:=(zal h18).symm.trans hD;refine s1 r h18 (za0 _ r (fun R=>za3 r (b:=b1) (o:=0) (k:=0) rfl zng) rfl fun fr r=>s1 r h18 (kL (.bool x13.2.2.2.zpx) r rfl (hP.cell (i:=2) rfl) to4 (Rep.zj3 (hP.progz (i:=0) rfl)) rfl fun r=>s1 r h18 (za0 (.bool (!x13.2.2.2.zpx)) r (fun R=>y_un r (u:=(.bool x13.2.2.2.zpx)) rfl rfl) rfl fun fr r=>za0 (.bool (!x13.2.2.2.zpx)) r (fun R=>zam r (b:=true) (congrArg Value.bool h18) rfl) rfl fun fr r=>wn ?_)));exact nxy17 (!x13.2.2.2.zpx) () _ _ _ hD r (kO (kO (zac rfl (zac rfl (zac rfl zaI))))) (hP.pick [0,1,2,3,4] rfl rfl)
   have hD:=(zaf h18).symm.trans hD;refine s0 r h18 fun fr r=>s0 r h18 fun fr r=>s0 r h18 fun fr r=>za0 (.bool false) r (fun R=>zam r (b:=false) (congrArg Value.bool h18) rfl) rfl fun fr r=>wn ?_;exact nxy17 false () _ _ _ hD r (kO (kO (zac rfl (zac rfl (zac rfl zaI))))) (hP.pick [0,1,2,3,4] rfl rfl)
  rintro x19 γ20 fr w21 g r hP hD;have hP:Post (fun b=>b∈a0F∨b∈(memK a1g a1).own) [zpM Tryz.prog zpj x13.2.2 γ14.1 γ14.2,memK a1g x13.2.1,zpg b1 γ14.1.cells 57,zpg b5 ((capC a2)).toArray 68,zpg b9 ((resC (⟨0,0⟩:Res))).toArray 54] w0 w21:=hP
  refine wp_cond_split (t:=x19) (r.ev rfl) (fun h22=>?_) (fun h22=>?_)
  ·
   have hD:=(zal h22).symm.trans hD;refine wp_skip (wp_block (wsr (za0 γ14.1 r (fun R=>zgO r (hP.progz (i:=0) rfl).shape rfl (hP.cell (i:=2) rfl) ta57) rfl fun fr r=>kM (zp a1g.mb) r rfl rfl fun r=>kG (capC a2) 2 r rfl (hP.cell (i:=3) rfl) ta68 rfl rfl fun r=>?_)));obtain ⟨x23,hx23,hD⟩:=zan hD
   have hsh:=(hP.progz (i:=0) rfl).shape.cells.1;refine kC r (zgY w21 x13.2.2 x13.2.1 a2 (hP.sep.pk [0,1] rfl rfl) hx23) rfl cl27 rfl ?_;rintro _ w24 ⟨v25,F26,rfl,hq,hsame⟩;refine ⟨_,rfl,fun fr r=>?_⟩
   have hP:Post (fun b=>b∈a0F∨b∈(memK a1g a1).own) [zpM Tryz.prog zpj x23.1 v25 F26,memK a1g x23.2.2,zpg b1 γ14.1.cells 57,zpg b5 ((capC a2)).toArray 68,zpg b9 ((resC (⟨0,0⟩:Res))).toArray 54] w0 w24:=(Post.frame (A:=[zpg b1 γ14.1.cells 57,zpg b5 ((capC a2)).toArray 68,zpg b9 ((resC (⟨0,0⟩:Res))).toArray 54]) (B:=[zpM Tryz.prog zpj x13.2.2 γ14.1 γ14.2,memK a1g x13.2.1,]) (hP.pick [2,3,4,0,1] rfl rfl) hq (fun b hb=>hb.elim (fun h=>⟨_,List.mem_cons_self ..,h⟩) fun h=>⟨_,List.mem_cons_of_mem _ (List.mem_singleton.2 rfl),h⟩)).pick [4,3,0,1,2] rfl rfl
   refine kM (.tuple #[v25,(.bool x23.2.1)]) r rfl rfl fun r=>za0 v25 r (fun R=>zb8 r (vs:=#[v25,(.bool x23.2.1)]) rfl rfl) rfl fun fr r=>za0 (.bool x23.2.1) r (fun R=>zb8 r (vs:=#[v25,(.bool x23.2.1)]) rfl rfl) rfl fun fr r=>?_;refine za7 (.cells (zpc false zpj.zero 0 0 0 0 .nilFunc) 57 (0,0)) r (fun R=>za6 tz57) rfl fun fr b28 w29 n30 r=>?_
   have hP:Post (fun b=>b∈a0F∨b∈(memK a1g a1).own) [zpM Tryz.prog zpj x23.1 v25 F26,memK a1g x23.2.2,zpg b1 γ14.1.cells 57,zpg b5 ((capC a2)).toArray 68,zpg b9 ((resC (⟨0,0⟩:Res))).toArray 54,zpg b28 (zpc false zpj.zero 0 0 0 0 .nilFunc) 57] w0 w29:=hP.new n30
   refine kP r (hP.progz (i:=0) rfl).shape rfl rfl (hP.cell (i:=5) rfl) ts57 rfl rfl fun w32 u33 r=>?_;have hP:Post (fun b=>b∈a0F∨b∈(memK a1g a1).own) [zpM Tryz.prog zpj x23.1 v25 F26,memK a1g x23.2.2,zpg b1 γ14.1.cells 57,zpg b5 ((capC a2)).toArray 68,zpg b9 ((resC (⟨0,0⟩:Res))).toArray 54,zpg b28 v25.cells 57] w0 w32:=hP.upd (i:=5) rfl u33
   refine kA (.bool x23.2.1) r rfl rfl fun r=>wn (wp_seq (wsr (kM (.bool x23.2.1) r rfl rfl fun r=>za0 (.bool (!x23.2.1)) r (fun R=>y_un r (u:=(.bool x23.2.1)) rfl rfl) rfl fun fr r=>wn ?_)));refine wp_cond_split (t:=(!x23.2.1)) (r.ev rfl) (fun h34=>?_) (fun h34=>?_)
   ·
    have hD:=(zal h34).symm.trans hD;refine wp_exit ?_;obtain ⟨e1,e2⟩:=hsame (by simpa using h34)
    rw [e1,e2] at hP
    exact bky15 (x13.1,x23.2.2,x13.2.2) (γ14.1,F26) _ _ _ hD r (kO (kO (zac rfl (zac rfl zaI)))) (hP.pick [0,1,2,3,4] rfl rfl)
   have hD:=(zaf h34).symm.trans hD;refine wp_skip (wsr (za0 v25 r (fun R=>zgO r (hP.progz (i:=0) rfl).shape rfl (hP.cell (i:=5) rfl) ta57) rfl fun fr r=>?_));refine kP r (hP.progz (i:=0) rfl).shape rfl rfl (hP.cell (i:=2) rfl) ts57 (by have h:=hsh; simpa using h) rfl fun w35 u36 r=>?_
   have hP:Post (fun b=>b∈a0F∨b∈(memK a1g a1).own) [zpM Tryz.prog zpj x23.1 v25 F26,memK a1g x23.2.2,zpg b1 v25.cells 57,zpg b5 ((capC a2)).toArray 68,zpg b9 ((resC (⟨0,0⟩:Res))).toArray 54,zpg b28 v25.cells 57] w0 w35:=hP.upd (i:=2) rfl u36
   refine wn ?_;refine wp_region_lit (kM (I x13.1) r rfl rfl fun r=>kB r rfl rfl rfl rfl rfl fun r=>kA (I (W (x13.1+1))) r rfl rfl fun r=>wn ?_);exact nxy15 ((W (x13.1+1)),x23.2.2,x23.1) (v25,F26) _ _ _ hD r (kO (kO (zac rfl (zac rfl zaI)))) (hP.pick [0,1,2,3,4] rfl rfl)
  have hD:=(zaf h22).symm.trans hD;refine wp_exit ?_;exact bky15 (x13.1,x13.2.1,x13.2.2) (γ14.1,γ14.2) _ _ _ hD r (kO (kO (zac rfl (zac rfl zaI)))) (hP.pick [0,1,2,3,4] rfl rfl)
 rintro x37 γ38 fr w39 g r hP hD;have hP:Post (fun b=>b∈a0F∨b∈(memK a1g a1).own) [zpM Tryz.prog zpj x37.2.2 γ38.1 γ38.2,memK a1g x37.2.1,zpg b1 γ38.1.cells 57,zpg b5 ((capC a2)).toArray 68,zpg b9 ((resC (⟨0,0⟩:Res))).toArray 54] w0 w39:=hP
 refine wp_seq ?_;refine zjI [b9] [.val (.pointer (some ⟨b1,1,none⟩)),.val (.agg (resC (T.res (⟨0,0⟩:Res) x37.2.2.2)).toArray),.val (I x37.1),.val (zp b1),.val (.bool x37.2.2.2.zpx),.eff (EffP w39.heap.size (zpg b9 ((resC (T.res (⟨0,0⟩:Res) x37.2.2.2))).toArray 54) (fun _:Unit=>undef) (fun _:Unit=>[])) (EffP.st _ _ _ _),.val (I x37.1),.val (.bool x37.2.2.2.zpx)] mixed r (fun b hb=>hP.sep.lt (i:=4) rfl (.inl hb)) kz ?_ ?_
 ·
  refine zbb r rfl kz (fun fr1 g w' hb' hd r'=>?_) ?_
  · exact za3 r' (b:=b1) (o:=0) (k:=1) rfl zp3 ⟨Below.refl _ _,rfl⟩
  refine zbb r rfl kz (fun fr1 g w' hb' hd r'=>?_) ?_
  · exact zag r' (cs:=(resC (T.res (⟨0,0⟩:Res) x37.2.2.2))) (n:=2) (hd 0 rfl).1 ((hP.below (dr hb')).cell (i:=2) rfl) ta54 (Rep.zp8 (d:=(⟨0,0⟩:Res)) rfl ((hP.below (dr hb')).progz (i:=0) rfl)) ⟨Below.refl _ _,rfl⟩
  refine zau r rfl (fun fr1 g w' hk' hd r'=>?_) ?_
  · exact zav r' (v:=(I x37.1)) rfl ⟨Below.refl _ _,rfl⟩
  refine zau r rfl (fun fr1 g w' hk' hd r'=>?_) ?_
  · exact za3 r' (b:=b1) (o:=0) (k:=0) rfl zng ⟨Below.refl _ _,rfl⟩
  refine zau r rfl (fun fr1 g w' hk' hd r'=>?_) ?_
  · exact za4 r' (v:=(.bool x37.2.2.2.zpx)) (hd 3 rfl).1 (hP.cellK (j:=4) rfl (drK hk') (i:=2) rfl rfl) to4 (Rep.zj3 (RepL.zero (show RepL _ _ _ _ _ _ _ from hP.okK (j:=4) rfl (drK hk') (i:=0) rfl rfl))) ⟨Below.refl _ _,rfl⟩
  refine zbb r rfl kz (fun fr1 g w' hb' hd r'=>?_) ?_
  · exact zaN r' (o:=0) (v:=(.agg (resC (T.res (⟨0,0⟩:Res) x37.2.2.2)).toArray)) rfl (hd 1 rfl).1 ((hP.below (dr hb')).cell (i:=4) rfl) ts54 (Nat.le_of_ble_eq_true rfl) rfl rfl (fun w2 u2=>⟨u2.kept,(),rfl,u2.at_,(fun b hb=>hP.sep.lt (i:=4) rfl hb),zjK⟩)
  refine zau r rfl (fun fr1 g w' hk' hd r'=>?_) ?_
  · exact zbD r' (v:=(I x37.1)) (hd 2 rfl).1 ⟨Below.refl _ _,rfl⟩
  refine zau r rfl (fun fr1 g w' hk' hd r'=>?_) ?_
  · exact zbD r' (v:=(.bool x37.2.2.2.zpx)) (hd 4 rfl).1 ⟨Below.refl _ _,rfl⟩
  exact zb5
 intro fr gg w40 hb hΦ hap r;obtain ⟨⟨⟩,g5,hcE,_,hs5⟩:=(hΦ 5 rfl).1;have r:=r.congr (sc ((hΦ 7 rfl).1) (sc ((hΦ 6 rfl).1) (sc ((hΦ 4 rfl).1) (sc ((hΦ 3 rfl).1) (sc ((hΦ 2 rfl).1) (sc ((hΦ 1 rfl).1) (sc ((hΦ 0 rfl).1) rfl)))))));have hP:Post (fun b=>b∈a0F∨b∈(memK a1g a1).own) [zpM Tryz.prog zpj x37.2.2 γ38.1 γ38.2,memK a1g x37.2.1,zpg b1 γ38.1.cells 57,zpg b5 ((capC a2)).toArray 68,zpg b9 ((resC (T.res (⟨0,0⟩:Res) x37.2.2.2))).toArray 54] w0 w40:=hP.effL (i:=4) (l:=[]) rfl hb hcE rfl rfl trivial
 refine wp_ret ?_;have hv:((T.res (⟨0,0⟩:Res) x37.2.2.2),x37.1,x37.2.2.2.zpx,x37.2.1)=res:=Option.some.inj hD
 try dsimp only [Exit.then,Exit.inBlock]
 refine zi8 (fn:=Tryz.f37) r rfl rfl (v':=(I x37.1)) (v2:=(.bool x37.2.2.2.zpx)) rfl rfl (hP.cell (i:=4) rfl) (k:=2) rfl ta54 ?_;subst hv;exact ⟨rfl,(hP.pick [1] rfl rfl).done (zbv rfl zc6)⟩
end Go.Proofs.YtikjpdpgdmbdpaaGreat

/- Ours. -/
set_option maxRecDepth 20000
set_option maxHeartbeats 2000000
namespace Go.Proofs.YtikjpdpgdmbdpaaGreat
open Go.RowKit
abbrev pL0:Plan:=⟨2,1,4,1,1,1⟩
abbrev sL00:Seat:=⟨pL0,0,0⟩
theorem cl51:zpd Tryz.prog 51:=kz
theorem zsf:isSlice Tryz.prog 107:=kz
theorem ztf:rowTy Tryz.prog 107 110 2:=kz
def D.zdP (fu:Nat) (a0:Plan) (a1:Mem) (a2:Int) (a3:Int):Option (List Entry):=((D.zb1 fu a1 a2 a3).bind (fun (x5:Int)=>(loopThen (fun (x8:List Entry × Int × Int)=>(Option.bind (bif (decide (x8.2.2<a0.nodes)) then (some (decide ((D.zak x8.2.1)≥0))) else (some false)) (fun (x15:Bool)=>(bif x15 then ((D.zb1 fu a1 a2 (D.za8 a0 (D.zak x8.2.1) 2)).bind (fun (x21:Int)=>(Option.bind (bif ((zbk .u64 x21 1)==0) then ((D.zb1 fu a1 a2 (D.za8 a0 (D.zak x8.2.1) 0)).bind (fun (x25:Int)=>((D.zb1 fu a1 a2 (D.za8 a0 (D.zak x8.2.1) 1)).bind (fun (x26:Int)=>((appD x8.1 ([(⟨x25,x26⟩:Entry)])).bind (fun (x30:List Entry)=>(some x30))))))) else (some x8.1)) (fun (x34:List Entry)=>(some (Lp.next (x34,x21,(IntKind.i64.wrap (x8.2.2+1))))))))) else (some (Lp.brk (x8.1,x8.2.1,x8.2.2))))))) fu ([],x5,0) (fun (x37:List Entry × Int × Int)=>(some x37.1)))))
set_option maxRecDepth 20000 in
set_option maxHeartbeats 20000000 in
theorem zhK {fu:Nat} (w0:World) (a0:Plan) {a1g:MG} (a1:Mem) (a1h:MemAt a1g a1 w0) (a2:Int) (a3:Int) {res:List Entry} (hD:D.zdP fu a0 a1 a2 a3=some res) :
    Calls Tryz.prog 51 #[.agg (zpe a0).toArray,zp a1g.mb,.int .i64 a2,.int .i64 a3] w0 (fun e w'=>∃ (v0:Value),e=.returned v0∧Done No No [rowK 110 2 entryC v0 res] w0 w'):=by
 refine enter Tryz.func51 rfl 56 rfl rfl fun fr r=>?_;have hP:Post No [] w0 w0:=Post.nil w0
 have hP:Post No [memR a1g a1] w0 w0:=hP.addRo zcV a1h rfl a1h.lt;unfold D.zdP at hD
 refine wsr ?_;refine kX 23 (.agg (zpe a0).toArray) r rfl rfl fun b1 w2 n3 r=>?_;have hP:Post No [memR a1g a1,zpg b1 ((zpe a0)).toArray 23] w0 w2:=hP.new n3
 refine kA kS r rfl rfl fun r=>wn (wsr (kA kS r rfl rfl fun r=>wn (wsr (kM (zp a1g.mb) r rfl rfl fun r=>kM (I a2) r rfl rfl fun r=>kM (I a3) r rfl rfl fun r=>?_))));obtain ⟨x5,hx5,hD⟩:=zan hD
 refine kE r (zbf w2 a1 (hP.memr (i:=0) rfl) a2 a3 hx5) rfl cl29 rfl fun w6 hb r=>?_;have hP:=hP.below hb
 refine kA (U x5) r rfl rfl fun r=>wn (wp_seq (wsr (kA (I 0) r rfl rfl fun r=>wn ?_)));have hP:Post No [memR a1g a1,zpg b1 ((zpe a0)).toArray 23,rowK 110 2 entryC kS ([])] w0 w6:=hP.nilRow 110 2 entryC
 refine zd7 (X:=List Entry × Int × Int) (G:=Value) (x0:=([],x5,0)) (fun x γ=>[(0,(.agg (zpe a0).toArray)),(1,(zp a1g.mb)),(2,(I a2)),(3,(I a3)),(4,(zp b1)),(8,kS),(9,γ),(10,(U x.2.1)),(11,(I x.2.2))]) (fun x γ w=>Post No [memR a1g a1,zpg b1 ((zpe a0)).toArray 23,rowK 110 2 entryC γ x.1] w0 w) kS r (kO (kO (zac rfl zaI))) hP hD ?_ ?_
 ·
  rintro x8 γ9 fr w11 g y10 RPy10 nxy10 bky10 rty10 r hP hD;have hP:Post No [memR a1g a1,zpg b1 ((zpe a0)).toArray 23,rowK 110 2 entryC γ9 x8.1] w0 w11:=hP;refine wp_seq (wp_seq ?_);refine zbP (N:=56) (Y:=Bool) (G:=Unit) (fun x γ=>[(0,(.agg (zpe a0).toArray)),(1,(zp a1g.mb)),(2,(I a2)),(3,(I a3)),(4,(zp b1)),(8,kS),(9,γ9),(10,(U x8.2.1)),(11,(I x8.2.2)),(25,(.bool x))]) (fun x γ w=>Post No [memR a1g a1,zpg b1 ((zpe a0)).toArray 23,rowK 110 2 entryC γ9 x8.1] w0 w) hD ?_ ?_
  ·
   rintro y12 RPy12 nxy12 hD;refine wp_region_lit (kM (I x8.2.2) r rfl rfl fun r=>kF 0 r rfl zeQ rfl fun r=>kL (I a0.nodes) r rfl (hP.cell (i:=1) rfl) to3 rfl rfl fun r=>kB r rfl rfl rfl rfl rfl fun r=>kM (.bool (decide (x8.2.2<a0.nodes))) r rfl rfl fun r=>?_);refine zaD (decide (x8.2.2<a0.nodes)) (fun h13=>?_) (fun h13=>?_)
   ·
    have hD:=(zal h13).symm.trans hD;refine s1 r h13 (kM (U x8.2.1) r rfl rfl fun r=>s1 r h13 ?_);refine kE r (zcf w11 x8.2.1) rfl zqb rfl fun w14 hb r=>?_
    have hP:=hP.below hb;refine s1 r h13 (kB r rfl rfl rfl rfl rfl fun r=>za0 (.bool (decide ((D.zak x8.2.1)≥0))) r (fun R=>zam r (b:=true) (congrArg Value.bool h13) rfl) rfl fun fr r=>wn ?_);exact nxy12 (decide ((D.zak x8.2.1)≥0)) () _ _ _ hD r (kO (kO (zac rfl (zac rfl zaI)))) (hP.pick [0,1,2] rfl rfl)
   have hD:=(zaf h13).symm.trans hD;refine s0 r h13 fun fr r=>s0 r h13 fun fr r=>s0 r h13 fun fr r=>za0 (.bool false) r (fun R=>zam r (b:=false) (congrArg Value.bool h13) rfl) rfl fun fr r=>wn ?_;exact nxy12 false () _ _ _ hD r (kO (kO (zac rfl (zac rfl zaI)))) (hP.pick [0,1,2] rfl rfl)
  rintro x15 γ16 fr w17 g r hP hD;have hP:Post No [memR a1g a1,zpg b1 ((zpe a0)).toArray 23,rowK 110 2 entryC γ9 x8.1] w0 w17:=hP;refine wp_cond_split (t:=x15) (r.ev rfl) (fun h18=>?_) (fun h18=>?_)
  ·
   have hD:=(zal h18).symm.trans hD;refine wp_skip (wp_seq (wp_block (wsr (kM (U x8.2.1) r rfl rfl fun r=>?_))));refine kE r (zcf w17 x8.2.1) rfl zqb rfl fun w19 hb r=>?_
   have hP:=hP.below hb;refine kA (I (D.zak x8.2.1)) r rfl rfl fun r=>wn (wsr (kM (zp a1g.mb) r rfl rfl fun r=>kM (I a2) r rfl rfl fun r=>kG (zpe a0) 6 r rfl (hP.cell (i:=1) rfl) ta23 rfl rfl fun r=>kM (I (D.zak x8.2.1)) r rfl rfl fun r=>?_));refine kE r (zb4 w19 a0 (D.zak x8.2.1) 2) rfl cl85 rfl fun w20 hb r=>?_
   have hP:=hP.below hb;obtain ⟨x21,hx21,hD⟩:=zan hD;refine kE r (zbf w20 a1 (hP.memr (i:=0) rfl) a2 (D.za8 a0 (D.zak x8.2.1) 2) hx21) rfl cl29 rfl fun w22 hb r=>?_;have hP:=hP.below hb
   refine kA (U x21) r rfl rfl fun r=>wn (wsr (kM (U x21) r rfl rfl fun r=>kB r rfl rfl rfl rfl rfl fun r=>kB r rfl rfl rfl rfl rfl fun r=>wn ?_));refine zbP (N:=56) (Y:=List Entry) (G:=Value) (fun x γ=>[(0,(.agg (zpe a0).toArray)),(1,(zp a1g.mb)),(2,(I a2)),(3,(I a3)),(4,(zp b1)),(8,kS),(10,(U x21)),(11,(I x8.2.2)),(25,(.bool x15)),(12,(I (D.zak x8.2.1))),(38,(.bool ((zbk .u64 x21 1)==0))),(9,γ)]) (fun x γ w=>Post No [memR a1g a1,zpg b1 ((zpe a0)).toArray 23,rowK 110 2 entryC γ x] w0 w) hD ?_ ?_
   ·
    rintro y23 RPy23 nxy23 hD;refine wp_cond_split (t:=((zbk .u64 x21 1)==0)) (r.ev rfl) (fun h24=>?_) (fun h24=>?_)
    ·
     have hD:=(zal h24).symm.trans hD;obtain ⟨x25,hx25,hD⟩:=zan hD;obtain ⟨x26,hx26,hD⟩:=zan hD;refine znU 15 [.val γ9,.val (zp a1g.mb),.val (I a2),.val (.agg (zpe a0).toArray),.val (I (D.zak x8.2.1)),.val (I (D.za8 a0 (D.zak x8.2.1) 0)),.val (U x25),.val (zp a1g.mb),.val (I a2),.val (.agg (zpe a0).toArray),.val (I (D.zak x8.2.1)),.val (I (D.za8 a0 (D.zak x8.2.1) 1)),.val (U x26),.val (.agg (entryC (⟨x25,x26⟩:Entry)).toArray),.pred (MkP (fun v:Value=>v) (fun v:Value=>[rowK 110 2 entryC v ([(⟨x25,x26⟩:Entry)])])) (MkP.st _ _)] mixed r kz ?_ ?_
     ·
      refine fc r (fun fr1 g w' hb' hd r'=>zav r' rfl bz) ?_;refine fc r (fun fr1 g w' hb' hd r'=>zav r' rfl bz) ?_
      refine fc r (fun fr1 g w' hb' hd r'=>zav r' rfl bz) ?_;refine fc r (fun fr1 g w' hb' hd r'=>zag r' (cs:=(zpe a0)) (n:=6) rfl ((hP.below (dr hb')).cell (i:=1) rfl) ta23 rfl bz) ?_
      refine fc r (fun fr1 g w' hb' hd r'=>zav r' rfl bz) ?_;refine fc r (fun fr1 g w' hb' hd r'=>zaC r' (args:=[(.agg (zpe a0).toArray),(I (D.zak x8.2.1)),(I 0)]) (lc (hd 3 rfl).1 (lc (hd 4 rfl).1 (lc rfl l0))) cl85 ((zb4 _ a0 (D.zak x8.2.1) 0).mono (by rintro _ w2 ⟨rfl,hb2⟩; exact ⟨_,rfl,hb2,rfl⟩))) ?_
      refine fc r (fun fr1 g w' hb' hd r'=>zaC r' (args:=[(zp a1g.mb),(I a2),(I (D.za8 a0 (D.zak x8.2.1) 0))]) (lc (hd 1 rfl).1 (lc (hd 2 rfl).1 (lc (hd 5 rfl).1 l0))) cl29 ((zbf _ a1 ((hP.below (dr hb')).memr (i:=0) rfl) a2 (D.za8 a0 (D.zak x8.2.1) 0) hx25).mono (by rintro _ w2 ⟨rfl,hb2⟩; exact ⟨_,rfl,hb2,rfl⟩))) ?_;refine fc r (fun fr1 g w' hb' hd r'=>zav r' rfl bz) ?_
      refine fc r (fun fr1 g w' hb' hd r'=>zav r' rfl bz) ?_;refine fc r (fun fr1 g w' hb' hd r'=>zag r' (cs:=(zpe a0)) (n:=6) rfl ((hP.below (dr hb')).cell (i:=1) rfl) ta23 rfl bz) ?_
      refine fc r (fun fr1 g w' hb' hd r'=>zav r' rfl bz) ?_;refine fc r (fun fr1 g w' hb' hd r'=>zaC r' (args:=[(.agg (zpe a0).toArray),(I (D.zak x8.2.1)),(I 1)]) (lc (hd 9 rfl).1 (lc (hd 10 rfl).1 (lc rfl l0))) cl85 ((zb4 _ a0 (D.zak x8.2.1) 1).mono (by rintro _ w2 ⟨rfl,hb2⟩; exact ⟨_,rfl,hb2,rfl⟩))) ?_
      refine fc r (fun fr1 g w' hb' hd r'=>zaC r' (args:=[(zp a1g.mb),(I a2),(I (D.za8 a0 (D.zak x8.2.1) 1))]) (lc (hd 7 rfl).1 (lc (hd 8 rfl).1 (lc (hd 11 rfl).1 l0))) cl29 ((zbf _ a1 ((hP.below (dr hb')).memr (i:=0) rfl) a2 (D.za8 a0 (D.zak x8.2.1) 1) hx26).mono (by rintro _ w2 ⟨rfl,hb2⟩; exact ⟨_,rfl,hb2,rfl⟩))) ?_;refine fc r (fun fr1 g w' hb' hd r'=>zfA r' (v:=(.agg (entryC (⟨x25,x26⟩:Entry)).toArray)) (bs2 (congrArg (fun z=>(0,z)) (hd 6 rfl).1) (congrArg (fun z=>(1,z)) (hd 12 rfl).1) kz) bz) ?_
      refine fc r (fun fr1 g w' hb' hd r'=>zcp r' (c:=(([(⟨x25,x26⟩:Entry)]).flatMap entryC).toArray) (E:=110) (bs1 (congrArg (fun z=>(0,z)) (hd 13 rfl).1) kz) (fun b w2 n2=>⟨n2.below,MkP.newRow n2 (fun _=>rfl) rfl⟩)) ?_;exact zb5
     intro fr gg w29 hb hΦ hap r;obtain ⟨v27,g14,hs14⟩:=(hΦ 14 rfl).1;have r:=r.congr (sc g14 (sc ((hΦ 13 rfl).1) (sc ((hΦ 12 rfl).1) (sc ((hΦ 11 rfl).1) (sc ((hΦ 10 rfl).1) (sc ((hΦ 9 rfl).1) (sc ((hΦ 8 rfl).1) (sc ((hΦ 7 rfl).1) (sc ((hΦ 6 rfl).1) (sc ((hΦ 5 rfl).1) (sc ((hΦ 4 rfl).1) (sc ((hΦ 3 rfl).1) (sc ((hΦ 2 rfl).1) (sc ((hΦ 1 rfl).1) (sc ((hΦ 0 rfl).1) rfl)))))))))))))));have hP:Post No [memR a1g a1,zpg b1 ((zpe a0)).toArray 23,rowK 110 2 entryC γ9 x8.1,rowK 110 2 entryC v27 ([(⟨x25,x26⟩:Entry)])] w0 w29:=hP.addL (l:=[([rowK 110 2 entryC v27 ([(⟨x25,x26⟩:Entry)])],(gg 14).lo,(gg 14).hi)]) hb ⟨hs14,(hΦ 14 rfl).2.1,zep,trivial⟩;obtain ⟨x30,hx30,hD⟩:=zan hD;refine zll 110 2 entryC γ9 r (fun R=>zjE r ztf (fun _=>rfl) (fun _=>rfl) (hP.row (i:=2) rfl) (hP.row (i:=3) rfl).ro hx30 rfl rfl) rfl fun fr v31 w32 ha33 r=>?_;have hP:Post No [memR a1g a1,zpg b1 ((zpe a0)).toArray 23,rowK 110 2 entryC v31 x30,rowK 110 2 entryC v27 ([(⟨x25,x26⟩:Entry)])] w0 w32:=hP.append (i:=2) rfl ha33
     refine kA v31 r rfl rfl fun r=>wn ?_;exact nxy23 x30 v31 _ _ _ hD r (kO (kO (kO zaI))) (hP.pick [0,1,2] rfl rfl)
    have hD:=(zaf h24).symm.trans hD;refine wp_skip ?_;exact nxy23 x8.1 γ9 _ _ _ hD r (kO (kO (kO zaI))) (hP.pick [0,1,2] rfl rfl)
   rintro x34 γ35 fr w36 g r hP hD;have hP:Post No [memR a1g a1,zpg b1 ((zpe a0)).toArray 23,rowK 110 2 entryC γ35 x34] w0 w36:=hP;refine wp_region_lit (kM (I x8.2.2) r rfl rfl fun r=>kB r rfl rfl rfl rfl rfl fun r=>kA (I (W (x8.2.2+1))) r rfl rfl fun r=>wn ?_);exact nxy10 (x34,x21,(W (x8.2.2+1))) γ35 _ _ _ hD r (kO (kO (zac rfl zaI))) (hP.pick [0,1,2] rfl rfl)
  have hD:=(zaf h18).symm.trans hD;refine wp_exit ?_;exact bky10 (x8.1,x8.2.1,x8.2.2) γ9 _ _ _ hD r (kO (kO (zac rfl zaI))) (hP.pick [0,1,2] rfl rfl)
 rintro x37 γ38 fr w39 g r hP hD;have hP:Post No [memR a1g a1,zpg b1 ((zpe a0)).toArray 23,rowK 110 2 entryC γ38 x37.1] w0 w39:=hP;refine wsr (kM γ38 r rfl rfl fun r=>kA γ38 r rfl rfl fun r=>wn (wp_ret ?_));have hv:x37.1=res:=Option.some.inj hD
 try dsimp only [Exit.then,Exit.inBlock]
 refine zay (fn:=Tryz.f51) r (t:=8) rfl (v:=γ38) rfl ?_;subst hv;exact ⟨γ38,rfl,(hP.pick [2] rfl rfl).done (zbv rfl zc6)⟩
def D.zcg (fu:Nat) :Option (Bool):=((D.zc2 fu (⟨2,1,4,1,1,1⟩:Plan)).bind (fun (x7:Mem)=>((D.zcO fu x7 0).bind (fun (x12:Cap)=>((D.zez fu (fu,(D.zeY (fu+1) (⟨(⟨2,1,4,1,1,1⟩:Plan),0,0⟩:Seat) (D.zax (⟨2,1,4,1,1,1⟩:Plan) 0 0) 5 7)) x7 x12 99).bind (fun (x13:Res × Int × Bool × Mem)=>(Option.bind (bif x13.2.2.1 then (bif (x13.1.e==0) then ((D.zdP fu (⟨2,1,4,1,1,1⟩:Plan) x13.2.2.2 0 (D.zax (⟨2,1,4,1,1,1⟩:Plan) 0 0)).bind (fun (x19:List Entry)=>(some ((x19.length:Int)==1)))) else (some false)) else (some false)) (fun (x25:Bool)=>(some x25)))))))))
set_option maxRecDepth 20000 in
set_option maxHeartbeats 20000000 in
theorem zeR {fu:Nat} (w0:World) {res:Bool} (hD:D.zcg fu =some res) :
    Calls Tryz.prog 48 #[] w0 (zpt (.bool res) w0):=by
 refine enter Tryz.func48 rfl 39 rfl rfl fun fr r=>?_;have hP:Post No [] w0 w0:=Post.nil w0
 unfold D.zcg at hD
 refine wsr (kA (.bool false) r rfl rfl fun r=>wn (wsr (kU (.agg (zpe pL0).toArray) r kz rfl fun r=>?_)));refine za7 (.cells ((zpe (⟨0,0,0,0,0,0⟩:Plan))).toArray 23 (0,0)) r (fun R=>za6 tz23) rfl fun fr b1 w2 n3 r=>?_
 have hP:Post No [zpg b1 ((zpe (⟨0,0,0,0,0,0⟩:Plan))).toArray 23] w0 w2:=hP.new n3;refine zaS (.cells ((zpe pL0)).toArray 23 (0,0)) r (fun R=>zaN r (o:=0) (v:=(.agg (zpe pL0).toArray)) rfl rfl (hP.cell (i:=0) rfl) ts23 (Nat.le_of_ble_eq_true rfl) rfl rfl) rfl fun fr w5 u6 r=>?_;have hP:Post No [zpg b1 ((zpe pL0)).toArray 23] w0 w5:=hP.upd (i:=0) rfl u6
 refine wn (wsr (kG (zpe pL0) 6 r rfl (hP.cell (i:=0) rfl) ta23 rfl rfl fun r=>?_));obtain ⟨x7,hx7,hD⟩:=zan hD
 refine kC r (zfi w5 pL0 hx7) rfl cl17 rfl ?_;rintro _ w8 ⟨mg9,rfl,hq⟩;refine ⟨_,rfl,fun fr r=>?_⟩
 have hP:Post No [zpg b1 ((zpe pL0)).toArray 23,memK mg9 x7] w0 w8:=hP.add hq;refine kA (zp mg9.mb) r rfl rfl fun r=>wn (wp_seq (wsr (kM (zp mg9.mb) r rfl rfl fun r=>kB r rfl rfl rfl rfl rfl fun r=>wn ?_)));refine wp_cond_split (t:=false) (r.ev rfl) (fun h=>absurd ((rfl:false=_).symm.trans h) ke) (fun _=>wp_skip (wp_seq ?_))
 obtain ⟨x12,hx12,hD⟩:=zan hD;obtain ⟨x13,hx13,hD⟩:=zan hD;refine Fc.zmR mg9.bs [.val (.agg (zpe pL0).toArray),.val (.agg (zpH sL00).toArray),.val (.agg (zpe pL0).toArray),.val (I (D.zax pL0 0 0)),.cons 8 (PrL Tryz.prog zpj (fu,(D.zeY (fu+1) sL00 (D.zax pL0 0 0) 5 7))) (PrL.st _),.val (zp mg9.mb),.val (zp mg9.mb),.val (.agg (capC x12).toArray),.effC [4] (EffP w8.heap.size (memK mg9 x13.2.2.2) (fun _:Unit=>(.tuple #[(.agg (resC x13.1).toArray),(I x13.2.1),(.bool x13.2.2.1)])) (fun _:Unit=>[])) (EffP.st _ _ _ _),.val (.tuple #[(.agg (resC x13.1).toArray),(I x13.2.1),(.bool x13.2.2.1)]),.val (.agg (resC x13.1).toArray),.val (I x13.2.1),.val (.bool x13.2.2.1),.cell 54 2,.stored 13 ((resC x13.1)).toArray 54 2 rfl,.val (I x13.2.1),.val (.bool x13.2.2.1)] mixed r (fun b hb=>hP.sep.lt (i:=1) rfl (.inl hb)) ⟨_,List.mem_cons_self ..⟩ kz ?_ ?_
 ·
  refine Fc.zau r rfl (fun fr1 g w' hk' hd r'=>?_) ?_
  · exact zag r' (cs:=(zpe pL0)) (n:=6) rfl (hP.cellK (j:=1) rfl (drK hk') (i:=0) rfl rfl) ta23 rfl ⟨Below.refl _ _,rfl⟩
  refine Fc.zau r rfl (fun fr1 g w' hk' hd r'=>?_) ?_
  · exact zfA r' (v:=(.agg (zpH sL00).toArray)) (bs1 (congrArg (fun z=>(0,z)) (hd 0 rfl).1) kz) ⟨Below.refl _ _,rfl⟩
  refine Fc.zau r rfl (fun fr1 g w' hk' hd r'=>?_) ?_
  · exact zag r' (cs:=(zpe pL0)) (n:=6) rfl (hP.cellK (j:=1) rfl (drK hk') (i:=0) rfl rfl) ta23 rfl ⟨Below.refl _ _,rfl⟩
  refine Fc.zau r rfl (fun fr1 g w' hk' hd r'=>?_) ?_
  · exact zaC r' (args:=[(.agg (zpe pL0).toArray),(I 0),(I 0)]) (lc (hd 2 rfl).1 (lc rfl (lc rfl l0))) cl49 ((zeD _ pL0 0 0).mono (by rintro _ w2 ⟨rfl,hb2⟩; exact ⟨_,rfl,hb2,rfl⟩))
  refine Fc.zbb r rfl kz (fun fr1 g w' hb' hd r'=>?_) ?_
  · exact zaC r' (args:=[(.agg (zpH sL00).toArray),(I (D.zax pL0 0 0)),(U 5),(U 7)]) (lc (hd 1 rfl).1 (lc (hd 3 rfl).1 (lc rfl (lc rfl l0)))) cl50 ((zkf (F:=No) (n:=fu) (j:=fu+1) (fun _ h=>h.elim) kw sL00 (D.zax pL0 0 0) 5 7).mono (by rintro _ w2 ⟨y,rfl,hb2,hr2⟩; exact ⟨_,rfl,hb2.below,zke hr2⟩))
  refine Fc.zbb r rfl kz (fun fr1 g w' hb' hd r'=>?_) ?_
  · exact zav r' (v:=(zp mg9.mb)) rfl ⟨Below.refl _ _,rfl⟩
  refine Fc.zau r rfl (fun fr1 g w' hk' hd r'=>?_) ?_
  · exact zav r' (v:=(zp mg9.mb)) rfl ⟨Below.refl _ _,rfl⟩
  refine Fc.zbb r rfl kz (fun fr1 g w' hb' hd r'=>?_) ?_
  · exact zaC r' (args:=[(zp mg9.mb),(I 0)]) (lc (hd 6 rfl).1 (lc rfl l0)) cl28 ((zeO _ x7 ((hP.below (dr hb')).mem (i:=1) rfl) 0 hx12).mono (by rintro _ w2 ⟨rfl,hb2⟩; exact ⟨_,rfl,hb2,rfl⟩))
  refine Fc.eachC r rfl kz (fun fr1 g w' h0 hb' hd r'=>?_) ?_
  · exact zaC r' (args:=[(g 4).v,(zp mg9.mb),(.agg (capC x12).toArray),(I 99)]) (lc rfl (lc (hd 5 rfl).1 (lc (hd 7 rfl).1 (lc rfl l0)))) cl37 ((zhb _ (fu,(D.zeY (fu+1) sL00 (D.zax pL0 0 0) 5 7)) x7 x12 99 (Sep.beside ((hd 4 rfl).1 h0) ((hP.below (dr hb')).sep.pk [1] rfl rfl) (by intro c hc b hb; simp only [List.mem_cons,List.not_mem_nil,or_false] at hc; rcases hc with rfl; exact hP.sep.lt (i:=1) rfl hb) (hd 4 rfl).2.1) hx13).mono (by rintro _ w2 ⟨rfl,hq⟩; exact ⟨_,rfl,Chg.keptC hq.chg,EffP.ofC hq (fun b hb=>hP.sep.lt (i:=1) rfl hb)⟩))
  refine Fc.zau r rfl (fun fr1 g w' hk' hd r'=>?_) ?_
  · exact zav r' (v:=(.tuple #[(.agg (resC x13.1).toArray),(I x13.2.1),(.bool x13.2.2.1)])) (EffP.val (hd 8 rfl).1) ⟨Below.refl _ _,rfl⟩
  refine Fc.zau r rfl (fun fr1 g w' hk' hd r'=>?_) ?_
  · exact zb8 r' (vs:=#[(.agg (resC x13.1).toArray),(I x13.2.1),(.bool x13.2.2.1)]) (hd 9 rfl).1 rfl ⟨Below.refl _ _,rfl⟩
  refine Fc.zau r rfl (fun fr1 g w' hk' hd r'=>?_) ?_
  · exact zb8 r' (vs:=#[(.agg (resC x13.1).toArray),(I x13.2.1),(.bool x13.2.2.1)]) (hd 9 rfl).1 rfl ⟨Below.refl _ _,rfl⟩
  refine Fc.zau r rfl (fun fr1 g w' hk' hd r'=>?_) ?_
  · exact zb8 r' (vs:=#[(.agg (resC x13.1).toArray),(I x13.2.1),(.bool x13.2.2.1)]) (hd 9 rfl).1 rfl ⟨Below.refl _ _,rfl⟩
  refine Fc.zau r rfl (fun fr1 g w' hk' hd r'=>?_) ?_
  · exact za6 tz54 (fun b w2 n2=>⟨n2.below,b,rfl,n2.eq,_,n2.at_,rfl⟩)
  refine Fc.zau r rfl (fun fr1 g w' hk' hd r'=>?_) ?_
  · obtain ⟨hp,_,c,hc,hn⟩:=(hd 13 rfl).1; exact zaN r' (o:=0) (c:=c) (v:=(.agg (resC x13.1).toArray)) hp (hd 10 rfl).1 hc ts54 (by rw [hn]; exact Nat.le_of_ble_eq_true rfl) rfl (zj9 (hn.trans rfl)) (fun w2 u2=>⟨u2,rfl⟩)
  refine Fc.zau r rfl (fun fr1 g w' hk' hd r'=>?_) ?_
  · exact zbD r' (v:=(I x13.2.1)) (hd 11 rfl).1 ⟨Below.refl _ _,rfl⟩
  refine Fc.zau r rfl (fun fr1 g w' hk' hd r'=>?_) ?_
  · exact zbD r' (v:=(.bool x13.2.2.1)) (hd 12 rfl).1 ⟨Below.refl _ _,rfl⟩
  exact Fc.zb5
 intro fr gg w15 hb hΦ hap r;obtain ⟨v11,hv4⟩:∃ v,v=(gg 4).v:=⟨_,rfl⟩;have g4:(gg 4).v=v11:=hv4.symm;obtain ⟨⟨⟩,g8,hcE,_,hs8⟩:=(hΦ 8 rfl).1;obtain ⟨b14,ee_b14⟩:∃ b,b=(gg 13).lo:=⟨_,rfl⟩;have g13:(gg 13).v=(zp b14):=by rw [ee_b14]; exact (hΦ 13 rfl).1.1
 have H14:w15.heap[b14]?=some (.cells ((resC x13.1)).toArray 54 (0,0)):=by rw [ee_b14]; exact (hΦ 14 rfl).1.2
 have hs13:Fresh [zpg b14 ((resC x13.1)).toArray 54] (gg 13).lo (gg 13).hi w15:=by subst ee_b14; exact Fresh.cell (hΦ 13 rfl).1.2.1 H14
 have r:=r.congr (sc ((hΦ 16 rfl).1) (sc ((hΦ 15 rfl).1) (sc g13 (sc ((hΦ 12 rfl).1) (sc ((hΦ 11 rfl).1) (sc ((hΦ 10 rfl).1) (sc ((hΦ 9 rfl).1) (sc g8 (sc ((hΦ 7 rfl).1) (sc ((hΦ 6 rfl).1) (sc ((hΦ 5 rfl).1) (sc g4 (sc ((hΦ 3 rfl).1) (sc ((hΦ 2 rfl).1) (sc ((hΦ 1 rfl).1) (sc ((hΦ 0 rfl).1) rfl))))))))))))))));have hP:Post No [zpg b1 ((zpe pL0)).toArray 23,memK mg9 x13.2.2.2,zpg b14 ((resC x13.1)).toArray 54] w0 w15:=hP.effL (i:=1) (l:=[([zpg b14 ((resC x13.1)).toArray 54],(gg 13).lo,(gg 13).hi)]) rfl hb hcE rfl rfl ⟨hs13,(hΦ 13 rfl).2.1,zep,trivial⟩;refine wp_seq ?_;refine zbP (N:=39) (Y:=Bool) (G:=Unit) (fun x γ=>[(1,(zp b1)),(2,(zp mg9.mb)),(10,(.bool false)),(3,(zp b14)),(5,(.bool x13.2.2.1)),(0,(.bool x))]) (fun x γ w=>Post No [zpg b1 ((zpe pL0)).toArray 23,memK mg9 x13.2.2.2,zpg b14 ((resC x13.1)).toArray 54] w0 w) hD ?_ ?_
 ·
  rintro y16 RPy16 nxy16 hD;refine zaD x13.2.2.1 (fun h17=>?_) (fun h17=>?_)
  ·
   have hD:=(zal h17).symm.trans hD;refine zaD (x13.1.e==0) (fun h18=>?_) (fun h18=>?_)
   ·
    have hD:=(zal h18).symm.trans hD;obtain ⟨x19,hx19,hD⟩:=zan hD;refine zcm [.val (.bool x13.2.2.1),.val (.bool x13.2.2.1),.val (zp b14),.val (I x13.1.e),.val (.bool (x13.1.e==0)),.val (.bool (x13.1.e==0)),.val (.bool (x13.1.e==0)),.val (.agg (zpe pL0).toArray),.val (zp mg9.mb),.val (.agg (zpe pL0).toArray),.val (I (D.zax pL0 0 0)),.pred (MkP (fun v20:Value=>v20) (fun v20:Value=>[rowK 110 2 entryC v20 x19])) (MkP.st _ _),.val (I (x19.length:Int)),.val (.bool ((x19.length:Int)==1)),.val (.bool ((x19.length:Int)==1)),.val (.bool ((x19.length:Int)==1))] mixed r kz ?_ ?_
    ·
     refine fc r (fun fr1 g w' hb' hd r'=>zav r' rfl bz) ?_;refine fc r (fun fr1 g w' hb' hd r'=>zav r' (hd 0 rfl).1 bz) ?_
     refine zas true r rfl rfl rfl (fun g w' hd=>Eq.trans (show (g 1).v=.bool x13.2.2.1 from (hd 1 rfl).1) (congrArg Value.bool h17)) (fun fr1 g w' hb' hd r'=>?_) ?_
     · exact za3 r' (b:=b14) (o:=0) (k:=0) rfl zoe ⟨Below.refl _ _,rfl⟩
     refine zas true r rfl rfl rfl (fun g w' hd=>Eq.trans (show (g 1).v=.bool x13.2.2.1 from (hd 1 rfl).1) (congrArg Value.bool h17)) (fun fr1 g w' hb' hd r'=>?_) ?_
     · exact za4 r' (v:=(I x13.1.e)) (hd 2 rfl).1 ((hP.below (dr hb')).cell (i:=2) rfl) to33 rfl ⟨Below.refl _ _,rfl⟩
     refine zas true r rfl rfl rfl (fun g w' hd=>Eq.trans (show (g 1).v=.bool x13.2.2.1 from (hd 1 rfl).1) (congrArg Value.bool h17)) (fun fr1 g w' hb' hd r'=>?_) ?_
     · exact zpB r' (u:=(I x13.1.e)) (u':=(I 0)) (v:=(.bool (x13.1.e==0))) (hd 3 rfl).1 rfl rfl rfl ⟨Below.refl _ _,rfl⟩
     refine fc r (fun fr1 g w' hb' hd r'=>zam r' (b:=true) (v:=(.bool (x13.1.e==0))) (Eq.trans (show (g 1).v=.bool x13.2.2.1 from (hd 1 rfl).1) (congrArg Value.bool h17)) (hd 4 rfl).1 bz) ?_;refine fc r (fun fr1 g w' hb' hd r'=>zav r' (hd 5 rfl).1 bz) ?_
     refine zas true r rfl rfl rfl (fun g w' hd=>Eq.trans (show (g 6).v=.bool (x13.1.e==0) from (hd 6 rfl).1) (congrArg Value.bool h18)) (fun fr1 g w' hb' hd r'=>?_) ?_
     · exact zag r' (cs:=(zpe pL0)) (n:=6) rfl ((hP.below (dr hb')).cell (i:=0) rfl) ta23 rfl ⟨Below.refl _ _,rfl⟩
     refine zas true r rfl rfl rfl (fun g w' hd=>Eq.trans (show (g 6).v=.bool (x13.1.e==0) from (hd 6 rfl).1) (congrArg Value.bool h18)) (fun fr1 g w' hb' hd r'=>?_) ?_
     · exact zav r' (v:=(zp mg9.mb)) rfl ⟨Below.refl _ _,rfl⟩
     refine zas true r rfl rfl rfl (fun g w' hd=>Eq.trans (show (g 6).v=.bool (x13.1.e==0) from (hd 6 rfl).1) (congrArg Value.bool h18)) (fun fr1 g w' hb' hd r'=>?_) ?_
     · exact zag r' (cs:=(zpe pL0)) (n:=6) rfl ((hP.below (dr hb')).cell (i:=0) rfl) ta23 rfl ⟨Below.refl _ _,rfl⟩
     refine zas true r rfl rfl rfl (fun g w' hd=>Eq.trans (show (g 6).v=.bool (x13.1.e==0) from (hd 6 rfl).1) (congrArg Value.bool h18)) (fun fr1 g w' hb' hd r'=>?_) ?_
     · exact zaC r' (args:=[(.agg (zpe pL0).toArray),(I 0),(I 0)]) (lc (hd 9 rfl).1 (lc rfl (lc rfl l0))) cl49 ((zeD _ pL0 0 0).mono (by rintro _ w2 ⟨rfl,hb2⟩; exact ⟨_,rfl,hb2,rfl⟩))
     refine zas true r rfl rfl rfl (fun g w' hd=>Eq.trans (show (g 6).v=.bool (x13.1.e==0) from (hd 6 rfl).1) (congrArg Value.bool h18)) (fun fr1 g w' hb' hd r'=>?_) ?_
     · exact zaC r' (args:=[(.agg (zpe pL0).toArray),(zp mg9.mb),(I 0),(I (D.zax pL0 0 0))]) (lc (hd 7 rfl).1 (lc (hd 8 rfl).1 (lc rfl (lc (hd 10 rfl).1 l0)))) cl51 ((zhK _ pL0 x13.2.2.2 ((hP.below (dr hb')).mem (i:=1) rfl) 0 (D.zax pL0 0 0) hx19).mono (by rintro _ w2 ⟨y,rfl,hq⟩; exact ⟨_,rfl,hq.chg.below,MkP.of y hq⟩))
     refine zas true r rfl rfl rfl (fun g w' hd=>Eq.trans (show (g 6).v=.bool (x13.1.e==0) from (hd 6 rfl).1) (congrArg Value.bool h18)) (fun fr1 g w' hb' hd r'=>?_) ?_
     · obtain ⟨y,hy,hs,_⟩:=(hd 11 rfl).1; exact zcD r' (zpV.ro (hs.get (i:=0) rfl)) zsf hy ⟨Below.refl _ _,rfl⟩
     refine zas true r rfl rfl rfl (fun g w' hd=>Eq.trans (show (g 6).v=.bool (x13.1.e==0) from (hd 6 rfl).1) (congrArg Value.bool h18)) (fun fr1 g w' hb' hd r'=>?_) ?_
     · exact zpB r' (u:=(I (x19.length:Int))) (u':=(I 1)) (v:=(.bool ((x19.length:Int)==1))) (hd 12 rfl).1 rfl rfl rfl ⟨Below.refl _ _,rfl⟩
     refine fc r (fun fr1 g w' hb' hd r'=>zam r' (b:=true) (v:=(.bool ((x19.length:Int)==1))) (Eq.trans (show (g 6).v=.bool (x13.1.e==0) from (hd 6 rfl).1) (congrArg Value.bool h18)) (hd 13 rfl).1 bz) ?_;refine fc r (fun fr1 g w' hb' hd r'=>zbD r' (hd 14 rfl).1 bz) ?_
     exact zb5
    intro fr gg w22 hb hΦ hap r;obtain ⟨v20,g11,hs11⟩:=(hΦ 11 rfl).1;have r:=r.congr (sc ((hΦ 15 rfl).1) (sc ((hΦ 14 rfl).1) (sc ((hΦ 13 rfl).1) (sc ((hΦ 12 rfl).1) (sc g11 (sc ((hΦ 10 rfl).1) (sc ((hΦ 9 rfl).1) (sc ((hΦ 8 rfl).1) (sc ((hΦ 7 rfl).1) (sc ((hΦ 6 rfl).1) (sc ((hΦ 5 rfl).1) (sc ((hΦ 4 rfl).1) (sc ((hΦ 3 rfl).1) (sc ((hΦ 2 rfl).1) (sc ((hΦ 1 rfl).1) (sc ((hΦ 0 rfl).1) rfl))))))))))))))));have hP:Post No [zpg b1 ((zpe pL0)).toArray 23,memK mg9 x13.2.2.2,zpg b14 ((resC x13.1)).toArray 54,rowK 110 2 entryC v20 x19] w0 w22:=hP.addL (l:=[([rowK 110 2 entryC v20 x19],(gg 11).lo,(gg 11).hi)]) hb ⟨hs11,(hΦ 11 rfl).2.1,zep,trivial⟩;exact nxy16 ((x19.length:Int)==1) () _ _ _ hD r (kO (zac rfl (zac rfl zaI))) (hP.pick [0,1,2] rfl rfl)
   have hD:=(zaf h18).symm.trans hD;refine zcm [.val (.bool x13.2.2.1),.val (.bool x13.2.2.1),.val (zp b14),.val (I x13.1.e),.val (.bool (x13.1.e==0)),.val (.bool (x13.1.e==0)),.val (.bool (x13.1.e==0)),.val undef,.val undef,.val undef,.val undef,.val undef,.val undef,.val undef,.val (.bool false),.val (.bool false)] mixed r kz ?_ ?_
   ·
    refine fc r (fun fr1 g w' hb' hd r'=>zav r' rfl bz) ?_;refine fc r (fun fr1 g w' hb' hd r'=>zav r' (hd 0 rfl).1 bz) ?_
    refine zas true r rfl rfl rfl (fun g w' hd=>Eq.trans (show (g 1).v=.bool x13.2.2.1 from (hd 1 rfl).1) (congrArg Value.bool h17)) (fun fr1 g w' hb' hd r'=>?_) ?_
    · exact za3 r' (b:=b14) (o:=0) (k:=0) rfl zoe ⟨Below.refl _ _,rfl⟩
    refine zas true r rfl rfl rfl (fun g w' hd=>Eq.trans (show (g 1).v=.bool x13.2.2.1 from (hd 1 rfl).1) (congrArg Value.bool h17)) (fun fr1 g w' hb' hd r'=>?_) ?_
    · exact za4 r' (v:=(I x13.1.e)) (hd 2 rfl).1 ((hP.below (dr hb')).cell (i:=2) rfl) to33 rfl ⟨Below.refl _ _,rfl⟩
    refine zas true r rfl rfl rfl (fun g w' hd=>Eq.trans (show (g 1).v=.bool x13.2.2.1 from (hd 1 rfl).1) (congrArg Value.bool h17)) (fun fr1 g w' hb' hd r'=>?_) ?_
    · exact zpB r' (u:=(I x13.1.e)) (u':=(I 0)) (v:=(.bool (x13.1.e==0))) (hd 3 rfl).1 rfl rfl rfl ⟨Below.refl _ _,rfl⟩
    refine fc r (fun fr1 g w' hb' hd r'=>zam r' (b:=true) (v:=(.bool (x13.1.e==0))) (Eq.trans (show (g 1).v=.bool x13.2.2.1 from (hd 1 rfl).1) (congrArg Value.bool h17)) (hd 4 rfl).1 bz) ?_;refine fc r (fun fr1 g w' hb' hd r'=>zav r' (hd 5 rfl).1 bz) ?_
    refine zaw true (.bool false) r rfl rfl rfl (fun g w' hd=>Eq.trans (show (g 6).v=.bool (x13.1.e==0) from (hd 6 rfl).1) (congrArg Value.bool h18)) (by simp [zps]) (fun _ _=>⟨Below.refl _ _,rfl⟩) ?_;refine zaw true (.bool false) r rfl rfl rfl (fun g w' hd=>Eq.trans (show (g 6).v=.bool (x13.1.e==0) from (hd 6 rfl).1) (congrArg Value.bool h18)) (by simp [zps]) (fun _ _=>⟨Below.refl _ _,rfl⟩) ?_
    refine zaw true (.bool false) r rfl rfl rfl (fun g w' hd=>Eq.trans (show (g 6).v=.bool (x13.1.e==0) from (hd 6 rfl).1) (congrArg Value.bool h18)) (by simp [zps]) (fun _ _=>⟨Below.refl _ _,rfl⟩) ?_;refine zaw true (.bool false) r rfl rfl rfl (fun g w' hd=>Eq.trans (show (g 6).v=.bool (x13.1.e==0) from (hd 6 rfl).1) (congrArg Value.bool h18)) (by simp [zps]) (fun _ _=>⟨Below.refl _ _,rfl⟩) ?_
    refine zaw true (.bool false) r rfl rfl rfl (fun g w' hd=>Eq.trans (show (g 6).v=.bool (x13.1.e==0) from (hd 6 rfl).1) (congrArg Value.bool h18)) (by simp [zps]) (fun _ _=>⟨Below.refl _ _,rfl⟩) ?_;refine zaw true (.bool false) r rfl rfl rfl (fun g w' hd=>Eq.trans (show (g 6).v=.bool (x13.1.e==0) from (hd 6 rfl).1) (congrArg Value.bool h18)) (by simp [zps]) (fun _ _=>⟨Below.refl _ _,rfl⟩) ?_
    refine zaw true (.bool false) r rfl rfl rfl (fun g w' hd=>Eq.trans (show (g 6).v=.bool (x13.1.e==0) from (hd 6 rfl).1) (congrArg Value.bool h18)) (by simp [zps]) (fun _ _=>⟨Below.refl _ _,rfl⟩) ?_;refine fc r (fun fr1 g w' hb' hd r'=>zam r' (b:=false) (v:=(.bool false)) (Eq.trans (show (g 6).v=.bool (x13.1.e==0) from (hd 6 rfl).1) (congrArg Value.bool h18)) rfl bz) ?_
    refine fc r (fun fr1 g w' hb' hd r'=>zbD r' (hd 14 rfl).1 bz) ?_;exact zb5
   intro fr gg w23 hb hΦ hap r;have r:=r.congr (sc ((hΦ 15 rfl).1) (sc ((hΦ 14 rfl).1) (sc ((hΦ 13 rfl).1) (sc ((hΦ 12 rfl).1) (sc ((hΦ 11 rfl).1) (sc ((hΦ 10 rfl).1) (sc ((hΦ 9 rfl).1) (sc ((hΦ 8 rfl).1) (sc ((hΦ 7 rfl).1) (sc ((hΦ 6 rfl).1) (sc ((hΦ 5 rfl).1) (sc ((hΦ 4 rfl).1) (sc ((hΦ 3 rfl).1) (sc ((hΦ 2 rfl).1) (sc ((hΦ 1 rfl).1) (sc ((hΦ 0 rfl).1) rfl))))))))))))))));have hP:=hP.below hb;exact nxy16 false () _ _ _ hD r (kO (zac rfl (zac rfl zaI))) (hP.pick [0,1,2] rfl rfl)
  have hD:=(zaf h17).symm.trans hD;refine zcm [.val (.bool x13.2.2.1),.val (.bool x13.2.2.1),.val undef,.val undef,.val undef,.val (.bool false),.val (.bool false),.val undef,.val undef,.val undef,.val undef,.val undef,.val undef,.val undef,.val (.bool false),.val (.bool false)] mixed r kz ?_ ?_
  ·
   refine fc r (fun fr1 g w' hb' hd r'=>zav r' rfl bz) ?_;refine fc r (fun fr1 g w' hb' hd r'=>zav r' (hd 0 rfl).1 bz) ?_
   refine zaw true (.bool false) r rfl rfl rfl (fun g w' hd=>Eq.trans (show (g 1).v=.bool x13.2.2.1 from (hd 1 rfl).1) (congrArg Value.bool h17)) (by simp [zps]) (fun _ _=>⟨Below.refl _ _,rfl⟩) ?_;refine zaw true (.bool false) r rfl rfl rfl (fun g w' hd=>Eq.trans (show (g 1).v=.bool x13.2.2.1 from (hd 1 rfl).1) (congrArg Value.bool h17)) (by simp [zps]) (fun _ _=>⟨Below.refl _ _,rfl⟩) ?_
   refine zaw true (.bool false) r rfl rfl rfl (fun g w' hd=>Eq.trans (show (g 1).v=.bool x13.2.2.1 from (hd 1 rfl).1) (congrArg Value.bool h17)) (by simp [zps]) (fun _ _=>⟨Below.refl _ _,rfl⟩) ?_;refine fc r (fun fr1 g w' hb' hd r'=>zam r' (b:=false) (v:=(.bool false)) (Eq.trans (show (g 1).v=.bool x13.2.2.1 from (hd 1 rfl).1) (congrArg Value.bool h17)) rfl bz) ?_
   refine fc r (fun fr1 g w' hb' hd r'=>zav r' (hd 5 rfl).1 bz) ?_;refine zaw true (.bool false) r rfl rfl rfl (fun g w' hd=>Eq.trans (show (g 6).v=.bool false from (hd 6 rfl).1) (congrArg Value.bool (rfl:false=_))) (by simp [zps]) (fun _ _=>⟨Below.refl _ _,rfl⟩) ?_
   refine zaw true (.bool false) r rfl rfl rfl (fun g w' hd=>Eq.trans (show (g 6).v=.bool false from (hd 6 rfl).1) (congrArg Value.bool (rfl:false=_))) (by simp [zps]) (fun _ _=>⟨Below.refl _ _,rfl⟩) ?_;refine zaw true (.bool false) r rfl rfl rfl (fun g w' hd=>Eq.trans (show (g 6).v=.bool false from (hd 6 rfl).1) (congrArg Value.bool (rfl:false=_))) (by simp [zps]) (fun _ _=>⟨Below.refl _ _,rfl⟩) ?_
   refine zaw true (.bool false) r rfl rfl rfl (fun g w' hd=>Eq.trans (show (g 6).v=.bool false from (hd 6 rfl).1) (congrArg Value.bool (rfl:false=_))) (by simp [zps]) (fun _ _=>⟨Below.refl _ _,rfl⟩) ?_;refine zaw true (.bool false) r rfl rfl rfl (fun g w' hd=>Eq.trans (show (g 6).v=.bool false from (hd 6 rfl).1) (congrArg Value.bool (rfl:false=_))) (by simp [zps]) (fun _ _=>⟨Below.refl _ _,rfl⟩) ?_
   refine zaw true (.bool false) r rfl rfl rfl (fun g w' hd=>Eq.trans (show (g 6).v=.bool false from (hd 6 rfl).1) (congrArg Value.bool (rfl:false=_))) (by simp [zps]) (fun _ _=>⟨Below.refl _ _,rfl⟩) ?_;refine zaw true (.bool false) r rfl rfl rfl (fun g w' hd=>Eq.trans (show (g 6).v=.bool false from (hd 6 rfl).1) (congrArg Value.bool (rfl:false=_))) (by simp [zps]) (fun _ _=>⟨Below.refl _ _,rfl⟩) ?_
   refine fc r (fun fr1 g w' hb' hd r'=>zam r' (b:=false) (v:=(.bool false)) (Eq.trans (show (g 6).v=.bool false from (hd 6 rfl).1) (congrArg Value.bool (rfl:false=_))) rfl bz) ?_;refine fc r (fun fr1 g w' hb' hd r'=>zbD r' (hd 14 rfl).1 bz) ?_
   exact zb5
  intro fr gg w24 hb hΦ hap r;have r:=r.congr (sc ((hΦ 15 rfl).1) (sc ((hΦ 14 rfl).1) (sc ((hΦ 13 rfl).1) (sc ((hΦ 12 rfl).1) (sc ((hΦ 11 rfl).1) (sc ((hΦ 10 rfl).1) (sc ((hΦ 9 rfl).1) (sc ((hΦ 8 rfl).1) (sc ((hΦ 7 rfl).1) (sc ((hΦ 6 rfl).1) (sc ((hΦ 5 rfl).1) (sc ((hΦ 4 rfl).1) (sc ((hΦ 3 rfl).1) (sc ((hΦ 2 rfl).1) (sc ((hΦ 1 rfl).1) (sc ((hΦ 0 rfl).1) rfl))))))))))))))));have hP:=hP.below hb;exact nxy16 false () _ _ _ hD r (kO (zac rfl (zac rfl zaI))) (hP.pick [0,1,2] rfl rfl)
 rintro x25 γ26 fr w27 g r hP hD;have hP:Post No [zpg b1 ((zpe pL0)).toArray 23,memK mg9 x13.2.2.2,zpg b14 ((resC x13.1)).toArray 54] w0 w27:=hP;refine wp_ret ?_;have hv:x25=res:=Option.some.inj hD
 try dsimp only [Exit.then,Exit.inBlock]
 refine zay (fn:=Tryz.f48) r (t:=0) rfl (v:=(.bool x25)) rfl ?_;subst hv;exact ⟨rfl,hP.chg.below⟩
def D.zb6 (a0:Plan):Bool:=(bif (D.zba a0) then (bif (D.zap a0) then (decide (a0.domains > 0)) else false) else false)
theorem zif (w0:World) 
    (a0:Plan) :
    Calls Tryz.prog 54 #[.agg (zpe a0).toArray] w0 (zpt (.bool (D.zb6 a0)) w0):=by
 refine kN Tryz.func54 rfl 14 rfl rfl fun fr r hB=>?_;refine wsr ?_
 refine kX 23 (.agg (zpe a0).toArray) r rfl rfl fun b1 w2 n3 r=>?_;obtain ⟨E1,Z2,H1,hB,zB⟩:=n3.all hB
 refine kA (.bool false) r rfl rfl fun r=>wn (wsr (kG (zpe a0) 6 r rfl H1 ta23 rfl rfl fun r=>?_));refine kE r (ziD w2 a0) rfl cl76 rfl fun w4 hb r=>?_
 have Z4:=hb.size;have H1:=keep hb H1;obtain ⟨hB,zB⟩:=bon hb hB;refine kM (.bool (D.zba a0)) r rfl rfl fun r=>?_;refine zaD (D.zba a0) (fun h5=>?_) (fun h5=>?_)
 ·
  refine s1 r h5 (kG (zpe a0) 6 r rfl H1 ta23 rfl rfl fun r=>s1 r h5 ?_);refine kE r (zex w4 a0) rfl cl77 rfl fun w6 hb r=>?_
  have Z6:=hb.size;have H1:=keep hb H1;obtain ⟨hB,zB⟩:=bon hb hB;refine za0 (.bool (D.zap a0)) r (fun R=>zam r (b:=true) (congrArg Value.bool h5) rfl) rfl fun fr r=>kM (.bool (D.zap a0)) r rfl rfl fun r=>?_;refine zaD (D.zap a0) (fun h7=>?_) (fun h7=>?_)
  ·
   refine s1 r h7 (kF 0 r rfl zjN rfl fun r=>s1 r h7 (kL (I a0.domains) r rfl H1 to3 rfl rfl fun r=>s1 r h7 (kB r rfl rfl rfl rfl rfl fun r=>za0 (.bool (decide (a0.domains > 0))) r (fun R=>zam r (b:=true) (congrArg Value.bool h7) rfl) rfl fun fr r=>kA (.bool (decide (a0.domains > 0))) r rfl rfl fun r=>wn (wp_ret ?_))));have hd:D.zb6 a0=(decide (a0.domains > 0)):=(zal h5).trans ((zal h7).trans (rfl))
   refine zay r rfl rfl ?_;rw [hd];exact ⟨rfl,hB⟩
  refine s0 r h7 fun fr r=>s0 r h7 fun fr r=>s0 r h7 fun fr r=>za0 (.bool false) r (fun R=>zam r (b:=false) (congrArg Value.bool h7) rfl) rfl fun fr r=>kA (.bool false) r rfl rfl fun r=>wn (wp_ret ?_);have hd:D.zb6 a0=false:=(zal h5).trans ((zaf h7).trans (rfl))
  refine zay r rfl rfl ?_;rw [hd];exact ⟨rfl,hB⟩
 refine s0 r h5 fun fr r=>s0 r h5 fun fr r=>za0 (.bool false) r (fun R=>zam r (b:=false) (congrArg Value.bool h5) rfl) rfl fun fr r=>kM (.bool false) r rfl rfl fun r=>s0 r (rfl:false=_) fun fr r=>s0 r (rfl:false=_) fun fr r=>s0 r (rfl:false=_) fun fr r=>za0 (.bool false) r (fun R=>zam r (b:=false) (congrArg Value.bool (rfl:false=_)) rfl) rfl fun fr r=>kA (.bool false) r rfl rfl fun r=>wn (wp_ret ?_);have hd:D.zb6 a0=false:=(zaf h5).trans (rfl)
 refine zay r rfl rfl ?_;rw [hd];exact ⟨rfl,hB⟩
theorem zmW {p:Plan} (hp:PF p) (hnn:p.nodes≤1000) {M:Mem} (hl:Len p M.ws) {c:Int} (hc:0≤c∧c<D.zab p) {l:List Int} (hL:zpw p M.ws c l) (hle:(l.length:Int)≤p.nodes) {fu:Nat} (hfu:1001<fu) :
    D.zdP fu p M 0 c=some (ents p M.ws l):=by
  have hN:=zbe hp;unfold Len at hl
  unfold D.zdP;rw [zhg kw kw,hL.word];simp only [Option.bind_some];refine zia (fun o=>o=some (ents p M.ws l)) (fun (i:Nat) (x:List Entry × Int × Int)=>∃ pre suf,l=pre++suf∧pre.length=i∧x=(ents p M.ws pre,lw suf,(i:Int))) l.length fu ⟨[],l,rfl,rfl,rfl⟩ kw ?_ ?_
  · rintro i _ hi ⟨pre,suf,e,hpl,rfl⟩
    obtain ⟨q,s,rfl⟩:∃ q s,suf=q::s:=by
      cases suf with
      | nil=>rw [e] at hi; simp at hi; omega
      | cons q s=>exact ⟨q,s,rfl⟩
    have hLq:=zpw.app (e ▸ hL);have hq:=hLq.2.1;obtain ⟨q1,q2,q3⟩:=zqf hp hq;have ec:D.zak (lw (q::s))=q:=lnode kw kw
    have hfp:∀ f,fp p q f=sp p q+2+f:=fun f=>rfl
    have hfl:∀ f,0≤f→f<3→D.za8 p q f=fp p q f:=fun f f0 f1=>zqM hp hq ⟨f0,f1⟩
    simp only
    rw [show decide ((i:Int)<p.nodes)=true from by simp; omega,ec,show decide (q≥0)=true from by simpa using hq.1]
    simp only [cond_true,Option.bind_some]
    rw [hfl 2 kw kw,hfl 0 kw kw,hfl 1 kw kw,zhg (by rw [hfp]; omega) (by rw [hfp]; omega),hLq.2.2.word]
    simp only [Option.bind_some]
    rw [znz hLq.2.2 hnn]
    simp only [show ((0:Int)==0)=true from rfl,cond_true]
    rw [zhg (by rw [hfp]; omega) (by rw [hfp]; omega),zhg (by rw [hfp]; omega) (by rw [hfp]; omega)]
    simp only [Option.bind_some]
    have hpn:(pre.length:Int)≤1000:=kw
    have ha:appD (ents p M.ws pre) [(⟨rd M.ws (fp p q 0),rd M.ws (fp p q 1)⟩:Entry)]=some (ents p M.ws (pre++[q])):=by
      unfold appD;rw [if_pos (by simp only [zlA,List.length_singleton,ents,List.length_map]; omega)];unfold ents;rw [List.map_append]
      rfl
    rw [ha]
    simp only [Option.bind_some]
    rw [zaL (show -1000000≤(i:Int)+1 by omega) kw]
    exact ⟨_,rfl,pre++[q],s,by rw [e]; simp,by simp [hpl],rfl⟩
  · rintro _ ⟨pre,suf,e,hpl,rfl⟩
    have hs:suf=[]:=by
      have:=congrArg List.length e;rw [List.length_append] at this
      exact List.length_eq_zero_iff.1 kw
    subst hs;rw [List.append_nil] at e
    subst e;have ec:D.zak (lw [])=-1:=znD;simp only;rw [ec];refine ⟨(ents p M.ws l,lw [],(l.length:Int)),?_,rfl⟩;cases decide ((l.length:Int)<p.nodes) <;> rfl
theorem zo4 {p:Plan} (h:D.zb6 p=true):PF p∧(p.nodes≤40∧p.retire≤40∧p.domains≤6∧p.buckets≤10)∧0<p.domains:=by
  unfold D.zb6 at h
  cases h1:D.zba p <;> rw [h1] at h
  · cases h
  cases h2:D.zap p <;> rw [h2] at h
  · cases h
  have hp:=zkI h2;exact ⟨hp,zow hp h1,by simpa using h⟩
theorem zoB:D.zcg 4000=some true:=by decide +kernel
theorem LAt.start {p:Plan} (hp:PF p) {ws:List Int} (h:LaidAt p ws) {t:Int} (ht:0≤t∧t<p.threads) {c:Int} (hc:rd ws c=0):LAt p t ws ⟨allN p,[],fun _=>⟨0,0,0⟩⟩ 0 c []∧Alone p ws:=by
  have hP:=PoolAt.start hp h ht;refine ⟨⟨hP.toH,fun j j0 j1=>?_,hc,List.nodup_nil,fun q hq=>(by cases hq),List.Pairwise.nil⟩,hP.hz⟩
  have:=hP.hz (t * 3+j) kw kw
  rw [←Int.add_assoc] at this
  exact this
end Go.Proofs.YtikjpdpgdmbdpaaGreat
